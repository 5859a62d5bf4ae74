/- Own texts, one behind the other: rules of a small program logic, walks through the program's functions, plain facts. No condition. -/
import Derived.Test.YtdbadicpbmndbaaGreatZ4
/- What stands apart: its variables, its Norm. Plain facts; no condition. -/
set_option linter.unusedVariables false
set_option linter.unusedSimpArgs false
set_option linter.unnecessarySimpa false
namespace Go.Proofs.YtdbadicpbmndbaaGreat
open Go Lg

theorem sidesL_ofL : ∀ (c : List Li) (ss : List T), ss.length = 2 * c.length → sidesL (ofL c ss) = ss
  | [], [], h => rfl
  | [], _ :: _, h => by simp at h
  | x :: r, [], h => by simp at h
  | x :: r, [a], h => by simp at h; omega
  | x :: r, a :: b :: s, h => by
    show [a, b] ++ sidesL (ofL r s) = _
    rw [sidesL_ofL r s (by simp at h; omega)]; rfl
theorem ofL_ofL : ∀ (c : List Li) (ss us : List T), ss.length = 2 * c.length → us.length = 2 * c.length → ofL (ofL c ss) us = ofL c us
  | [], ss, us, h, k => by cases ss <;> cases us <;> rfl
  | x :: r, [], us, h, k => by simp at h
  | x :: r, [a], us, h, k => by simp at h; omega
  | x :: r, a :: b :: s, [], h, k => by simp at k
  | x :: r, a :: b :: s, [_], h, k => by simp at k; omega
  | x :: r, a :: b :: s, e :: f :: u, h, k => by
    show ofL (⟨x.neg, a, b⟩ :: ofL r s) (e :: f :: u) = _
    simp only [ofL]
    rw [ofL_ofL r s u (by simp at h; omega) (by simp at k; omega)]
/-! ### without variables -/
theorem varsP_has : ∀ {l : List (Nat × T)} {x : Nat × T}, x ∈ l → x.2.head < 0 → -1 - x.2.head ∈ varsP l := by
  intro l
  induction l using snoc_ind with
  | h0 => intro x h; cases h
  | h1 l y ih =>
    intro x h hx
    rw [varsP_snoc]
    rcases List.mem_append.1 h with h | h
    · have := ih h hx
      split
      · exact List.mem_append_left _ this
      · exact this
    · simp at h; subst h
      split
      · simp
      · rename_i hn
        by_cases hm : -1 - x.2.head ∈ varsP l
        · exact hm
        · exact absurd ⟨by omega, hm⟩ hn
theorem hds_parts {t : T} {k : Int} (hk : k ∈ hds t) : ∃ x ∈ partsT 1 t, x.2.head = k := by
  obtain ⟨y, hy, rfl⟩ := List.mem_map.1 hk
  have h2 : y.2 ∈ (visT true t).map (·.2) := List.mem_map_of_mem (f := fun x : Bool × T => x.2) hy
  rw [← snd_T 1 true t] at h2
  obtain ⟨x, hx, e⟩ := List.mem_map.1 h2
  exact ⟨x, hx, by rw [e]⟩
theorem anyV_false {t : T} (h : anyV t = false) : ∀ k ∈ hds t, 0 ≤ k := fun k hk => by
  obtain ⟨x, hx, rfl⟩ := hds_parts hk
  by_cases q : x.2.head < 0
  · have := varsP_has hx q
    unfold anyV at h
    rw [decide_eq_false_iff_not] at h
    have := List.length_pos_of_mem this
    omega
  · omega
mutual
theorem ren_groundT : ∀ (s : T) (ns : List Int), (∀ k ∈ hds (renT ns s).1, 0 ≤ k) → (renT ns s).1 = s
  | .mk h ts, ns, hk => by
    simp only [renT] at hk ⊢
    split
    · rename_i hn
      rw [if_pos hn] at hk
      have := hk _ (by rw [hds_eq2]; exact List.mem_cons_self ..)
      omega
    · rename_i hn
      rw [if_neg hn] at hk
      rw [hds_eq2] at hk
      simp only
      rw [ren_groundL ts ns fun k h => hk k (List.mem_cons_of_mem _ h)]
theorem ren_groundL : ∀ (ts : List T) (ns : List Int), (∀ k ∈ (renL ns ts).1.flatMap hds, 0 ≤ k) → (renL ns ts).1 = ts
  | [], _, _ => by simp [renL]
  | t :: r, ns, hk => by
    simp only [renL, List.flatMap_cons] at hk ⊢
    rw [ren_groundT t ns fun k h => hk k (List.mem_append_left _ h), ren_groundL r _ fun k h => hk k (List.mem_append_right _ h)]
end
mutual
theorem sh_groundT (n : Int) : ∀ t : T, (∀ k ∈ hds t, 0 ≤ k) → shT n t = t
  | .mk h ts, hk => by
    rw [hds_eq2] at hk
    have h0 : 0 ≤ h := hk h (List.mem_cons_self ..)
    show rbT (shF n) (.mk h ts) = _
    simp only [rbT]
    rw [if_neg (by omega), sh_groundL n ts fun k q => hk k (List.mem_cons_of_mem _ q)]
theorem sh_groundL (n : Int) : ∀ ts : List T, (∀ k ∈ ts.flatMap hds, 0 ≤ k) → rbL (shF n) ts = ts
  | [], _ => rfl
  | t :: r, hk => by
    rw [List.flatMap_cons] at hk
    simp only [rbL]
    have h1 := sh_groundT n t fun k q => hk k (List.mem_append_left _ q)
    unfold shT at h1
    rw [h1, sh_groundL n r fun k q => hk k (List.mem_append_right _ q)]
end
theorem apT_sh (n : Int) (t : T) : apT n t = shT n t := by
  unfold apT
  split
  · rfl
  · rename_i h
    exact (sh_groundT n t (anyV_false (by simpa using h))).symm
theorem apL_sh (n : Int) (ts : List T) : ts.map (apT n) = rbL (shF n) ts := by
  rw [rbL_map]; exact List.map_congr_left fun t _ => apT_sh n t
/-! ### variables are greater -/
/-! ### the same Norm -/
theorem renL_mem : ∀ {ts : List T} {ns : List Int} {u : T}, u ∈ (renL ns ts).1 → ∃ t ∈ ts, ∃ ms, u = (renT ms t).1
  | [], ns, u, h => by simp [renL] at h
  | t :: r, ns, u, h => by
    simp only [renL, List.mem_cons] at h
    rcases h with rfl | h
    · exact ⟨t, List.mem_cons_self .., ns, rfl⟩
    · obtain ⟨s, hs, ms, e⟩ := renL_mem h
      exact ⟨s, List.mem_cons_of_mem _ hs, ms, e⟩
theorem apart_good {c d : List Li} (h : apartE c d = false) : (sidesL d).any badT = false ∧ (sidesL (apartC c d)).any badT = false := by
  unfold apartE at h
  rw [Bool.or_eq_false_iff, Bool.or_eq_false_iff] at h
  obtain ⟨h1, _, h3⟩ := h
  refine ⟨h1, ?_⟩
  unfold apartC
  rw [sidesL_ofL _ _ (by rw [List.length_map, renL_len]; exact sidesL_len d)]
  refine List.any_eq_false.2 fun u hu => ?_
  obtain ⟨t, ht, rfl⟩ := List.mem_map.1 hu
  have hb : apBad (byL (varsC c)) t = false := by simpa using List.any_eq_false.1 h3 t ht
  have goal : chkT (apT (byL (varsC c)) t) = 0 := by
    cases hv : anyV t with
    | true =>
      unfold apBad at hb
      rw [hv] at hb
      have he : shE (byL (varsC c)) t = 0 := by simpa using hb
      rw [apT_sh]
      unfold shE at he
      split at he
      · cases he
      · split at he
        · cases he
        · split at he
          · cases he
          · exact he
    | false =>
      obtain ⟨s, hs, ms, rfl⟩ := renL_mem ht
      have hg := anyV_false hv
      rw [apT_sh, sh_groundT _ _ hg, ren_groundT s ms hg]
      have := List.any_eq_false.1 h1 s hs
      unfold badT at this
      simpa using this
  unfold badT
  simp [goal]
theorem apart_size (c d : List Li) : sizeL (sidesL (apartC c d)) ≤ sizeL (sidesL d) := by
  unfold apartC
  rw [sidesL_ofL _ _ (by rw [List.length_map, renL_len]; exact sidesL_len d), apL_sh]
  have h1 := rb_sizeL (shF (byL (varsC c))) 1 (Nat.le_refl _) (fun t _ => by have := t.size_pos; simp [shF, T.size, sizeL]; omega) (renL [] (sidesL d)).1
  have h2 := sizeL_getR [] (sidesL d)
  omega
theorem smC_of {c : List Li} (h : sizeL (sidesL c) ≤ 100000) : SmC c := fun x hx => by
  have h1 := sizeL_getL h x.l (List.mem_flatMap.2 ⟨x, hx, by simp⟩)
  have h2 := sizeL_getL h x.r (List.mem_flatMap.2 ⟨x, hx, by simp⟩)
  omega
theorem norm_size (c : List Li) : sizeL (sidesL (normC c)) ≤ sizeL (sidesL c) := by
  unfold normC
  rw [sidesL_ofL _ _ (by rw [renL_len]; exact sidesL_len c)]
  exact sizeL_getR [] (sidesL c)
end Go.Proofs.YtdbadicpbmndbaaGreat
/- Walks: the document's answers on signatures and terms (layers 1 and 7). -/
set_option linter.unusedVariables false
set_option linter.unusedSimpArgs false
/- short -/
namespace Go.Proofs.YtdbadicpbmndbaaGreat
open Go Lg

theorem toList_loop_len (bs : ByteArray) : ∀ (n i : Nat) (r : List UInt8), bs.size - i = n → (ByteArray.toList.loop bs i r).length = r.length + n := by
  intro n
  induction n with
  | zero => intro i r h; rw [ByteArray.toList.loop, if_neg (by omega)]; simp
  | succ n ih => intro i r h; rw [ByteArray.toList.loop, if_pos (by omega), ih (i + 1) _ (by omega)]; simp; omega
theorem toList_len (bs : ByteArray) : bs.toList.length = bs.size := by
  unfold ByteArray.toList; rw [toList_loop_len bs bs.size 0 [] (by omega)]; simp
theorem nmEq_nil {a : ByteArray} : nmEq a ⟨#[]⟩ = true ↔ a.size < 1 := by
  rw [nmEq_iff]
  have h1 := toList_len a
  have h2 : (⟨#[]⟩ : ByteArray).toList = [] := by decide +kernel
  rw [h2]
  constructor
  · intro h; rw [h] at h1; simp at h1; omega
  · intro h; exact List.eq_nil_of_length_eq_zero (by omega)
theorem any_take_false {α : Type} {p : α → Bool} {l : List α} {k : Nat} (h : ∀ i (h : i < l.length), i < k → p l[i] = false) (hk : k ≤ l.length) : (l.take k).any p = false := by
  rw [List.any_eq_false]
  intro x hx
  obtain ⟨i, hi, rfl⟩ := List.getElem_of_mem hx
  rw [List.length_take] at hi
  rw [List.getElem_take, h i (by omega) (by omega)]; simp
theorem any_all_false {α : Type} {p : α → Bool} {l : List α} (h : ∀ i (h : i < l.length), p l[i] = false) : l.any p = false := by
  have := any_take_false (k := l.length) (fun i hi _ => h i hi) (Nat.le_refl _)
  rwa [List.take_length] at this
theorem any_at_true {α : Type} {p : α → Bool} {l : List α} (i : Nat) (hi : i < l.length) (h : p l[i] = true) : l.any p = true := List.any_eq_true.2 ⟨_, List.getElem_mem hi, h⟩
theorem any_take_true {α : Type} {p : α → Bool} {l : List α} (i k : Nat) (hi : i < k) (hk : k ≤ l.length) (h : p (l[i]'(by omega)) = true) : (l.take k).any p = true :=
  List.any_eq_true.2 ⟨_, List.mem_take_iff_getElem.2 ⟨i, by omega, rfl⟩, h⟩

theorem RightR_does {I : Imm} {v : Value} {gs : List Sy} (hv : RepG I v gs) :
    Does Tryz.prog 70 [v] I [] (fun v _ δ' => v = .bool (rightG gs) ∧ δ' = []) := by
  obtain ⟨ad, c, rfl⟩ := hv.shape
  obtain ⟨_, hc, hb, hat, hok⟩ := hv.open
  have hbad : ∀ i (h : i < gs.length), badS (gs.take i) gs[i] = true → rightG gs = false := fun i h hb => by
    cases hr : rightG gs with
    | false => rfl
    | true => rw [rightG_at hr i h] at hb; cases hb
  refine Does.intro Tryz.func70 rfl Tryz.ntmps70 rfl fun w0 => ?_
  refine code_seq ?_
  refine code_region ?_
  refine op_v (v_assign rfl) rfl ?_
  refine ops_nil ?_
  refine post_next ?_
  refine code_seq ?_
  refine code_seq ?_
  refine code_region ?_
  refine op_v (v_move rfl) rfl ?_
  refine op_v (v_len Tryz.underlying22 rfl) rfl ?_
  by_cases h8 : gs.length < 1
  · refine op_v (v_cmptA rfl rfl rfl) rfl ?_
    refine op_v (v_move rfl) rfl ?_
    refine op_skip rfl rfl (by simp [undef]) rfl ?_
    refine op_skip rfl rfl (by simp [undef]) rfl ?_
    refine op_skip rfl rfl (by simp [undef]) rfl ?_
    refine op_v (v_pickt rfl rfl) rfl ?_
    refine ops_nil ?_
    refine post_next ?_
    refine code_cond_t rfl ?_
    refine code_seq ?_
    refine code_region ?_
    refine op_v (v_assign rfl) rfl ?_
    refine ops_nil ?_
    refine post_next ?_
    refine code_ret ?_
    refine post_ret_then ?_
    refine post_ret (rs := [.tmp 2]) rfl (List.Perm.refl _) (.cons (.tmp rfl) .nil) (List.nil_sublist _) ?_
    have : rightG gs = false := by { cases hr : rightG gs; rfl; have := rightG_len hr; omega }
    exact ⟨by rw [this]; rfl, rfl⟩
  · refine op_v (v_cmpfA rfl rfl rfl) rfl ?_
    refine op_v (v_move rfl) rfl ?_
    refine op_want rfl rfl ?_
    refine op_v (v_move rfl) rfl ?_
    refine op_want rfl rfl ?_
    refine op_v (v_len Tryz.underlying22 rfl) rfl ?_
    by_cases h12 : 256 < gs.length
    · first
        | (refine op_want rfl rfl ?_
           refine op_v (v_cmptA rfl rfl rfl) rfl ?_)
        | (refine op_skip rfl rfl (by simp [undef]) rfl ?_)
      refine op_v (v_pickf rfl rfl) rfl ?_
      refine ops_nil ?_
      refine post_next ?_
      refine code_cond_t rfl ?_
      refine code_seq ?_
      refine code_region ?_
      refine op_v (v_assign rfl) rfl ?_
      refine ops_nil ?_
      refine post_next ?_
      refine code_ret ?_
      refine post_ret_then ?_
      refine post_ret (rs := [.tmp 2]) rfl (List.Perm.refl _) (.cons (.tmp rfl) .nil) (List.nil_sublist _) ?_
      have : rightG gs = false := by { cases hr : rightG gs; rfl; have := rightG_len hr; omega }
      exact ⟨by rw [this]; rfl, rfl⟩
    · have h0 : 0 < gs.length := by omega
      have hs0 : ad.isSome = true := (hat 0 h0).isSome
      first
        | (refine op_want rfl rfl ?_
           refine op_v (v_cmpfA rfl rfl rfl) rfl ?_)
        | (refine op_skip rfl rfl (by simp [undef]) rfl ?_)
      refine op_v (v_pickf rfl rfl) rfl ?_
      refine ops_nil ?_
      refine post_next ?_
      refine code_cond_f rfl ?_
      refine code_skip ?_
      refine post_next ?_
      refine code_seq ?_
      refine code_seq ?_
      refine code_region ?_
      refine op_v (v_assign rfl) rfl ?_
      refine ops_nil ?_
      refine post_next ?_
      refine code_block ?_
      refine code_loop (fun m σ' I' δ' => ∃ k : Nat, m = gs.length - k ∧ k ≤ gs.length ∧ σ' = [(0, .slice ad gs.length c), (3, .int .i64 k)] ∧ I = I' ∧ δ' = [] ∧ ∀ i (h : i < gs.length), i < k → badS (gs.take i) gs[i] = false) gs.length [(0, .slice ad gs.length c), (3, .int .i64 (0 : Nat))] ⟨0, rfl, Nat.zero_le _, rfl, rfl, rfl, fun i _ h => by omega⟩ ⟨rfl, rfl, trivial⟩ ?_
      rintro m _ _ _ ⟨k, rfl, hk, rfl, rfl, rfl, hp⟩
      refine code_seq ?_
      refine code_seq ?_
      refine code_region ?_
      refine op_v (v_move rfl) rfl ?_
      refine op_v (v_move rfl) rfl ?_
      refine op_v (v_len Tryz.underlying22 rfl) rfl ?_
      refine op_v (v_cmp rfl rfl rfl) rfl ?_
      refine ops_nil ?_
      refine post_next ?_
      refine code_cond rfl (fun hc1 => ?_) (fun hc1 => ?_)
      · have hlt : k < gs.length := by simpa using hc1
        have hs1 := (hat k hlt).isSome
        refine code_skip ?_
        refine post_next ?_
        refine code_seq ?_
        refine code_block ?_
        refine code_seq ?_
        refine code_region ?_
        refine op_v (v_move rfl) rfl ?_
        refine op_v (v_move rfl) rfl ?_
        refine op_v (v_indexA Tryz.underlying22 sz85 rfl rfl) rfl ?_
        refine op_v (v_loadI0 ty85 (hat k hlt) rfl rfl rfl) rfl ?_
        refine o_alloc z85 rfl rfl (fun b4 => ?_)
        refine o_store ty85 rfl rfl rfl rfl rfl (by repeat (first | exact Swap.here | apply Swap.there)) rfl ?_
        refine ops_nil ?_
        refine post_next ?_
        refine code_seq ?_
        refine code_seq ?_
        refine code_region ?_
        refine op_v (v_fieldB 0 Tryz.underlying85 rfl rfl fz9 rfl) rfl ?_
        refine op_v (v_loadA ty9 rfl rfl) rfl ?_
        refine op_v (v_lens Tryz.underlying9 rfl) rfl ?_
        by_cases h27 : gs[k].name.size < 1
        · refine op_v (v_cmptA rfl rfl rfl) rfl ?_
          refine op_v (v_move rfl) rfl ?_
          refine op_skip rfl rfl (by simp [undef]) rfl ?_
          refine op_skip rfl rfl (by simp [undef]) rfl ?_
          refine op_skip rfl rfl (by simp [undef]) rfl ?_
          refine op_skip rfl rfl (by simp [undef]) rfl ?_
          refine op_v (v_pickt rfl rfl) rfl ?_
          refine op_v (v_move rfl) rfl ?_
          refine op_skip rfl rfl (by simp [undef]) rfl ?_
          refine op_skip rfl rfl (by simp [undef]) rfl ?_
          refine op_skip rfl rfl (by simp [undef]) rfl ?_
          refine op_v (v_pickt rfl rfl) rfl ?_
          refine op_v (v_move rfl) rfl ?_
          refine op_skip rfl rfl (by simp [undef]) rfl ?_
          refine op_skip rfl rfl (by simp [undef]) rfl ?_
          refine op_skip rfl rfl (by simp [undef]) rfl ?_
          refine op_v (v_pickt rfl rfl) rfl ?_
          refine op_v (v_move rfl) rfl ?_
          refine op_skip rfl rfl (by simp [undef]) rfl ?_
          refine op_skip rfl rfl (by simp [undef]) rfl ?_
          refine op_skip rfl rfl (by simp [undef]) rfl ?_
          refine op_v (v_pickt rfl rfl) rfl ?_
          refine op_v (v_move rfl) rfl ?_
          refine op_skip rfl rfl (by simp [undef]) rfl ?_
          refine op_skip rfl rfl (by simp [undef]) rfl ?_
          refine op_skip rfl rfl (by simp [undef]) rfl ?_
          refine op_v (v_pickt rfl rfl) rfl ?_
          refine ops_nil ?_
          refine post_next ?_
          refine code_cond_t rfl ?_
          refine code_seq ?_
          refine code_region ?_
          refine op_v (v_assign rfl) rfl ?_
          refine ops_nil ?_
          refine post_next ?_
          refine code_ret ?_
          refine post_ret_then ?_
          refine post_ret_block ?_
          refine post_ret_then ?_
          refine post_ret_then ?_
          refine post_ret_block ?_
          refine post_ret_then ?_
          refine post_ret (rs := [.tmp 2]) rfl (List.Perm.refl _) (.cons (.tmp rfl) .nil) (List.nil_sublist _) ?_
          exact ⟨by rw [hbad k hlt (by unfold badS; rw [nmEq_nil.2 h27]; rfl)]; rfl, rfl⟩
        · refine op_v (v_cmpfA rfl rfl rfl) rfl ?_
          refine op_v (v_move rfl) rfl ?_
          first
            | (refine op_want rfl rfl ?_
               refine op_v (v_fieldB 0 Tryz.underlying85 rfl rfl fz9 rfl) rfl ?_)
            | (refine op_skip rfl rfl (by simp [undef]) rfl ?_)
          refine op_want rfl rfl ?_
          refine op_v (v_loadA ty9 rfl rfl) rfl ?_
          refine op_want rfl rfl ?_
          refine op_v (v_lens Tryz.underlying9 rfl) rfl ?_
          by_cases h32 : 64 < gs[k].name.size
          · first
              | (refine op_want rfl rfl ?_
                 refine op_v (v_cmptA rfl rfl rfl) rfl ?_)
              | (refine op_skip rfl rfl (by simp [undef]) rfl ?_)
            refine op_v (v_pickf rfl rfl) rfl ?_
            refine op_v (v_move rfl) rfl ?_
            refine op_skip rfl rfl (by simp [undef]) rfl ?_
            refine op_skip rfl rfl (by simp [undef]) rfl ?_
            refine op_skip rfl rfl (by simp [undef]) rfl ?_
            refine op_v (v_pickt rfl rfl) rfl ?_
            refine op_v (v_move rfl) rfl ?_
            refine op_skip rfl rfl (by simp [undef]) rfl ?_
            refine op_skip rfl rfl (by simp [undef]) rfl ?_
            refine op_skip rfl rfl (by simp [undef]) rfl ?_
            refine op_v (v_pickt rfl rfl) rfl ?_
            refine op_v (v_move rfl) rfl ?_
            refine op_skip rfl rfl (by simp [undef]) rfl ?_
            refine op_skip rfl rfl (by simp [undef]) rfl ?_
            refine op_skip rfl rfl (by simp [undef]) rfl ?_
            refine op_v (v_pickt rfl rfl) rfl ?_
            refine op_v (v_move rfl) rfl ?_
            refine op_skip rfl rfl (by simp [undef]) rfl ?_
            refine op_skip rfl rfl (by simp [undef]) rfl ?_
            refine op_skip rfl rfl (by simp [undef]) rfl ?_
            refine op_v (v_pickt rfl rfl) rfl ?_
            refine ops_nil ?_
            refine post_next ?_
            refine code_cond_t rfl ?_
            refine code_seq ?_
            refine code_region ?_
            refine op_v (v_assign rfl) rfl ?_
            refine ops_nil ?_
            refine post_next ?_
            refine code_ret ?_
            refine post_ret_then ?_
            refine post_ret_block ?_
            refine post_ret_then ?_
            refine post_ret_then ?_
            refine post_ret_block ?_
            refine post_ret_then ?_
            refine post_ret (rs := [.tmp 2]) rfl (List.Perm.refl _) (.cons (.tmp rfl) .nil) (List.nil_sublist _) ?_
            exact ⟨by rw [hbad k hlt (by simp [badS, h32])]; rfl, rfl⟩
          · first
              | (refine op_want rfl rfl ?_
                 refine op_v (v_cmpfA rfl rfl rfl) rfl ?_)
              | (refine op_skip rfl rfl (by simp [undef]) rfl ?_)
            refine op_v (v_pickf rfl rfl) rfl ?_
            refine op_v (v_move rfl) rfl ?_
            first
              | (refine op_want rfl rfl ?_
                 refine op_v (v_fieldB 1 Tryz.underlying85 rfl rfl fz3 rfl) rfl ?_)
              | (refine op_skip rfl rfl (by simp [undef]) rfl ?_)
            refine op_want rfl rfl ?_
            refine op_v (v_loadA ty3 rfl rfl) rfl ?_
            by_cases h37 : gs[k].ar < 0
            · first
                | (refine op_want rfl rfl ?_
                   refine op_v (v_cmptA rfl rfl rfl) rfl ?_)
                | (refine op_skip rfl rfl (by simp [undef]) rfl ?_)
              refine op_v (v_pickf rfl rfl) rfl ?_
              refine op_v (v_move rfl) rfl ?_
              refine op_skip rfl rfl (by simp [undef]) rfl ?_
              refine op_skip rfl rfl (by simp [undef]) rfl ?_
              refine op_skip rfl rfl (by simp [undef]) rfl ?_
              refine op_v (v_pickt rfl rfl) rfl ?_
              refine op_v (v_move rfl) rfl ?_
              refine op_skip rfl rfl (by simp [undef]) rfl ?_
              refine op_skip rfl rfl (by simp [undef]) rfl ?_
              refine op_skip rfl rfl (by simp [undef]) rfl ?_
              refine op_v (v_pickt rfl rfl) rfl ?_
              refine op_v (v_move rfl) rfl ?_
              refine op_skip rfl rfl (by simp [undef]) rfl ?_
              refine op_skip rfl rfl (by simp [undef]) rfl ?_
              refine op_skip rfl rfl (by simp [undef]) rfl ?_
              refine op_v (v_pickt rfl rfl) rfl ?_
              refine ops_nil ?_
              refine post_next ?_
              refine code_cond_t rfl ?_
              refine code_seq ?_
              refine code_region ?_
              refine op_v (v_assign rfl) rfl ?_
              refine ops_nil ?_
              refine post_next ?_
              refine code_ret ?_
              refine post_ret_then ?_
              refine post_ret_block ?_
              refine post_ret_then ?_
              refine post_ret_then ?_
              refine post_ret_block ?_
              refine post_ret_then ?_
              refine post_ret (rs := [.tmp 2]) rfl (List.Perm.refl _) (.cons (.tmp rfl) .nil) (List.nil_sublist _) ?_
              exact ⟨by rw [hbad k hlt (by simp [badS, h37])]; rfl, rfl⟩
            · first
                | (refine op_want rfl rfl ?_
                   refine op_v (v_cmpfA rfl rfl rfl) rfl ?_)
                | (refine op_skip rfl rfl (by simp [undef]) rfl ?_)
              refine op_v (v_pickf rfl rfl) rfl ?_
              refine op_v (v_move rfl) rfl ?_
              first
                | (refine op_want rfl rfl ?_
                   refine op_v (v_fieldB 1 Tryz.underlying85 rfl rfl fz3 rfl) rfl ?_)
                | (refine op_skip rfl rfl (by simp [undef]) rfl ?_)
              refine op_want rfl rfl ?_
              refine op_v (v_loadA ty3 rfl rfl) rfl ?_
              by_cases h42 : 8 < gs[k].ar
              · first
                  | (refine op_want rfl rfl ?_
                     refine op_v (v_cmptA rfl rfl rfl) rfl ?_)
                  | (refine op_skip rfl rfl (by simp [undef]) rfl ?_)
                refine op_v (v_pickf rfl rfl) rfl ?_
                refine op_v (v_move rfl) rfl ?_
                refine op_skip rfl rfl (by simp [undef]) rfl ?_
                refine op_skip rfl rfl (by simp [undef]) rfl ?_
                refine op_skip rfl rfl (by simp [undef]) rfl ?_
                refine op_v (v_pickt rfl rfl) rfl ?_
                refine op_v (v_move rfl) rfl ?_
                refine op_skip rfl rfl (by simp [undef]) rfl ?_
                refine op_skip rfl rfl (by simp [undef]) rfl ?_
                refine op_skip rfl rfl (by simp [undef]) rfl ?_
                refine op_v (v_pickt rfl rfl) rfl ?_
                refine ops_nil ?_
                refine post_next ?_
                refine code_cond_t rfl ?_
                refine code_seq ?_
                refine code_region ?_
                refine op_v (v_assign rfl) rfl ?_
                refine ops_nil ?_
                refine post_next ?_
                refine code_ret ?_
                refine post_ret_then ?_
                refine post_ret_block ?_
                refine post_ret_then ?_
                refine post_ret_then ?_
                refine post_ret_block ?_
                refine post_ret_then ?_
                refine post_ret (rs := [.tmp 2]) rfl (List.Perm.refl _) (.cons (.tmp rfl) .nil) (List.nil_sublist _) ?_
                exact ⟨by rw [hbad k hlt (by simp [badS, h42])]; rfl, rfl⟩
              · first
                  | (refine op_want rfl rfl ?_
                     refine op_v (v_cmpfA rfl rfl rfl) rfl ?_)
                  | (refine op_skip rfl rfl (by simp [undef]) rfl ?_)
                refine op_v (v_pickf rfl rfl) rfl ?_
                refine op_v (v_move rfl) rfl ?_
                first
                  | (refine op_want rfl rfl ?_
                     refine op_v (v_fieldB 2 Tryz.underlying85 rfl rfl fz3 rfl) rfl ?_)
                  | (refine op_skip rfl rfl (by simp [undef]) rfl ?_)
                refine op_want rfl rfl ?_
                refine op_v (v_loadA ty3 rfl rfl) rfl ?_
                by_cases h47 : gs[k].wt < 1
                · first
                    | (refine op_want rfl rfl ?_
                       refine op_v (v_cmptA rfl rfl rfl) rfl ?_)
                    | (refine op_skip rfl rfl (by simp [undef]) rfl ?_)
                  refine op_v (v_pickf rfl rfl) rfl ?_
                  refine op_v (v_move rfl) rfl ?_
                  refine op_skip rfl rfl (by simp [undef]) rfl ?_
                  refine op_skip rfl rfl (by simp [undef]) rfl ?_
                  refine op_skip rfl rfl (by simp [undef]) rfl ?_
                  refine op_v (v_pickt rfl rfl) rfl ?_
                  refine ops_nil ?_
                  refine post_next ?_
                  refine code_cond_t rfl ?_
                  refine code_seq ?_
                  refine code_region ?_
                  refine op_v (v_assign rfl) rfl ?_
                  refine ops_nil ?_
                  refine post_next ?_
                  refine code_ret ?_
                  refine post_ret_then ?_
                  refine post_ret_block ?_
                  refine post_ret_then ?_
                  refine post_ret_then ?_
                  refine post_ret_block ?_
                  refine post_ret_then ?_
                  refine post_ret (rs := [.tmp 2]) rfl (List.Perm.refl _) (.cons (.tmp rfl) .nil) (List.nil_sublist _) ?_
                  exact ⟨by rw [hbad k hlt (by simp [badS, h47])]; rfl, rfl⟩
                · first
                    | (refine op_want rfl rfl ?_
                       refine op_v (v_cmpfA rfl rfl rfl) rfl ?_)
                    | (refine op_skip rfl rfl (by simp [undef]) rfl ?_)
                  refine op_v (v_pickf rfl rfl) rfl ?_
                  refine op_v (v_move rfl) rfl ?_
                  first
                    | (refine op_want rfl rfl ?_
                       refine op_v (v_fieldB 2 Tryz.underlying85 rfl rfl fz3 rfl) rfl ?_)
                    | (refine op_skip rfl rfl (by simp [undef]) rfl ?_)
                  refine op_want rfl rfl ?_
                  refine op_v (v_loadA ty3 rfl rfl) rfl ?_
                  by_cases h52 : 1000 < gs[k].wt
                  · first
                      | (refine op_want rfl rfl ?_
                         refine op_v (v_cmptA rfl rfl rfl) rfl ?_)
                      | (refine op_skip rfl rfl (by simp [undef]) rfl ?_)
                    refine op_v (v_pickf rfl rfl) rfl ?_
                    refine ops_nil ?_
                    refine post_next ?_
                    refine code_cond_t rfl ?_
                    refine code_seq ?_
                    refine code_region ?_
                    refine op_v (v_assign rfl) rfl ?_
                    refine ops_nil ?_
                    refine post_next ?_
                    refine code_ret ?_
                    refine post_ret_then ?_
                    refine post_ret_block ?_
                    refine post_ret_then ?_
                    refine post_ret_then ?_
                    refine post_ret_block ?_
                    refine post_ret_then ?_
                    refine post_ret (rs := [.tmp 2]) rfl (List.Perm.refl _) (.cons (.tmp rfl) .nil) (List.nil_sublist _) ?_
                    exact ⟨by rw [hbad k hlt (by simp [badS, h52])]; rfl, rfl⟩
                  · first
                      | (refine op_want rfl rfl ?_
                         refine op_v (v_cmpfA rfl rfl rfl) rfl ?_)
                      | (refine op_skip rfl rfl (by simp [undef]) rfl ?_)
                    refine op_v (v_pickf rfl rfl) rfl ?_
                    refine ops_nil ?_
                    refine post_next ?_
                    refine code_cond_f rfl ?_
                    refine code_skip ?_
                    refine post_next ?_
                    refine code_seq ?_
                    refine code_region ?_
                    refine op_v (v_assign rfl) rfl ?_
                    refine ops_nil ?_
                    refine post_next ?_
                    refine code_block ?_
                    refine code_loop (fun m σ' I' δ' => ∃ j : Nat, m = k - j ∧ j ≤ k ∧ σ' = [(0, .slice ad gs.length c), (3, .int .i64 k), (4, .pointer (some ⟨b4, 0, none⟩)), (5, .int .i64 j)] ∧ I = I' ∧ δ' = [.box b4 85 gs[k].cs] ∧ ∀ i (h : i < gs.length), i < j → nmEq gs[i].name gs[k].name = false) k [(0, .slice ad gs.length c), (3, .int .i64 k), (4, .pointer (some ⟨b4, 0, none⟩)), (5, .int .i64 (0 : Nat))] ⟨0, rfl, Nat.zero_le _, rfl, rfl, rfl, fun i _ h => by omega⟩ ⟨rfl, rfl, rfl, rfl, trivial⟩ ?_
                    rintro m _ _ _ ⟨j, rfl, hj, rfl, rfl, rfl, hq⟩
                    refine code_seq ?_
                    refine code_seq ?_
                    refine code_region ?_
                    refine op_v (v_move rfl) rfl ?_
                    refine op_v (v_move rfl) rfl ?_
                    refine op_v (v_cmp rfl rfl rfl) rfl ?_
                    refine ops_nil ?_
                    refine post_next ?_
                    refine code_cond rfl (fun hc3 => ?_) (fun hc3 => ?_)
                    · have hltj : j < k := by simpa using hc3
                      have hltj2 : j < gs.length := by omega
                      have hs2 := (hat j hltj2).isSome
                      refine code_skip ?_
                      refine post_next ?_
                      refine code_seq ?_
                      refine code_block ?_
                      refine code_seq ?_
                      refine code_draw (.fl 0 (.fl 1 (.fl 2 (.fl 3 (.fl 4 (.fl 5 (.fl 6 (.fl 7 .done)))))))) (fun _ => _) mixed (by kernel_rfl) (by kernel_rfl) (fun _ => (List.Sublist.refl _)) ?_
                      refine e_fl rfl rfl (fun hs_ => PF.mk rfl (v_move rfl) hs_) ?_
                      refine e_fl rfl rfl (fun hs_ => PF.mk rfl (v_move rfl) hs_) ?_
                      refine e_fl rfl rfl (fun hs_ => PF.mk rfl (v_indexA Tryz.underlying22 sz85 rfl rfl) hs_) ?_
                      refine e_fl rfl rfl (fun hs_ => PF.mk rfl (v_fieldI 0 Tryz.underlying85 rfl rfl fz9 rfl (by assumption)) hs_) ?_
                      refine e_fl rfl rfl (fun hs_ => PF.mk rfl (v_loadI0 ty9 (hat j hltj2) rfl rfl rfl) hs_) ?_
                      refine e_fl rfl rfl (fun hs_ => PF.mk rfl (v_fieldB 0 Tryz.underlying85 rfl rfl fz9 rfl) hs_) ?_
                      refine e_fl rfl rfl (fun hs_ => PF.mk rfl (v_loadA ty9 rfl rfl) hs_) ?_
                      refine e_fl rfl rfl (fun hs_ => PF.mk rfl (v_eqs (z := nmEq gs[j].name gs[k].name) rfl rfl rfl) hs_) ?_
                      refine e_done ?_
                      refine post_next ?_
                      refine code_cond rfl (fun hc4 => ?_) (fun hc4 => ?_)
                      · have h66 : nmEq gs[j].name gs[k].name = true := hc4
                        refine code_seq ?_
                        refine code_region ?_
                        refine op_v (v_assign rfl) rfl ?_
                        refine ops_nil ?_
                        refine post_next ?_
                        refine code_ret ?_
                        refine post_ret_block ?_
                        refine post_ret_then ?_
                        refine post_ret_then ?_
                        refine post_ret_block ?_
                        refine post_ret_block ?_
                        refine post_ret_then ?_
                        refine post_ret_then ?_
                        refine post_ret_block ?_
                        refine post_ret_then ?_
                        refine post_ret (rs := [.tmp 2]) rfl (List.Perm.refl _) (.cons (.tmp rfl) .nil) (List.nil_sublist _) ?_
                        exact ⟨by rw [hbad k hlt (by have hx := any_take_true (p := fun s => nmEq s.name gs[k].name) (l := gs) j k hltj (by omega) h66; unfold badS; rw [hx]; simp)]; rfl, rfl⟩
                      · have h66 : nmEq gs[j].name gs[k].name = false := hc4
                        refine code_skip ?_
                        refine post_out ?_
                        refine post_next ?_
                        refine code_region ?_
                        refine op_v (v_move rfl) rfl ?_
                        refine op_v (v_addb rfl rfl rfl (by omega)) rfl ?_
                        refine op_v (v_assign rfl) rfl ?_
                        refine ops_nil ?_
                        refine post_again (k - (j + 1)) [(0, .slice ad gs.length c), (3, .int .i64 k), (4, .pointer (some ⟨b4, 0, none⟩)), (5, .int .i64 (j + 1 : Nat))] (by omega) ⟨j + 1, rfl, hltj, rfl, rfl, rfl, ?_⟩ ⟨rfl, rfl, rfl, rfl, trivial⟩
                        intro i h hi
                        rcases Nat.lt_or_ge i j with hik | hik
                        · exact hq i h hik
                        have hik2 : i = j := by omega
                        subst hik2
                        exact h66
                    · have hgej : j = k := by simp at hc3; omega
                      refine code_exit ?_
                      refine post_exit_then ?_
                      refine post_exit_then ?_
                      refine post_exit ?_
                      refine post_out ?_
                      refine post_next ?_
                      refine code_region ?_
                      refine op_v (v_move rfl) rfl ?_
                      refine op_v (v_addb rfl rfl rfl (by omega)) rfl ?_
                      refine op_v (v_assign rfl) rfl ?_
                      refine ops_nil ?_
                      refine PostJ.view View.nil ?_
                      refine post_again (gs.length - (k + 1)) [(0, .slice ad gs.length c), (3, .int .i64 (k + 1 : Nat))] (by omega) ⟨k + 1, rfl, hlt, rfl, rfl, rfl, ?_⟩ ⟨rfl, rfl, trivial⟩
                      intro i h hi
                      rcases Nat.lt_or_ge i k with hik | hik
                      · exact hp i h hik
                      have hik2 : i = k := by omega
                      subst hik2
                      have h35 : nmEq gs[i].name ⟨#[]⟩ = false := by { cases hn : nmEq gs[i].name ⟨#[]⟩; rfl; exact absurd (nmEq_nil.1 hn) h27 }
                      have h43 := any_take_false (p := fun s => nmEq s.name gs[i].name) (k := i) (fun i2 h2 h3 => hq i2 h2 (by omega)) (by omega)
                      unfold badS
                      rw [h35, h43]
                      simp; omega
      · have hge : k = gs.length := by simp at hc1; omega
        refine code_exit ?_
        refine post_exit_then ?_
        refine post_exit_then ?_
        refine post_exit ?_
        refine post_next ?_
        refine code_seq ?_
        refine code_region ?_
        refine op_v (v_move rfl) rfl ?_
        refine op_v (v_indexA Tryz.underlying22 sz85 rfl rfl) rfl ?_
        refine op_v (v_loadI0 (m := 0) ty85 (by have := hat 0 h0; simpa using this) rfl rfl rfl) rfl ?_
        refine op_v (v_build bl85 rfl rfl) rfl ?_
        refine op_v (v_eqSy (a := gs[0]'h0) (b := truthS) (z := syEq (gs[0]'h0) truthS) syTy rfl rfl rfl) rfl ?_
        refine op_v (v_assign rfl) rfl ?_
        refine ops_nil ?_
        refine post_next ?_
        refine code_ret ?_
        refine post_ret (rs := [.tmp 2]) rfl (List.Perm.refl _) (.cons (.tmp rfl) .nil) (List.nil_sublist _) ?_
        have hall : ∀ i (h : i < gs.length), badS (gs.take i) gs[i] = false := fun i h => hp i h (by omega)
        have : rightG gs = syEq (gs[0]'h0) truthS := by
          cases hq : syEq (gs[0]'h0) truthS with
          | true => exact rightG_of h0 (by omega) hq hall
          | false =>
            cases hr : rightG gs with
            | false => rfl
            | true =>
              have h1 := chkG_head h0 (by rw [hq]; simp)
              simp [chkG, hr] at h1
        exact ⟨by rw [this]; rfl, rfl⟩

theorem Depth_does : ∀ (n : Nat) (t : T), t.size ≤ n → t.size ≤ 1000000000 → ∀ (I : Imm) (v : Value), RepT I v t →
    Does Tryz.prog 161 [v] I [] (fun v I' δ' => v = .int .i64 (depT t) ∧ δ' = []) := by
  intro n
  induction n with
  | zero => intro t ht; have := t.size_pos; omega
  | succ n ih =>
    intro t ht hbig I v hv
    obtain ⟨h, ts⟩ := t
    obtain ⟨ad, c, ss, rfl, hr, hc, hb, hat, hsub⟩ := hv.elim
    have hsz : (T.mk h ts).size = 1 + sizeL ts := by simp [T.size]
    have hds := depT_size (.mk h ts)
    refine Does.intro Tryz.func161 rfl Tryz.ntmps161 rfl fun w0 => ?_
    refine code_seq ?_
    refine code_region ?_
    refine o_box rfl rfl rfl (fun b1 => ?_)
    refine op_v (v_assign rfl) rfl ?_
    refine ops_nil ?_
    refine post_next ?_
    refine code_seq ?_
    refine code_region ?_
    refine op_v (v_assign rfl) rfl ?_
    refine ops_nil ?_
    refine post_next ?_
    refine code_seq ?_
    refine code_seq ?_
    refine code_region ?_
    refine op_v (v_assign rfl) rfl ?_
    refine ops_nil ?_
    refine post_next ?_
    refine code_block ?_
    refine code_loop (fun m σ' I' δ' => ∃ k : Nat, m = ts.length - k ∧ k ≤ ts.length ∧ σ' = [(1, .pointer (some ⟨b1, 0, none⟩)), (3, .int .i64 (depL (ts.take k) : Nat)), (4, .int .i64 k)] ∧ I.le I' ∧ δ' = [.box b1 48 [.int .i64 h, .slice ad ts.length c]]) ts.length [(1, .pointer (some ⟨b1, 0, none⟩)), (3, .int .i64 (0 : Nat)), (4, .int .i64 (0 : Nat))] ⟨0, rfl, Nat.zero_le _, rfl, Imm.le_refl _, rfl⟩ ⟨rfl, rfl, rfl, trivial⟩ ?_
    rintro m _ I0 _ ⟨k, rfl, hk, rfl, hI0, rfl⟩
    refine code_seq ?_
    refine code_seq ?_
    refine code_region ?_
    refine op_v (v_move rfl) rfl ?_
    refine op_v (v_fieldB 1 Tryz.underlying48 rfl rfl fz46 rfl) rfl ?_
    refine op_v (v_loadA ty46 rfl rfl) rfl ?_
    refine op_v (v_len Tryz.underlying46 rfl) rfl ?_
    refine op_v (v_cmp rfl rfl rfl) rfl ?_
    refine ops_nil ?_
    refine post_next ?_
    refine code_cond rfl (fun hc0 => ?_) (fun hc0 => ?_)
    · have hlt : k < ts.length := by simpa using hc0
      have hs1 := (hat k hlt).isSome
      have hm := sizeL_mem ts k hlt
      refine code_skip ?_
      refine post_next ?_
      refine code_seq ?_
      refine code_block ?_
      refine code_region ?_
      refine op_v (v_move rfl) rfl ?_
      refine op_v (v_fieldB 1 Tryz.underlying48 rfl rfl fz46 rfl) rfl ?_
      refine op_v (v_loadA ty46 rfl rfl) rfl ?_
      refine op_v (v_move rfl) rfl ?_
      refine op_v (v_indexA Tryz.underlying46 sz48 rfl rfl) rfl ?_
      refine op_v (v_loadI0 ty48 ((hat k hlt).mono hI0) rfl rfl rfl) rfl ?_
      refine op_call pl161 rfl rfl ((ih ts[k] (by omega) (by omega) _ _ ((hsub k hlt).mono hI0))) Parts.none ?_
      rintro _ I18 _ hI18 ⟨rfl, rfl⟩
      refine op_v (v_max rfl rfl) rfl ?_
      refine op_v (v_assign rfl) rfl ?_
      refine ops_nil ?_
      refine post_out ?_
      refine post_next ?_
      refine code_region ?_
      refine op_v (v_move rfl) rfl ?_
      refine op_v (v_addb rfl rfl rfl (by omega)) rfl ?_
      refine op_v (v_assign rfl) rfl ?_
      refine ops_nil ?_
      refine post_again (ts.length - (k + 1)) [(1, .pointer (some ⟨b1, 0, none⟩)), (3, .int .i64 (max (depL (ts.take k) : Nat) (depT ts[k] : Nat))), (4, .int .i64 ((k + 1 : Nat) : Int))] (by omega) ⟨k + 1, rfl, hlt, by rw [depL_take ts k hlt]; congr 4; omega, Imm.le_trans hI0 hI18, rfl⟩ ⟨rfl, rfl, rfl, trivial⟩
    · have hge : k = ts.length := by simp at hc0; omega
      refine code_exit ?_
      refine post_exit_then ?_
      refine post_exit_then ?_
      refine post_exit ?_
      refine post_next ?_
      refine code_seq ?_
      refine code_region ?_
      rw [hge, List.take_length]
      have h2 : depT (T.mk h ts) = 1 + depL ts := by simp [depT]
      have hdl : depL ts ≤ 1000000000 := by omega
      refine op_v (v_move rfl) rfl ?_
      refine op_v (v_addb rfl rfl rfl (by omega)) rfl ?_
      refine op_v (v_assign rfl) rfl ?_
      refine ops_nil ?_
      refine post_next ?_
      refine code_ret ?_
      refine post_ret (rs := [.tmp 2]) rfl (List.Perm.refl _) (.cons (.tmp rfl) .nil) (List.nil_sublist _) ?_
      exact ⟨by simp only [outV, depT]; congr 2; omega, rfl⟩
end Go.Proofs.YtdbadicpbmndbaaGreat
/- Walks: the document's answers on terms of a signature. -/
set_option linter.unusedVariables false
set_option linter.unusedSimpArgs false
set_option linter.unnecessarySimpa false
/- short -/
namespace Go.Proofs.YtdbadicpbmndbaaGreat
open Go Lg

/-! ### plain -/
theorem any_partsL (d : Nat) : ∀ ts : List T, (partsL d ts).any badN = ts.any fun t => (partsT 1 t).any badN
  | [] => rfl
  | t :: r => by rw [partsL, List.any_append, List.any_cons, any_partsL d r, any_T d 1 t]
theorem any_visL (p : Bool × T → Bool) : ∀ ts : List T, (visL ts).any p = ts.any fun t => (visT false t).any p
  | [] => rfl
  | t :: r => by rw [visL, List.any_append, List.any_cons, any_visL p r]
theorem unk_vis (gs : List Sy) (b : Bool) (t : T) : (visT b t).any (unkB gs) = unkG gs t := by
  unfold unkG; rw [visT_eq, visT_eq]; rfl
theorem unkG_eq (gs : List Sy) (t : T) : unkG gs t = (unkB gs (true, t) || t.args.any (unkG gs)) := by
  unfold unkG
  rw [visT_eq, List.any_cons, any_visL]
  congr 2
  funext u
  exact unk_vis gs false u
theorem mixG_eq (gs : List Sy) (t : T) : mixG gs t = t.args.any fun u => mixB gs (false, u) || mixG gs u := by
  have h0 : ∀ u : T, mixB gs (true, u) = false := fun u => by simp [mixB]
  have h1 : ∀ u : T, mixG gs u = (visL u.args).any (mixB gs) := fun u => by unfold mixG; rw [visT_eq, List.any_cons, h0]; simp
  rw [h1, any_visL]
  congr 1
  funext u
  rw [visT_eq, List.any_cons, h1 u]
def badN1 (t : T) : Bool := (partsT 1 t).any badN
theorem badN1_eq (h : Int) (ts : List T) : badN1 (.mk h ts) = (badN (1, .mk h ts) || ts.any badN1) := by
  unfold badN1
  rw [partsT, List.any_cons, any_partsL]
theorem chkT_args {h : Int} {ts : List T} (hc : chkT (.mk h ts) = 0) : (h < 0 → ts = []) ∧ ∀ k (hk : k < ts.length), chkT ts[k] = 0 :=
  ⟨fun hn => (chk_vis hc (true, .mk h ts) (by rw [visT_eq]; exact List.mem_cons_self ..)).1 hn, fun k hk => chk_part hc k hk⟩
def truG (gs : List Sy) (t : T) : Bool := decide (0 ≤ t.head) && (decide (t.head < gs.length) && trG gs t.head)
theorem mixB_tru {gs : List Sy} {t : T} (h : unkG gs t = false) : mixB gs (false, t) = truG gs t := by
  have h2 : unkB gs (false, t) = false := by rw [unkG_eq] at h; simp only [Bool.or_eq_false_iff] at h; exact h.1
  unfold mixB truG
  rw [h2]
  by_cases h0 : 0 ≤ t.head
  · have : ¬ (gs.length : Int) ≤ t.head := by
      intro hq; simp [unkB, h0, hq] at h2
    simp [h0, show t.head < gs.length by omega]
  · simp [h0]
theorem badN_iff {h : Int} {ts : List T} : badN (1, .mk h ts) = true ↔ (h < 0 ∧ 0 < ts.length) ∨ h < -256 ∨ 1023 < h ∨ 8 < ts.length := by
  have e : badN (1, .mk h ts) = (decide (h < 0) && decide (0 < ts.length) || decide (h < -256) || decide (1023 < h) || decide (8 < ts.length)) := rfl
  rw [e]; simp only [Bool.or_eq_true, Bool.and_eq_true, decide_eq_true_eq, or_assoc]
theorem unkB_iff {gs : List Sy} {b : Bool} {h : Int} {ts : List T} : unkB gs (b, .mk h ts) = true ↔ 0 ≤ h ∧ ((gs.length : Int) ≤ h ∨ (ts.length : Int) ≠ arG gs h) := by
  have e : unkB gs (b, .mk h ts) = (decide (0 ≤ h) && (decide ((gs.length : Int) ≤ h) || decide ((ts.length : Int) ≠ arG gs h))) := rfl
  rw [e]; simp only [Bool.or_eq_true, Bool.and_eq_true, decide_eq_true_eq]
/-! ### walks -/
theorem good_does : ∀ (n : Nat) (t : T), t.size ≤ n → ∀ (I : Imm) (v : Value), RepT I v t →
    Does Tryz.prog 162 [v] I [] (fun v I' δ' => v = .bool (!badN1 t) ∧ δ' = []) := by
  intro n
  induction n with
  | zero => intro t ht; have := t.size_pos; omega
  | succ n ih =>
    intro t ht I v hv
    obtain ⟨h, ts⟩ := t
    obtain ⟨ad, c, ss, rfl, hr, hc, hb, hat, hsub⟩ := hv.elim
    have hsz : (T.mk h ts).size = 1 + sizeL ts := by simp [T.size]
    have hbn : badN (1, .mk h ts) = true → badN1 (.mk h ts) = true := fun q => by rw [badN1_eq, q]; rfl
    refine Does.intro Tryz.func162 rfl Tryz.ntmps162 rfl fun w0 => ?_
    refine code_seq ?_
    refine code_region ?_
    refine o_box rfl rfl rfl (fun b1 => ?_)
    refine op_v (v_assign rfl) rfl ?_
    refine ops_nil ?_
    refine post_next ?_
    refine code_seq ?_
    refine code_seq ?_
    refine code_region ?_
    refine op_v (v_fieldB 0 Tryz.underlying48 rfl rfl fz3 rfl) rfl ?_
    refine op_v (v_loadA ty3 rfl rfl) rfl ?_
    by_cases h6 : h < 0
    · refine op_v (v_cmptA rfl rfl rfl) rfl ?_
      refine op_v (v_move rfl) rfl ?_
      first
        | (refine op_want rfl rfl ?_
           refine op_v (v_fieldB 1 Tryz.underlying48 rfl rfl fz46 rfl) rfl ?_)
        | (refine op_skip rfl rfl (by simp [undef]) rfl ?_)
      refine op_want rfl rfl ?_
      refine op_v (v_loadA ty46 rfl rfl) rfl ?_
      refine op_want rfl rfl ?_
      refine op_v (v_len Tryz.underlying46 rfl) rfl ?_
      by_cases h11 : 0 < ts.length
      · first
          | (refine op_want rfl rfl ?_
             refine op_v (v_cmptA rfl rfl rfl) rfl ?_)
          | (refine op_skip rfl rfl (by simp [undef]) rfl ?_)
        refine op_v (v_pickt rfl rfl) rfl ?_
        refine op_v (v_move rfl) rfl ?_
        refine op_skip rfl rfl (by simp [undef]) rfl ?_
        refine op_skip rfl rfl (by simp [undef]) rfl ?_
        refine op_skip rfl rfl (by simp [undef]) rfl ?_
        refine op_v (v_pickt rfl rfl) rfl ?_
        refine op_v (v_move rfl) rfl ?_
        refine op_skip rfl rfl (by simp [undef]) rfl ?_
        refine op_skip rfl rfl (by simp [undef]) rfl ?_
        refine op_skip rfl rfl (by simp [undef]) rfl ?_
        refine op_v (v_pickt rfl rfl) rfl ?_
        refine op_v (v_move rfl) rfl ?_
        refine op_skip rfl rfl (by simp [undef]) rfl ?_
        refine op_skip rfl rfl (by simp [undef]) rfl ?_
        refine op_skip rfl rfl (by simp [undef]) rfl ?_
        refine op_skip rfl rfl (by simp [undef]) rfl ?_
        refine op_v (v_pickt rfl rfl) rfl ?_
        refine ops_nil ?_
        refine post_next ?_
        refine code_cond_t rfl ?_
        refine code_seq ?_
        refine code_region ?_
        refine op_v (v_assign rfl) rfl ?_
        refine ops_nil ?_
        refine post_next ?_
        refine code_ret ?_
        refine post_ret_then ?_
        refine post_ret (rs := [.tmp 2]) rfl (List.Perm.refl _) (.cons (.tmp rfl) .nil) (List.nil_sublist _) ?_
        exact ⟨by rw [hbn (badN_iff.2 (.inl ⟨h6, h11⟩))]; rfl, rfl⟩
      · first
          | (refine op_want rfl rfl ?_
             refine op_v (v_cmpfA rfl rfl rfl) rfl ?_)
          | (refine op_skip rfl rfl (by simp [undef]) rfl ?_)
        refine op_v (v_pickt rfl rfl) rfl ?_
        refine op_v (v_move rfl) rfl ?_
        first
          | (refine op_want rfl rfl ?_
             refine op_v (v_fieldB 0 Tryz.underlying48 rfl rfl fz3 rfl) rfl ?_)
          | (refine op_skip rfl rfl (by simp [undef]) rfl ?_)
        refine op_want rfl rfl ?_
        refine op_v (v_loadA ty3 rfl rfl) rfl ?_
        by_cases h16 : h < -256
        · first
            | (refine op_want rfl rfl ?_
               refine op_v (v_cmptA rfl rfl rfl) rfl ?_)
            | (refine op_skip rfl rfl (by simp [undef]) rfl ?_)
          refine op_v (v_pickf rfl rfl) rfl ?_
          refine op_v (v_move rfl) rfl ?_
          refine op_skip rfl rfl (by simp [undef]) rfl ?_
          refine op_skip rfl rfl (by simp [undef]) rfl ?_
          refine op_skip rfl rfl (by simp [undef]) rfl ?_
          refine op_v (v_pickt rfl rfl) rfl ?_
          refine op_v (v_move rfl) rfl ?_
          refine op_skip rfl rfl (by simp [undef]) rfl ?_
          refine op_skip rfl rfl (by simp [undef]) rfl ?_
          refine op_skip rfl rfl (by simp [undef]) rfl ?_
          refine op_skip rfl rfl (by simp [undef]) rfl ?_
          refine op_v (v_pickt rfl rfl) rfl ?_
          refine ops_nil ?_
          refine post_next ?_
          refine code_cond_t rfl ?_
          refine code_seq ?_
          refine code_region ?_
          refine op_v (v_assign rfl) rfl ?_
          refine ops_nil ?_
          refine post_next ?_
          refine code_ret ?_
          refine post_ret_then ?_
          refine post_ret (rs := [.tmp 2]) rfl (List.Perm.refl _) (.cons (.tmp rfl) .nil) (List.nil_sublist _) ?_
          exact ⟨by rw [hbn (badN_iff.2 (.inr (.inl h16)))]; rfl, rfl⟩
        · first
            | (refine op_want rfl rfl ?_
               refine op_v (v_cmpfA rfl rfl rfl) rfl ?_)
            | (refine op_skip rfl rfl (by simp [undef]) rfl ?_)
          refine op_v (v_pickf rfl rfl) rfl ?_
          refine op_v (v_move rfl) rfl ?_
          first
            | (refine op_want rfl rfl ?_
               refine op_v (v_fieldB 0 Tryz.underlying48 rfl rfl fz3 rfl) rfl ?_)
            | (refine op_skip rfl rfl (by simp [undef]) rfl ?_)
          refine op_want rfl rfl ?_
          refine op_v (v_loadA ty3 rfl rfl) rfl ?_
          by_cases h21 : 1023 < h
          · first
              | (refine op_want rfl rfl ?_
                 refine op_v (v_cmptA rfl rfl rfl) rfl ?_)
              | (refine op_skip rfl rfl (by simp [undef]) rfl ?_)
            refine op_v (v_pickf rfl rfl) rfl ?_
            refine op_v (v_move rfl) rfl ?_
            refine op_skip rfl rfl (by simp [undef]) rfl ?_
            refine op_skip rfl rfl (by simp [undef]) rfl ?_
            refine op_skip rfl rfl (by simp [undef]) rfl ?_
            refine op_skip rfl rfl (by simp [undef]) rfl ?_
            refine op_v (v_pickt rfl rfl) rfl ?_
            refine ops_nil ?_
            refine post_next ?_
            refine code_cond_t rfl ?_
            refine code_seq ?_
            refine code_region ?_
            refine op_v (v_assign rfl) rfl ?_
            refine ops_nil ?_
            refine post_next ?_
            refine code_ret ?_
            refine post_ret_then ?_
            refine post_ret (rs := [.tmp 2]) rfl (List.Perm.refl _) (.cons (.tmp rfl) .nil) (List.nil_sublist _) ?_
            exact ⟨by rw [hbn (badN_iff.2 (.inr (.inr (.inl h21))))]; rfl, rfl⟩
          · first
              | (refine op_want rfl rfl ?_
                 refine op_v (v_cmpfA rfl rfl rfl) rfl ?_)
              | (refine op_skip rfl rfl (by simp [undef]) rfl ?_)
            refine op_v (v_pickf rfl rfl) rfl ?_
            refine op_v (v_move rfl) rfl ?_
            first
              | (refine op_want rfl rfl ?_
                 refine op_v (v_fieldB 1 Tryz.underlying48 rfl rfl fz46 rfl) rfl ?_)
              | (refine op_skip rfl rfl (by simp [undef]) rfl ?_)
            refine op_want rfl rfl ?_
            refine op_v (v_loadA ty46 rfl rfl) rfl ?_
            refine op_want rfl rfl ?_
            refine op_v (v_len Tryz.underlying46 rfl) rfl ?_
            by_cases h27 : 8 < ts.length
            · first
                | (refine op_want rfl rfl ?_
                   refine op_v (v_cmptA rfl rfl rfl) rfl ?_)
                | (refine op_skip rfl rfl (by simp [undef]) rfl ?_)
              refine op_v (v_pickf rfl rfl) rfl ?_
              refine ops_nil ?_
              refine post_next ?_
              refine code_cond_t rfl ?_
              refine code_seq ?_
              refine code_region ?_
              refine op_v (v_assign rfl) rfl ?_
              refine ops_nil ?_
              refine post_next ?_
              refine code_ret ?_
              refine post_ret_then ?_
              refine post_ret (rs := [.tmp 2]) rfl (List.Perm.refl _) (.cons (.tmp rfl) .nil) (List.nil_sublist _) ?_
              exact ⟨by rw [hbn (badN_iff.2 (.inr (.inr (.inr h27))))]; rfl, rfl⟩
            · have hno : badN (1, .mk h ts) = false := by { cases hq : badN (1, .mk h ts); rfl; rw [badN_iff] at hq; omega }
              first
                | (refine op_want rfl rfl ?_
                   refine op_v (v_cmpfA rfl rfl rfl) rfl ?_)
                | (refine op_skip rfl rfl (by simp [undef]) rfl ?_)
              refine op_v (v_pickf rfl rfl) rfl ?_
              refine ops_nil ?_
              refine post_next ?_
              refine code_cond_f rfl ?_
              refine code_skip ?_
              refine post_next ?_
              refine code_seq ?_
              refine code_seq ?_
              refine code_region ?_
              refine op_v (v_assign rfl) rfl ?_
              refine ops_nil ?_
              refine post_next ?_
              refine code_block ?_
              refine code_loop (fun m σ' I' δ' => ∃ k : Nat, m = ts.length - k ∧ k ≤ ts.length ∧ σ' = [(1, .pointer (some ⟨b1, 0, none⟩)), (3, .int .i64 k)] ∧ I.le I' ∧ δ' = [.box b1 48 [.int .i64 h, .slice ad ts.length c]] ∧ ∀ i (h : i < ts.length), i < k → badN1 ts[i] = false) ts.length [(1, .pointer (some ⟨b1, 0, none⟩)), (3, .int .i64 (0 : Nat))] ⟨0, rfl, Nat.zero_le _, rfl, Imm.le_refl _, rfl, fun i _ h => by omega⟩ ⟨rfl, rfl, trivial⟩ ?_
              rintro m _ I0 _ ⟨k, rfl, hk, rfl, hI0, rfl, hp⟩
              refine code_seq ?_
              refine code_seq ?_
              refine code_region ?_
              refine op_v (v_move rfl) rfl ?_
              refine op_v (v_fieldB 1 Tryz.underlying48 rfl rfl fz46 rfl) rfl ?_
              refine op_v (v_loadA ty46 rfl rfl) rfl ?_
              refine op_v (v_len Tryz.underlying46 rfl) rfl ?_
              refine op_v (v_cmpfA rfl rfl rfl) rfl ?_
              refine ops_nil ?_
              refine post_next ?_
              refine code_cond rfl (fun hc1 => ?_) (fun hc1 => ?_)
              · have hlt : k < ts.length := by simpa using hc1
                have hs1 := (hat k hlt).isSome
                have hm := sizeL_mem ts k hlt
                refine code_skip ?_
                refine post_next ?_
                refine code_seq ?_
                refine code_block ?_
                refine code_seq ?_
                refine code_region ?_
                refine op_v (v_fieldB 1 Tryz.underlying48 rfl rfl fz46 rfl) rfl ?_
                refine op_v (v_loadA ty46 rfl rfl) rfl ?_
                refine op_v (v_move rfl) rfl ?_
                refine op_v (v_indexA Tryz.underlying46 sz48 rfl rfl) rfl ?_
                refine op_v (v_loadI0 ty48 ((hat k hlt).mono hI0) rfl rfl rfl) rfl ?_
                refine op_call pl162 rfl rfl ((ih ts[k] (by omega) _ _ ((hsub k hlt).mono hI0))) Parts.none ?_
                rintro _ I41 _ hI41 ⟨rfl, rfl⟩
                by_cases h42 : badN1 ts[k] = true
                · rw [h42]
                  refine op_v (v_not rfl) rfl ?_
                  refine ops_nil ?_
                  refine post_next ?_
                  refine code_cond_t rfl ?_
                  refine code_seq ?_
                  refine code_region ?_
                  refine op_v (v_assign rfl) rfl ?_
                  refine ops_nil ?_
                  refine post_next ?_
                  refine code_ret ?_
                  refine post_ret_block ?_
                  refine post_ret_then ?_
                  refine post_ret_then ?_
                  refine post_ret_block ?_
                  refine post_ret_then ?_
                  refine post_ret (rs := [.tmp 2]) rfl (List.Perm.refl _) (.cons (.tmp rfl) .nil) (List.nil_sublist _) ?_
                  exact ⟨by rw [badN1_eq, any_at_true k hlt h42]; simp [outV], rfl⟩
                · have h42' : badN1 ts[k] = false := by simpa using h42
                  rw [h42']
                  refine op_v (v_not rfl) rfl ?_
                  refine ops_nil ?_
                  refine post_next ?_
                  refine code_cond_f rfl ?_
                  refine code_skip ?_
                  refine post_out ?_
                  refine post_next ?_
                  refine code_region ?_
                  refine op_v (v_move rfl) rfl ?_
                  refine op_v (v_addb rfl rfl rfl (by omega)) rfl ?_
                  refine op_v (v_assign rfl) rfl ?_
                  refine ops_nil ?_
                  refine post_again (ts.length - (k + 1)) [(1, .pointer (some ⟨b1, 0, none⟩)), (3, .int .i64 ((k + 1 : Nat) : Int))] (by omega) ⟨k + 1, rfl, hlt, rfl, Imm.le_trans hI0 hI41, rfl, ?_⟩ ⟨rfl, rfl, trivial⟩
                  intro i h hi
                  rcases Nat.lt_or_ge i k with hik | hik
                  · exact hp i h hik
                  have hik2 : i = k := by omega
                  subst hik2
                  exact h42'
              · have hge : k = ts.length := by simp at hc1; omega
                refine code_exit ?_
                refine post_exit_then ?_
                refine post_exit_then ?_
                refine post_exit ?_
                refine post_next ?_
                refine code_seq ?_
                refine code_region ?_
                refine op_v (v_assign rfl) rfl ?_
                refine ops_nil ?_
                refine post_next ?_
                refine code_ret ?_
                refine post_ret (rs := [.tmp 2]) rfl (List.Perm.refl _) (.cons (.tmp rfl) .nil) (List.nil_sublist _) ?_
                exact ⟨by rw [badN1_eq, any_all_false (fun i hi => hp i hi (by omega)), hno]; rfl, rfl⟩
    · refine op_v (v_cmpfA rfl rfl rfl) rfl ?_
      refine op_v (v_move rfl) rfl ?_
      refine op_skip rfl rfl (by simp [undef]) rfl ?_
      refine op_skip rfl rfl (by simp [undef]) rfl ?_
      refine op_skip rfl rfl (by simp [undef]) rfl ?_
      refine op_skip rfl rfl (by simp [undef]) rfl ?_
      refine op_v (v_pickf rfl rfl) rfl ?_
      refine op_v (v_move rfl) rfl ?_
      first
        | (refine op_want rfl rfl ?_
           refine op_v (v_fieldB 0 Tryz.underlying48 rfl rfl fz3 rfl) rfl ?_)
        | (refine op_skip rfl rfl (by simp [undef]) rfl ?_)
      refine op_want rfl rfl ?_
      refine op_v (v_loadA ty3 rfl rfl) rfl ?_
      by_cases h16 : h < -256
      · first
          | (refine op_want rfl rfl ?_
             refine op_v (v_cmptA rfl rfl rfl) rfl ?_)
          | (refine op_skip rfl rfl (by simp [undef]) rfl ?_)
        refine op_v (v_pickf rfl rfl) rfl ?_
        refine op_v (v_move rfl) rfl ?_
        refine op_skip rfl rfl (by simp [undef]) rfl ?_
        refine op_skip rfl rfl (by simp [undef]) rfl ?_
        refine op_skip rfl rfl (by simp [undef]) rfl ?_
        refine op_v (v_pickt rfl rfl) rfl ?_
        refine op_v (v_move rfl) rfl ?_
        refine op_skip rfl rfl (by simp [undef]) rfl ?_
        refine op_skip rfl rfl (by simp [undef]) rfl ?_
        refine op_skip rfl rfl (by simp [undef]) rfl ?_
        refine op_skip rfl rfl (by simp [undef]) rfl ?_
        refine op_v (v_pickt rfl rfl) rfl ?_
        refine ops_nil ?_
        refine post_next ?_
        refine code_cond_t rfl ?_
        refine code_seq ?_
        refine code_region ?_
        refine op_v (v_assign rfl) rfl ?_
        refine ops_nil ?_
        refine post_next ?_
        refine code_ret ?_
        refine post_ret_then ?_
        refine post_ret (rs := [.tmp 2]) rfl (List.Perm.refl _) (.cons (.tmp rfl) .nil) (List.nil_sublist _) ?_
        exact ⟨by rw [hbn (badN_iff.2 (.inr (.inl h16)))]; rfl, rfl⟩
      · first
          | (refine op_want rfl rfl ?_
             refine op_v (v_cmpfA rfl rfl rfl) rfl ?_)
          | (refine op_skip rfl rfl (by simp [undef]) rfl ?_)
        refine op_v (v_pickf rfl rfl) rfl ?_
        refine op_v (v_move rfl) rfl ?_
        first
          | (refine op_want rfl rfl ?_
             refine op_v (v_fieldB 0 Tryz.underlying48 rfl rfl fz3 rfl) rfl ?_)
          | (refine op_skip rfl rfl (by simp [undef]) rfl ?_)
        refine op_want rfl rfl ?_
        refine op_v (v_loadA ty3 rfl rfl) rfl ?_
        by_cases h21 : 1023 < h
        · first
            | (refine op_want rfl rfl ?_
               refine op_v (v_cmptA rfl rfl rfl) rfl ?_)
            | (refine op_skip rfl rfl (by simp [undef]) rfl ?_)
          refine op_v (v_pickf rfl rfl) rfl ?_
          refine op_v (v_move rfl) rfl ?_
          refine op_skip rfl rfl (by simp [undef]) rfl ?_
          refine op_skip rfl rfl (by simp [undef]) rfl ?_
          refine op_skip rfl rfl (by simp [undef]) rfl ?_
          refine op_skip rfl rfl (by simp [undef]) rfl ?_
          refine op_v (v_pickt rfl rfl) rfl ?_
          refine ops_nil ?_
          refine post_next ?_
          refine code_cond_t rfl ?_
          refine code_seq ?_
          refine code_region ?_
          refine op_v (v_assign rfl) rfl ?_
          refine ops_nil ?_
          refine post_next ?_
          refine code_ret ?_
          refine post_ret_then ?_
          refine post_ret (rs := [.tmp 2]) rfl (List.Perm.refl _) (.cons (.tmp rfl) .nil) (List.nil_sublist _) ?_
          exact ⟨by rw [hbn (badN_iff.2 (.inr (.inr (.inl h21))))]; rfl, rfl⟩
        · first
            | (refine op_want rfl rfl ?_
               refine op_v (v_cmpfA rfl rfl rfl) rfl ?_)
            | (refine op_skip rfl rfl (by simp [undef]) rfl ?_)
          refine op_v (v_pickf rfl rfl) rfl ?_
          refine op_v (v_move rfl) rfl ?_
          first
            | (refine op_want rfl rfl ?_
               refine op_v (v_fieldB 1 Tryz.underlying48 rfl rfl fz46 rfl) rfl ?_)
            | (refine op_skip rfl rfl (by simp [undef]) rfl ?_)
          refine op_want rfl rfl ?_
          refine op_v (v_loadA ty46 rfl rfl) rfl ?_
          refine op_want rfl rfl ?_
          refine op_v (v_len Tryz.underlying46 rfl) rfl ?_
          by_cases h27 : 8 < ts.length
          · first
              | (refine op_want rfl rfl ?_
                 refine op_v (v_cmptA rfl rfl rfl) rfl ?_)
              | (refine op_skip rfl rfl (by simp [undef]) rfl ?_)
            refine op_v (v_pickf rfl rfl) rfl ?_
            refine ops_nil ?_
            refine post_next ?_
            refine code_cond_t rfl ?_
            refine code_seq ?_
            refine code_region ?_
            refine op_v (v_assign rfl) rfl ?_
            refine ops_nil ?_
            refine post_next ?_
            refine code_ret ?_
            refine post_ret_then ?_
            refine post_ret (rs := [.tmp 2]) rfl (List.Perm.refl _) (.cons (.tmp rfl) .nil) (List.nil_sublist _) ?_
            exact ⟨by rw [hbn (badN_iff.2 (.inr (.inr (.inr h27))))]; rfl, rfl⟩
          · have hno : badN (1, .mk h ts) = false := by { cases hq : badN (1, .mk h ts); rfl; rw [badN_iff] at hq; omega }
            first
              | (refine op_want rfl rfl ?_
                 refine op_v (v_cmpfA rfl rfl rfl) rfl ?_)
              | (refine op_skip rfl rfl (by simp [undef]) rfl ?_)
            refine op_v (v_pickf rfl rfl) rfl ?_
            refine ops_nil ?_
            refine post_next ?_
            refine code_cond_f rfl ?_
            refine code_skip ?_
            refine post_next ?_
            refine code_seq ?_
            refine code_seq ?_
            refine code_region ?_
            refine op_v (v_assign rfl) rfl ?_
            refine ops_nil ?_
            refine post_next ?_
            refine code_block ?_
            refine code_loop (fun m σ' I' δ' => ∃ k : Nat, m = ts.length - k ∧ k ≤ ts.length ∧ σ' = [(1, .pointer (some ⟨b1, 0, none⟩)), (3, .int .i64 k)] ∧ I.le I' ∧ δ' = [.box b1 48 [.int .i64 h, .slice ad ts.length c]] ∧ ∀ i (h : i < ts.length), i < k → badN1 ts[i] = false) ts.length [(1, .pointer (some ⟨b1, 0, none⟩)), (3, .int .i64 (0 : Nat))] ⟨0, rfl, Nat.zero_le _, rfl, Imm.le_refl _, rfl, fun i _ h => by omega⟩ ⟨rfl, rfl, trivial⟩ ?_
            rintro m _ I0 _ ⟨k, rfl, hk, rfl, hI0, rfl, hp⟩
            refine code_seq ?_
            refine code_seq ?_
            refine code_region ?_
            refine op_v (v_move rfl) rfl ?_
            refine op_v (v_fieldB 1 Tryz.underlying48 rfl rfl fz46 rfl) rfl ?_
            refine op_v (v_loadA ty46 rfl rfl) rfl ?_
            refine op_v (v_len Tryz.underlying46 rfl) rfl ?_
            refine op_v (v_cmp rfl rfl rfl) rfl ?_
            refine ops_nil ?_
            refine post_next ?_
            refine code_cond rfl (fun hc1 => ?_) (fun hc1 => ?_)
            · have hlt : k < ts.length := by simpa using hc1
              have hs1 := (hat k hlt).isSome
              have hm := sizeL_mem ts k hlt
              refine code_skip ?_
              refine post_next ?_
              refine code_seq ?_
              refine code_block ?_
              refine code_seq ?_
              refine code_region ?_
              refine op_v (v_fieldB 1 Tryz.underlying48 rfl rfl fz46 rfl) rfl ?_
              refine op_v (v_loadA ty46 rfl rfl) rfl ?_
              refine op_v (v_move rfl) rfl ?_
              refine op_v (v_indexA Tryz.underlying46 sz48 rfl rfl) rfl ?_
              refine op_v (v_loadI0 ty48 ((hat k hlt).mono hI0) rfl rfl rfl) rfl ?_
              refine op_call pl162 rfl rfl ((ih ts[k] (by omega) _ _ ((hsub k hlt).mono hI0))) Parts.none ?_
              rintro _ I41 _ hI41 ⟨rfl, rfl⟩
              by_cases h42 : badN1 ts[k] = true
              · rw [h42]
                refine op_v (v_not rfl) rfl ?_
                refine ops_nil ?_
                refine post_next ?_
                refine code_cond_t rfl ?_
                refine code_seq ?_
                refine code_region ?_
                refine op_v (v_assign rfl) rfl ?_
                refine ops_nil ?_
                refine post_next ?_
                refine code_ret ?_
                refine post_ret_block ?_
                refine post_ret_then ?_
                refine post_ret_then ?_
                refine post_ret_block ?_
                refine post_ret_then ?_
                refine post_ret (rs := [.tmp 2]) rfl (List.Perm.refl _) (.cons (.tmp rfl) .nil) (List.nil_sublist _) ?_
                exact ⟨by rw [badN1_eq, any_at_true k hlt h42]; simp [outV], rfl⟩
              · have h42' : badN1 ts[k] = false := by simpa using h42
                rw [h42']
                refine op_v (v_not rfl) rfl ?_
                refine ops_nil ?_
                refine post_next ?_
                refine code_cond_f rfl ?_
                refine code_skip ?_
                refine post_out ?_
                refine post_next ?_
                refine code_region ?_
                refine op_v (v_move rfl) rfl ?_
                refine op_v (v_addb rfl rfl rfl (by omega)) rfl ?_
                refine op_v (v_assign rfl) rfl ?_
                refine ops_nil ?_
                refine post_again (ts.length - (k + 1)) [(1, .pointer (some ⟨b1, 0, none⟩)), (3, .int .i64 ((k + 1 : Nat) : Int))] (by omega) ⟨k + 1, rfl, hlt, rfl, Imm.le_trans hI0 hI41, rfl, ?_⟩ ⟨rfl, rfl, trivial⟩
                intro i h hi
                rcases Nat.lt_or_ge i k with hik | hik
                · exact hp i h hik
                have hik2 : i = k := by omega
                subst hik2
                exact h42'
            · have hge : k = ts.length := by simp at hc1; omega
              refine code_exit ?_
              refine post_exit_then ?_
              refine post_exit_then ?_
              refine post_exit ?_
              refine post_next ?_
              refine code_seq ?_
              refine code_region ?_
              refine op_v (v_assign rfl) rfl ?_
              refine ops_nil ?_
              refine post_next ?_
              refine code_ret ?_
              refine post_ret (rs := [.tmp 2]) rfl (List.Perm.refl _) (.cons (.tmp rfl) .nil) (List.nil_sublist _) ?_
              exact ⟨by rw [badN1_eq, any_all_false (fun i hi => hp i hi (by omega)), hno]; rfl, rfl⟩
theorem RCheck_does {I : Imm} {v : Value} {t : T} (hv : RepT I v t) (hbig : t.size ≤ 1000000000) :
    Does Tryz.prog 133 [v] I [] (fun v I' δ' => v = .int .i64 (chkT t) ∧ δ' = []) := by
  have hd := depT_size t
  obtain ⟨a0, c0, rfl, hr0⟩ := hv.shape
  refine Does.intro Tryz.func133 rfl Tryz.ntmps133 rfl fun w0 => ?_
  refine code_seq ?_
  refine code_region ?_
  refine o_box rfl rfl rfl (fun b1 => ?_)
  refine op_v (v_assign rfl) rfl ?_
  refine ops_nil ?_
  refine post_next ?_
  refine code_seq ?_
  refine code_seq ?_
  refine code_region ?_
  refine op_v (v_loadA ty48 rfl rfl) rfl ?_
  refine op_call pl160 rfl rfl ((Size_does _ _ (Nat.le_refl _) hbig _ _ (hv.mono Imm.leA))) Parts.none ?_
  rintro _ I4 _ hI4 ⟨rfl, rfl⟩
  by_cases h5 : 400 < t.size
  · refine op_v (v_cmptA rfl rfl rfl) rfl ?_
    refine ops_nil ?_
    refine post_next ?_
    refine code_cond_t rfl ?_
    refine code_seq ?_
    refine code_region ?_
    refine op_v (v_assign rfl) rfl ?_
    refine ops_nil ?_
    refine post_next ?_
    refine code_ret ?_
    refine post_ret_then ?_
    refine post_ret (rs := [.tmp 2]) rfl (List.Perm.refl _) (.cons (.tmp rfl) .nil) (List.nil_sublist _) ?_
    exact ⟨by unfold chkT; rw [if_pos h5]; rfl, rfl⟩
  · refine op_v (v_cmpfA rfl rfl rfl) rfl ?_
    refine ops_nil ?_
    refine post_next ?_
    refine code_cond_f rfl ?_
    refine code_skip ?_
    refine post_next ?_
    refine code_seq ?_
    refine code_seq ?_
    refine code_region ?_
    refine op_v (v_loadA ty48 rfl rfl) rfl ?_
    refine op_call pl161 rfl rfl ((Depth_does _ _ (Nat.le_refl _) hbig _ _ (hv.mono Imm.leA))) Parts.none ?_
    rintro _ I7 _ hI7 ⟨rfl, rfl⟩
    by_cases h8 : 40 < depT t
    · refine op_v (v_cmptA rfl rfl rfl) rfl ?_
      refine ops_nil ?_
      refine post_next ?_
      refine code_cond_t rfl ?_
      refine code_seq ?_
      refine code_region ?_
      refine op_v (v_assign rfl) rfl ?_
      refine ops_nil ?_
      refine post_next ?_
      refine code_ret ?_
      refine post_ret_then ?_
      refine post_ret (rs := [.tmp 2]) rfl (List.Perm.refl _) (.cons (.tmp rfl) .nil) (List.nil_sublist _) ?_
      exact ⟨by unfold chkT; rw [if_neg h5, if_pos h8]; rfl, rfl⟩
    · refine op_v (v_cmpfA rfl rfl rfl) rfl ?_
      refine ops_nil ?_
      refine post_next ?_
      refine code_cond_f rfl ?_
      refine code_skip ?_
      refine post_next ?_
      refine code_seq ?_
      refine code_seq ?_
      refine code_region ?_
      refine op_v (v_loadA ty48 rfl rfl) rfl ?_
      refine op_call pl162 rfl rfl ((good_does _ _ (Nat.le_refl _) _ _ (hv.mono Imm.leA))) Parts.none ?_
      rintro _ I10 _ hI10 ⟨rfl, rfl⟩
      by_cases h11 : badN1 t = true
      · rw [h11]
        refine op_v (v_not rfl) rfl ?_
        refine ops_nil ?_
        refine post_next ?_
        refine code_cond_t rfl ?_
        refine code_seq ?_
        refine code_region ?_
        refine op_v (v_assign rfl) rfl ?_
        refine ops_nil ?_
        refine post_next ?_
        refine code_ret ?_
        refine post_ret_then ?_
        refine post_ret (rs := [.tmp 2]) rfl (List.Perm.refl _) (.cons (.tmp rfl) .nil) (List.nil_sublist _) ?_
        exact ⟨by unfold chkT; rw [if_neg h5, if_neg h8, if_pos (show (partsT 1 t).any badN = true from h11)]; rfl, rfl⟩
      · have h11' : badN1 t = false := by simpa using h11
        rw [h11']
        refine op_v (v_not rfl) rfl ?_
        refine ops_nil ?_
        refine post_next ?_
        refine code_cond_f rfl ?_
        refine code_skip ?_
        refine post_next ?_
        refine code_seq ?_
        refine code_region ?_
        refine op_v (v_assign rfl) rfl ?_
        refine ops_nil ?_
        refine post_next ?_
        refine code_ret ?_
        refine post_ret (rs := [.tmp 2]) rfl (List.Perm.refl _) (.cons (.tmp rfl) .nil) (List.nil_sublist _) ?_
        exact ⟨by unfold chkT; rw [if_neg h5, if_neg h8, if_neg (show ¬ (partsT 1 t).any badN = true by { rw [show (partsT 1 t).any badN = false from h11']; simp })]; rfl, rfl⟩
theorem known_does {gs : List Sy} : ∀ (n : Nat) (t : T), t.size ≤ n → chkT t = 0 → ∀ (I : Imm) (vg v : Value), RepG I vg gs → RepT I v t →
    Does Tryz.prog 139 [vg, v] I [] (fun v I' δ' => v = .bool (!unkG gs t) ∧ δ' = []) := by
  intro n
  induction n with
  | zero => intro t ht; have := t.size_pos; omega
  | succ n ih =>
    intro t ht hck I vg v hg hv
    obtain ⟨h, ts⟩ := t
    obtain ⟨ga, gc, rfl⟩ := hg.shape
    obtain ⟨_, hgc, hgb, hgat, hgok⟩ := hg.open
    obtain ⟨ad, c, ss, rfl, hr, hc, hb, hat, hsub⟩ := hv.elim
    have hsz : (T.mk h ts).size = 1 + sizeL ts := by simp [T.size]
    obtain ⟨hlf, hch⟩ := chkT_args hck
    have hun : unkB gs (true, .mk h ts) = true → unkG gs (.mk h ts) = true := fun q => by rw [unkG_eq, q]; rfl
    refine Does.intro Tryz.func139 rfl Tryz.ntmps139 rfl fun w0 => ?_
    refine code_seq ?_
    refine code_region ?_
    refine o_box rfl rfl rfl (fun b3 => ?_)
    refine op_v (v_assign rfl) rfl ?_
    refine ops_nil ?_
    refine post_next ?_
    refine code_seq ?_
    refine code_seq ?_
    refine code_region ?_
    refine op_v (v_fieldB 0 Tryz.underlying48 rfl rfl fz3 rfl) rfl ?_
    refine op_v (v_loadA ty3 rfl rfl) rfl ?_
    by_cases h8 : h < 0
    · refine op_v (v_cmptA rfl rfl rfl) rfl ?_
      refine ops_nil ?_
      refine post_next ?_
      refine code_cond_t rfl ?_
      refine code_seq ?_
      refine code_region ?_
      refine op_v (v_assign rfl) rfl ?_
      refine ops_nil ?_
      refine post_next ?_
      refine code_ret ?_
      refine post_ret_then ?_
      refine post_ret (rs := [.tmp 4]) rfl (List.Perm.refl _) (.cons (.tmp rfl) .nil) (List.nil_sublist _) ?_
      have hl := hlf h8
      subst hl
      have : unkG gs (.mk h []) = false := by { rw [unkG_eq]; have : ¬ 0 ≤ h := by { omega }; simp [unkB, T.head, T.args, this] }
      exact ⟨by rw [this]; rfl, rfl⟩
    · refine op_v (v_cmpfA rfl rfl rfl) rfl ?_
      refine ops_nil ?_
      refine post_next ?_
      refine code_cond_f rfl ?_
      refine code_skip ?_
      refine post_next ?_
      refine code_seq ?_
      refine code_seq ?_
      refine code_draw (.fl 0 (.fl 1 (.fl 2 (.fl 3 (.fl 4 (.fl 5 (.fl 6 (.fl 7 (.fl 8 (.fl 9 (.fl 10 (.fl 11 (.fl 12 (.fl 13 (.fl 14 (.fl 15 (.fl 16 .done))))))))))))))))) (fun _ => _) mixed (by kernel_rfl) (by kernel_rfl) (fun _ => (List.Sublist.refl _)) ?_
      refine e_fl rfl rfl (fun hs_ => PF.mk rfl (v_fieldB 0 Tryz.underlying48 rfl rfl fz3 rfl) hs_) ?_
      refine e_fl rfl rfl (fun hs_ => PF.mk rfl (v_loadA ty3 rfl rfl) hs_) ?_
      refine e_fl rfl rfl (fun hs_ => PF.mk rfl (v_move rfl) hs_) ?_
      refine e_fl rfl rfl (fun hs_ => PF.mk rfl (v_len Tryz.underlying22 rfl) hs_) ?_
      by_cases h13 : (gs.length : Int) ≤ h
      · refine e_fl rfl rfl (fun hs_ => PF.mk rfl (v_cmptA rfl rfl rfl) hs_) ?_
        refine e_fl rfl rfl (fun hs_ => PF.mk rfl (v_move rfl) hs_) ?_
        refine e_fl rfl rfl (fun hs_ => PF.mks rfl (by intro c hc; cases hc) rfl rfl (by simp [undef]) hs_) ?_
        refine e_fl rfl rfl (fun hs_ => PF.mks rfl (by intro c hc; cases hc) rfl rfl (by simp [undef]) hs_) ?_
        refine e_fl rfl rfl (fun hs_ => PF.mks rfl (by intro c hc; cases hc) rfl rfl (by simp [undef]) hs_) ?_
        refine e_fl rfl rfl (fun hs_ => PF.mks rfl (by intro c hc; cases hc) rfl rfl (by simp [undef]) hs_) ?_
        refine e_fl rfl rfl (fun hs_ => PF.mks rfl (by intro c hc; cases hc) rfl rfl (by simp [undef]) hs_) ?_
        refine e_fl rfl rfl (fun hs_ => PF.mks rfl (by intro c hc; cases hc) rfl rfl (by simp [undef]) hs_) ?_
        refine e_fl rfl rfl (fun hs_ => PF.mks rfl (by intro c hc; cases hc) rfl rfl (by simp [undef]) hs_) ?_
        refine e_fl rfl rfl (fun hs_ => PF.mks rfl (by intro c hc; cases hc) rfl rfl (by simp [undef]) hs_) ?_
        refine e_fl rfl rfl (fun hs_ => PF.mks rfl (by intro c hc; cases hc) rfl rfl (by simp [undef]) hs_) ?_
        refine e_fl rfl rfl (fun hs_ => PF.mks rfl (by intro c hc; cases hc) rfl rfl (by simp [undef]) hs_) ?_
        refine e_fl rfl rfl (fun hs_ => PF.mk rfl (v_pickt rfl rfl) hs_) ?_
        refine e_done ?_
        refine post_next ?_
        refine code_cond_t rfl ?_
        refine code_seq ?_
        refine code_region ?_
        refine op_v (v_assign rfl) rfl ?_
        refine ops_nil ?_
        refine post_next ?_
        refine code_ret ?_
        refine post_ret_then ?_
        refine post_ret (rs := [.tmp 4]) rfl (List.Perm.refl _) (.cons (.tmp rfl) .nil) (List.nil_sublist _) ?_
        exact ⟨by rw [hun (unkB_iff.2 ⟨by omega, .inl h13⟩)]; rfl, rfl⟩
      · have hlt0 : h.toNat < gs.length := by omega
        have hs0 := (hgat _ hlt0).isSome
        have hgat1 : ∀ J, I.le J → At J ga (h.toNat * 4) [.string gs[h.toNat].name, .int .i64 gs[h.toNat].ar, .int .i64 gs[h.toNat].wt, .bool gs[h.toNat].tr] := fun J hJ => (hgat _ hlt0).mono hJ
        refine e_fl rfl rfl (fun hs_ => PF.mk rfl (v_cmpfA rfl rfl rfl) hs_) ?_
        refine e_fl rfl rfl (fun hs_ => PF.mk rfl (v_move rfl) hs_) ?_
        refine e_fl rfl rfl (fun hs_ => PF.mkg rfl rfl rfl (v_fieldB 1 Tryz.underlying48 rfl rfl fz46 rfl) hs_) ?_
        refine e_fl rfl rfl (fun hs_ => PF.mkg rfl rfl rfl (v_loadA ty46 rfl rfl) hs_) ?_
        refine e_fl rfl rfl (fun hs_ => PF.mkg rfl rfl rfl (v_len Tryz.underlying46 rfl) hs_) ?_
        refine e_fl rfl rfl (fun hs_ => PF.mkg rfl rfl rfl (v_move rfl) hs_) ?_
        refine e_fl rfl rfl (fun hs_ => PF.mkg rfl rfl rfl (v_fieldB 0 Tryz.underlying48 rfl rfl fz3 rfl) hs_) ?_
        refine e_fl rfl rfl (fun hs_ => PF.mkg rfl rfl rfl (v_loadA ty3 rfl rfl) hs_) ?_
        refine e_fl rfl rfl (fun hs_ => PF.mkg rfl rfl rfl (v_indexIA Tryz.underlying22 sz85 rfl rfl) hs_) ?_
        refine e_fl rfl rfl (fun hs_ => PF.mkg rfl rfl rfl (v_fieldI 1 Tryz.underlying85 rfl rfl fz3 rfl (by assumption)) hs_) ?_
        refine e_fl rfl rfl (fun hs_ => PF.mkg rfl rfl rfl (v_loadI ty3 (hgat _ hlt0) rfl rfl rfl) hs_) ?_
        by_cases h24 : (ts.length : Int) ≠ (gs[h.toNat]'hlt0).ar
        · refine e_fl rfl rfl (fun hs_ => PF.mkg rfl rfl rfl (v_cmptA rfl rfl rfl) hs_) ?_
          refine e_fl rfl rfl (fun hs_ => PF.mk rfl (v_pickf rfl rfl) hs_) ?_
          refine e_done ?_
          refine post_next ?_
          refine code_cond_t rfl ?_
          refine code_seq ?_
          refine code_region ?_
          refine op_v (v_assign rfl) rfl ?_
          refine ops_nil ?_
          refine post_next ?_
          refine code_ret ?_
          refine post_ret_then ?_
          refine post_ret (rs := [.tmp 4]) rfl (List.Perm.refl _) (.cons (.tmp rfl) .nil) (List.nil_sublist _) ?_
          exact ⟨by rw [hun (unkB_iff.2 ⟨by omega, .inr (by rw [arG_at (gs := gs) (h := h) (by omega) (by omega)]; exact h24)⟩)]; rfl, rfl⟩
        · have hno : unkB gs (true, .mk h ts) = false := by { cases hq : unkB gs (true, .mk h ts); rfl; rw [unkB_iff] at hq; rw [arG_at (gs := gs) (h := h) (by omega) (by omega)] at hq; omega }
          refine e_fl rfl rfl (fun hs_ => PF.mkg rfl rfl rfl (v_cmpfA rfl rfl rfl) hs_) ?_
          refine e_fl rfl rfl (fun hs_ => PF.mk rfl (v_pickf rfl rfl) hs_) ?_
          refine e_done ?_
          refine post_next ?_
          refine code_cond_f rfl ?_
          refine code_skip ?_
          refine post_next ?_
          refine code_seq ?_
          refine code_seq ?_
          refine code_region ?_
          refine op_v (v_assign rfl) rfl ?_
          refine ops_nil ?_
          refine post_next ?_
          refine code_block ?_
          refine code_loop (fun m σ' I' δ' => ∃ k : Nat, m = ts.length - k ∧ k ≤ ts.length ∧ σ' = [(0, .slice ga gs.length gc), (3, .pointer (some ⟨b3, 0, none⟩)), (5, .int .i64 k)] ∧ I.le I' ∧ δ' = [.box b3 48 [.int .i64 h, .slice ad ts.length c]] ∧ ∀ i (h : i < ts.length), i < k → unkG gs ts[i] = false) ts.length [(0, .slice ga gs.length gc), (3, .pointer (some ⟨b3, 0, none⟩)), (5, .int .i64 (0 : Nat))] ⟨0, rfl, Nat.zero_le _, rfl, Imm.le_refl _, rfl, fun i _ h => by omega⟩ ⟨rfl, rfl, rfl, trivial⟩ ?_
          rintro m _ I0 _ ⟨k, rfl, hk, rfl, hI0, rfl, hp⟩
          refine code_seq ?_
          refine code_seq ?_
          refine code_region ?_
          refine op_v (v_move rfl) rfl ?_
          refine op_v (v_fieldB 1 Tryz.underlying48 rfl rfl fz46 rfl) rfl ?_
          refine op_v (v_loadA ty46 rfl rfl) rfl ?_
          refine op_v (v_len Tryz.underlying46 rfl) rfl ?_
          refine op_v (v_cmp rfl rfl rfl) rfl ?_
          refine ops_nil ?_
          refine post_next ?_
          refine code_cond rfl (fun hc2 => ?_) (fun hc2 => ?_)
          · have hlt : k < ts.length := by simpa using hc2
            have hs1 := (hat k hlt).isSome
            have hm := sizeL_mem ts k hlt
            refine code_skip ?_
            refine post_next ?_
            refine code_seq ?_
            refine code_block ?_
            refine code_seq ?_
            refine code_region ?_
            refine op_v (v_move rfl) rfl ?_
            refine op_v (v_fieldB 1 Tryz.underlying48 rfl rfl fz46 rfl) rfl ?_
            refine op_v (v_loadA ty46 rfl rfl) rfl ?_
            refine op_v (v_move rfl) rfl ?_
            refine op_v (v_indexA Tryz.underlying46 sz48 rfl rfl) rfl ?_
            refine op_v (v_loadI0 ty48 ((hat k hlt).mono hI0) rfl rfl rfl) rfl ?_
            refine op_call pl139 rfl rfl ((ih ts[k] (by omega) (hch k hlt) _ _ _ (hg.mono hI0) ((hsub k hlt).mono hI0))) Parts.none ?_
            rintro _ I39 _ hI39 ⟨rfl, rfl⟩
            by_cases h40 : unkG gs ts[k] = true
            · rw [h40]
              refine op_v (v_not rfl) rfl ?_
              refine ops_nil ?_
              refine post_next ?_
              refine code_cond_t rfl ?_
              refine code_seq ?_
              refine code_region ?_
              refine op_v (v_assign rfl) rfl ?_
              refine ops_nil ?_
              refine post_next ?_
              refine code_ret ?_
              refine post_ret_block ?_
              refine post_ret_then ?_
              refine post_ret_then ?_
              refine post_ret_block ?_
              refine post_ret_then ?_
              refine post_ret (rs := [.tmp 4]) rfl (List.Perm.refl _) (.cons (.tmp rfl) .nil) (List.nil_sublist _) ?_
              exact ⟨by rw [unkG_eq, show (T.mk h ts).args = ts from rfl, any_at_true k hlt h40]; simp [outV], rfl⟩
            · have h40' : unkG gs ts[k] = false := by simpa using h40
              rw [h40']
              refine op_v (v_not rfl) rfl ?_
              refine ops_nil ?_
              refine post_next ?_
              refine code_cond_f rfl ?_
              refine code_skip ?_
              refine post_out ?_
              refine post_next ?_
              refine code_region ?_
              refine op_v (v_move rfl) rfl ?_
              refine op_v (v_addb rfl rfl rfl (by omega)) rfl ?_
              refine op_v (v_assign rfl) rfl ?_
              refine ops_nil ?_
              refine post_again (ts.length - (k + 1)) [(0, .slice ga gs.length gc), (3, .pointer (some ⟨b3, 0, none⟩)), (5, .int .i64 ((k + 1 : Nat) : Int))] (by omega) ⟨k + 1, rfl, hlt, rfl, Imm.le_trans hI0 hI39, rfl, ?_⟩ ⟨rfl, rfl, rfl, trivial⟩
              intro i h hi
              rcases Nat.lt_or_ge i k with hik | hik
              · exact hp i h hik
              have hik2 : i = k := by omega
              subst hik2
              exact h40'
          · have hge : k = ts.length := by simp at hc2; omega
            refine code_exit ?_
            refine post_exit_then ?_
            refine post_exit_then ?_
            refine post_exit ?_
            refine post_next ?_
            refine code_seq ?_
            refine code_region ?_
            refine op_v (v_assign rfl) rfl ?_
            refine ops_nil ?_
            refine post_next ?_
            refine code_ret ?_
            refine post_ret (rs := [.tmp 4]) rfl (List.Perm.refl _) (.cons (.tmp rfl) .nil) (List.nil_sublist _) ?_
            exact ⟨by rw [unkG_eq, show (T.mk h ts).args = ts from rfl, any_all_false (fun i hi => hp i hi (by omega)), hno]; rfl, rfl⟩
theorem Truth_does {I : Imm} {vg v : Value} {gs : List Sy} {t : T} (hg : RepG I vg gs) (hv : RepT I v t) :
    Does Tryz.prog 116 [vg, v] I [] (fun v I' δ' => v = .bool (truG gs t) ∧ δ' = []) := by
  obtain ⟨ga, gc, rfl⟩ := hg.shape
  obtain ⟨_, hgc, hgb, hgat, hgok⟩ := hg.open
  obtain ⟨a0, c0, rfl, hr0⟩ := hv.shape
  refine Does.intro Tryz.func116 rfl Tryz.ntmps116 rfl fun w0 => ?_
  refine code_seq ?_
  refine code_region ?_
  refine o_box rfl rfl rfl (fun b3 => ?_)
  refine op_v (v_assign rfl) rfl ?_
  refine ops_nil ?_
  refine post_next ?_
  refine code_seq ?_
  refine code_region ?_
  refine op_v (v_fieldB 0 Tryz.underlying48 rfl rfl fz3 rfl) rfl ?_
  refine op_v (v_loadA ty3 rfl rfl) rfl ?_
  by_cases h7 : 0 ≤ t.head
  · refine op_v (v_cmptA rfl rfl rfl) rfl ?_
    refine op_v (v_move rfl) rfl ?_
    first
      | (refine op_want rfl rfl ?_
         refine op_v (v_fieldB 0 Tryz.underlying48 rfl rfl fz3 rfl) rfl ?_)
      | (refine op_skip rfl rfl (by simp [undef]) rfl ?_)
    refine op_want rfl rfl ?_
    refine op_v (v_loadA ty3 rfl rfl) rfl ?_
    refine op_want rfl rfl ?_
    refine op_v (v_move rfl) rfl ?_
    refine op_want rfl rfl ?_
    refine op_v (v_len Tryz.underlying22 rfl) rfl ?_
    by_cases h13 : t.head < (gs.length : Int)
    · have hlt0 : t.head.toNat < gs.length := by omega
      have hs0 := (hgat _ hlt0).isSome
      first
        | (refine op_want rfl rfl ?_
           refine op_v (v_cmptA rfl rfl rfl) rfl ?_)
        | (refine op_skip rfl rfl (by simp [undef]) rfl ?_)
      refine op_v (v_pickt rfl rfl) rfl ?_
      refine op_v (v_move rfl) rfl ?_
      refine op_want rfl rfl ?_
      refine op_v (v_move rfl) rfl ?_
      first
        | (refine op_want rfl rfl ?_
           refine op_v (v_fieldB 0 Tryz.underlying48 rfl rfl fz3 rfl) rfl ?_)
        | (refine op_skip rfl rfl (by simp [undef]) rfl ?_)
      refine op_want rfl rfl ?_
      refine op_v (v_loadA ty3 rfl rfl) rfl ?_
      refine op_want rfl rfl ?_
      refine op_v (v_indexIA Tryz.underlying22 sz85 rfl rfl) rfl ?_
      first
        | (refine op_want rfl rfl ?_
           refine op_v (v_fieldI 3 Tryz.underlying85 rfl rfl fz4 rfl (by assumption)) rfl ?_)
        | (refine op_skip rfl rfl (by simp [undef]) rfl ?_)
      refine op_want rfl rfl ?_
      refine op_v (v_loadI ty4 (hgat _ hlt0) rfl rfl rfl) rfl ?_
      refine op_v (v_pickt rfl rfl) rfl ?_
      refine op_v (v_assign rfl) rfl ?_
      refine ops_nil ?_
      refine post_next ?_
      refine code_ret ?_
      refine post_ret (rs := [.tmp 4]) rfl (List.Perm.refl _) (.cons (.tmp rfl) .nil) (List.nil_sublist _) ?_
      exact ⟨by simp [outV, truG, h7, h13, trG_at h7 h13], rfl⟩
    · first
        | (refine op_want rfl rfl ?_
           refine op_v (v_cmpfA rfl rfl rfl) rfl ?_)
        | (refine op_skip rfl rfl (by simp [undef]) rfl ?_)
      refine op_v (v_pickt rfl rfl) rfl ?_
      refine op_v (v_move rfl) rfl ?_
      refine op_skip rfl rfl (by simp [undef]) rfl ?_
      refine op_skip rfl rfl (by simp [undef]) rfl ?_
      refine op_skip rfl rfl (by simp [undef]) rfl ?_
      refine op_skip rfl rfl (by simp [undef]) rfl ?_
      refine op_skip rfl rfl (by simp [undef]) rfl ?_
      refine op_skip rfl rfl (by simp [undef]) rfl ?_
      refine op_v (v_pickf rfl rfl) rfl ?_
      refine op_v (v_assign rfl) rfl ?_
      refine ops_nil ?_
      refine post_next ?_
      refine code_ret ?_
      refine post_ret (rs := [.tmp 4]) rfl (List.Perm.refl _) (.cons (.tmp rfl) .nil) (List.nil_sublist _) ?_
      exact ⟨by simp [outV, truG, h13], rfl⟩
  · refine op_v (v_cmpfA rfl rfl rfl) rfl ?_
    refine op_v (v_move rfl) rfl ?_
    refine op_skip rfl rfl (by simp [undef]) rfl ?_
    refine op_skip rfl rfl (by simp [undef]) rfl ?_
    refine op_skip rfl rfl (by simp [undef]) rfl ?_
    refine op_skip rfl rfl (by simp [undef]) rfl ?_
    refine op_skip rfl rfl (by simp [undef]) rfl ?_
    refine op_v (v_pickf rfl rfl) rfl ?_
    refine op_v (v_move rfl) rfl ?_
    refine op_skip rfl rfl (by simp [undef]) rfl ?_
    refine op_skip rfl rfl (by simp [undef]) rfl ?_
    refine op_skip rfl rfl (by simp [undef]) rfl ?_
    refine op_skip rfl rfl (by simp [undef]) rfl ?_
    refine op_skip rfl rfl (by simp [undef]) rfl ?_
    refine op_skip rfl rfl (by simp [undef]) rfl ?_
    refine op_v (v_pickf rfl rfl) rfl ?_
    refine op_v (v_assign rfl) rfl ?_
    refine ops_nil ?_
    refine post_next ?_
    refine code_ret ?_
    refine post_ret (rs := [.tmp 4]) rfl (List.Perm.refl _) (.cons (.tmp rfl) .nil) (List.nil_sublist _) ?_
    exact ⟨by simp [outV, truG, h7], rfl⟩
theorem things_does {gs : List Sy} : ∀ (n : Nat) (t : T), t.size ≤ n → unkG gs t = false → ∀ (I : Imm) (vg v : Value), RepG I vg gs → RepT I v t →
    Does Tryz.prog 140 [vg, v] I [] (fun v I' δ' => v = .bool (!mixG gs t) ∧ δ' = []) := by
  intro n
  induction n with
  | zero => intro t ht; have := t.size_pos; omega
  | succ n ih =>
    intro t ht hun I vg v hg hv
    obtain ⟨h, ts⟩ := t
    obtain ⟨ga, gc, rfl⟩ := hg.shape
    obtain ⟨ad, c, ss, rfl, hr, hc, hb, hat, hsub⟩ := hv.elim
    have hsz : (T.mk h ts).size = 1 + sizeL ts := by simp [T.size]
    have hch : ∀ k (hk : k < ts.length), unkG gs ts[k] = false := fun k hk => by
      rw [unkG_eq] at hun
      simp only [Bool.or_eq_false_iff] at hun
      have h2 := hun.2
      rw [List.any_eq_false] at h2
      simpa using h2 ts[k] (List.getElem_mem hk)
    refine Does.intro Tryz.func140 rfl Tryz.ntmps140 rfl fun w0 => ?_
    refine code_seq ?_
    refine code_region ?_
    refine o_box rfl rfl rfl (fun b3 => ?_)
    refine op_v (v_assign rfl) rfl ?_
    refine ops_nil ?_
    refine post_next ?_
    refine code_seq ?_
    refine code_seq ?_
    refine code_region ?_
    refine op_v (v_assign rfl) rfl ?_
    refine ops_nil ?_
    refine post_next ?_
    refine code_block ?_
    refine code_loop (fun m σ' I' δ' => ∃ k : Nat, m = ts.length - k ∧ k ≤ ts.length ∧ σ' = [(0, .slice ga gs.length gc), (3, .pointer (some ⟨b3, 0, none⟩)), (5, .int .i64 k)] ∧ I.le I' ∧ δ' = [.box b3 48 [.int .i64 h, .slice ad ts.length c]] ∧ ∀ i (h : i < ts.length), i < k → (mixB gs (false, ts[i]) || mixG gs ts[i]) = false) ts.length [(0, .slice ga gs.length gc), (3, .pointer (some ⟨b3, 0, none⟩)), (5, .int .i64 (0 : Nat))] ⟨0, rfl, Nat.zero_le _, rfl, Imm.le_refl _, rfl, fun i _ h => by omega⟩ ⟨rfl, rfl, rfl, trivial⟩ ?_
    rintro m _ I0 _ ⟨k, rfl, hk, rfl, hI0, rfl, hp⟩
    refine code_seq ?_
    refine code_seq ?_
    refine code_region ?_
    refine op_v (v_move rfl) rfl ?_
    refine op_v (v_fieldB 1 Tryz.underlying48 rfl rfl fz46 rfl) rfl ?_
    refine op_v (v_loadA ty46 rfl rfl) rfl ?_
    refine op_v (v_len Tryz.underlying46 rfl) rfl ?_
    refine op_v (v_cmp rfl rfl rfl) rfl ?_
    refine ops_nil ?_
    refine post_next ?_
    refine code_cond rfl (fun hc0 => ?_) (fun hc0 => ?_)
    · have hlt : k < ts.length := by simpa using hc0
      have hs1 := (hat k hlt).isSome
      have hm := sizeL_mem ts k hlt
      refine code_skip ?_
      refine post_next ?_
      refine code_seq ?_
      refine code_block ?_
      refine code_seq ?_
      refine code_region ?_
      refine op_v (v_move rfl) rfl ?_
      refine op_v (v_fieldB 1 Tryz.underlying48 rfl rfl fz46 rfl) rfl ?_
      refine op_v (v_loadA ty46 rfl rfl) rfl ?_
      refine op_v (v_move rfl) rfl ?_
      refine op_v (v_indexA Tryz.underlying46 sz48 rfl rfl) rfl ?_
      refine op_v (v_loadI0 ty48 ((hat k hlt).mono hI0) rfl rfl rfl) rfl ?_
      refine op_call pl116 rfl rfl ((Truth_does (hg.mono hI0) ((hsub k hlt).mono hI0))) Parts.none ?_
      rintro _ I19 _ hI19 ⟨rfl, rfl⟩
      rw [← mixB_tru (hch k hlt)]
      by_cases h20 : mixB gs (false, ts[k]) = true
      · rw [h20]
        refine op_v (v_move rfl) rfl ?_
        refine op_skip rfl rfl (by simp [undef]) rfl ?_
        refine op_skip rfl rfl (by simp [undef]) rfl ?_
        refine op_skip rfl rfl (by simp [undef]) rfl ?_
        refine op_skip rfl rfl (by simp [undef]) rfl ?_
        refine op_skip rfl rfl (by simp [undef]) rfl ?_
        refine op_skip rfl rfl (by simp [undef]) rfl ?_
        refine op_skip rfl rfl (by simp [undef]) rfl ?_
        refine op_skip rfl rfl (by simp [undef]) rfl ?_
        refine op_v (v_pickt rfl rfl) rfl ?_
        refine ops_nil ?_
        refine post_next ?_
        refine code_cond_t rfl ?_
        refine code_seq ?_
        refine code_region ?_
        refine op_v (v_assign rfl) rfl ?_
        refine ops_nil ?_
        refine post_next ?_
        refine code_ret ?_
        refine post_ret_block ?_
        refine post_ret_then ?_
        refine post_ret_then ?_
        refine post_ret_block ?_
        refine post_ret_then ?_
        refine post_ret (rs := [.tmp 4]) rfl (List.Perm.refl _) (.cons (.tmp rfl) .nil) (List.nil_sublist _) ?_
        exact ⟨by rw [mixG_eq, show (T.mk h ts).args = ts from rfl, any_at_true k hlt (by rw [h20]; rfl)]; rfl, rfl⟩
      · have h20' : mixB gs (false, ts[k]) = false := by simpa using h20
        rw [h20']
        refine op_v (v_move rfl) rfl ?_
        refine op_want rfl rfl ?_
        refine op_v (v_move rfl) rfl ?_
        first
          | (refine op_want rfl rfl ?_
             refine op_v (v_fieldB 1 Tryz.underlying48 rfl rfl fz46 rfl) rfl ?_)
          | (refine op_skip rfl rfl (by simp [undef]) rfl ?_)
        refine op_want rfl rfl ?_
        refine op_v (v_loadA ty46 rfl rfl) rfl ?_
        refine op_want rfl rfl ?_
        refine op_v (v_move rfl) rfl ?_
        first
          | (refine op_want rfl rfl ?_
             refine op_v (v_indexA Tryz.underlying46 sz48 rfl rfl) rfl ?_)
          | (refine op_skip rfl rfl (by simp [undef]) rfl ?_)
        first
          | (refine op_want rfl rfl ?_
             refine op_v (v_loadI0 ty48 (((hat k hlt).mono hI0).mono hI19) rfl rfl rfl) rfl ?_)
          | (refine op_skip rfl rfl (by simp [undef]) rfl ?_)
        refine op_want rfl rfl ?_
        refine op_call pl140 rfl rfl ((ih ts[k] (by omega) (hch k hlt) _ _ _ (hg.mono Imm.leA) ((hsub k hlt).mono Imm.leA))) Parts.none ?_
        rintro _ I27 _ hI27 ⟨rfl, rfl⟩
        by_cases h28 : mixG gs ts[k] = true
        · rw [h28]
          refine op_want rfl rfl ?_
          refine op_v (v_not rfl) rfl ?_
          refine op_v (v_pickf rfl rfl) rfl ?_
          refine ops_nil ?_
          refine post_next ?_
          refine code_cond_t rfl ?_
          refine code_seq ?_
          refine code_region ?_
          refine op_v (v_assign rfl) rfl ?_
          refine ops_nil ?_
          refine post_next ?_
          refine code_ret ?_
          refine post_ret_block ?_
          refine post_ret_then ?_
          refine post_ret_then ?_
          refine post_ret_block ?_
          refine post_ret_then ?_
          refine post_ret (rs := [.tmp 4]) rfl (List.Perm.refl _) (.cons (.tmp rfl) .nil) (List.nil_sublist _) ?_
          exact ⟨by rw [mixG_eq, show (T.mk h ts).args = ts from rfl, any_at_true k hlt (by rw [h28]; simp)]; rfl, rfl⟩
        · have h28' : mixG gs ts[k] = false := by simpa using h28
          rw [h28']
          refine op_want rfl rfl ?_
          refine op_v (v_not rfl) rfl ?_
          refine op_v (v_pickf rfl rfl) rfl ?_
          refine ops_nil ?_
          refine post_next ?_
          refine code_cond_f rfl ?_
          refine code_skip ?_
          refine post_out ?_
          refine post_next ?_
          refine code_region ?_
          refine op_v (v_move rfl) rfl ?_
          refine op_v (v_addb rfl rfl rfl (by omega)) rfl ?_
          refine op_v (v_assign rfl) rfl ?_
          refine ops_nil ?_
          refine post_again (ts.length - (k + 1)) [(0, .slice ga gs.length gc), (3, .pointer (some ⟨b3, 0, none⟩)), (5, .int .i64 ((k + 1 : Nat) : Int))] (by omega) ⟨k + 1, rfl, hlt, rfl, Imm.leA, rfl, ?_⟩ ⟨rfl, rfl, rfl, trivial⟩
          intro i h hi
          rcases Nat.lt_or_ge i k with hik | hik
          · exact hp i h hik
          have hik2 : i = k := by omega
          subst hik2
          rw [h20', h28']; rfl
    · have hge : k = ts.length := by simp at hc0; omega
      refine code_exit ?_
      refine post_exit_then ?_
      refine post_exit_then ?_
      refine post_exit ?_
      refine post_next ?_
      refine code_seq ?_
      refine code_region ?_
      refine op_v (v_assign rfl) rfl ?_
      refine ops_nil ?_
      refine post_next ?_
      refine code_ret ?_
      refine post_ret (rs := [.tmp 4]) rfl (List.Perm.refl _) (.cons (.tmp rfl) .nil) (List.nil_sublist _) ?_
      exact ⟨by rw [mixG_eq, show (T.mk h ts).args = ts from rfl, any_all_false (fun i hi => hp i hi (by omega))]; rfl, rfl⟩
theorem RTerm_does {I : Imm} {vg v : Value} {gs : List Sy} {t : T} (hg : RepG I vg gs) (hv : RepT I v t) (hbig : t.size ≤ 1000000000) :
    Does Tryz.prog 115 [vg, v] I [] (fun v _ δ' => v = .int .i64 (termG gs t) ∧ δ' = []) := by
  obtain ⟨ga, gc, rfl⟩ := hg.shape
  obtain ⟨a0, c0, rfl, hr0⟩ := hv.shape
  refine Does.intro Tryz.func115 rfl Tryz.ntmps115 rfl fun w0 => ?_
  refine code_seq ?_
  refine code_region ?_
  refine o_box rfl rfl rfl (fun b3 => ?_)
  refine op_v (v_assign rfl) rfl ?_
  refine ops_nil ?_
  refine post_next ?_
  refine code_seq ?_
  refine code_seq ?_
  refine code_region ?_
  refine op_v (v_move rfl) rfl ?_
  refine op_call pl70 rfl rfl ((RightR_does (hg.mono Imm.leA))) Parts.none ?_
  rintro _ I7 _ hI7 ⟨rfl, rfl⟩
  by_cases h8 : rightG gs = true
  · rw [h8]
    have hG : chkG gs = 0 := by simp [chkG, h8]
    refine op_v (v_not rfl) rfl ?_
    refine ops_nil ?_
    refine post_next ?_
    refine code_cond_f rfl ?_
    refine code_skip ?_
    refine post_next ?_
    refine code_seq ?_
    refine code_region ?_
    refine op_v (v_loadA ty48 rfl rfl) rfl ?_
    refine op_call pl133 rfl rfl ((RCheck_does (hv.mono Imm.leA) hbig)) Parts.none ?_
    rintro _ I10 _ hI10 ⟨rfl, rfl⟩
    refine op_v (v_assign rfl) rfl ?_
    refine ops_nil ?_
    refine post_next ?_
    refine code_seq ?_
    refine code_seq ?_
    refine code_region ?_
    refine op_v (v_move rfl) rfl ?_
    by_cases h12 : chkT t ≠ 0
    · refine op_v (v_cmptA rfl rfl rfl) rfl ?_
      refine ops_nil ?_
      refine post_next ?_
      refine code_cond_t rfl ?_
      refine code_seq ?_
      refine code_region ?_
      refine op_v (v_move rfl) rfl ?_
      refine op_v (v_assign rfl) rfl ?_
      refine ops_nil ?_
      refine post_next ?_
      refine code_ret ?_
      refine post_ret_then ?_
      refine post_ret (rs := [.tmp 4]) rfl (List.Perm.refl _) (.cons (.tmp rfl) .nil) (List.nil_sublist _) ?_
      exact ⟨by unfold termG; rw [hG, if_neg (by simp), if_pos h12]; rfl, rfl⟩
    · have h0 : chkT t = 0 := by omega
      refine op_v (v_cmpfA rfl rfl rfl) rfl ?_
      refine ops_nil ?_
      refine post_next ?_
      refine code_cond_f rfl ?_
      refine code_skip ?_
      refine post_next ?_
      refine code_seq ?_
      refine code_seq ?_
      refine code_region ?_
      refine op_v (v_move rfl) rfl ?_
      refine op_v (v_loadA ty48 rfl rfl) rfl ?_
      refine op_call pl139 rfl rfl ((known_does _ _ (Nat.le_refl _) h0 _ _ _ (hg.mono Imm.leA) (hv.mono Imm.leA))) Parts.none ?_
      rintro _ I16 _ hI16 ⟨rfl, rfl⟩
      by_cases h17 : unkG gs t = true
      · rw [h17]
        refine op_v (v_not rfl) rfl ?_
        refine ops_nil ?_
        refine post_next ?_
        refine code_cond_t rfl ?_
        refine code_seq ?_
        refine code_region ?_
        refine op_v (v_assign rfl) rfl ?_
        refine ops_nil ?_
        refine post_next ?_
        refine code_ret ?_
        refine post_ret_then ?_
        refine post_ret (rs := [.tmp 4]) rfl (List.Perm.refl _) (.cons (.tmp rfl) .nil) (List.nil_sublist _) ?_
        exact ⟨by unfold termG; rw [hG, h0, if_neg (by simp), if_neg (by simp), if_pos h17]; rfl, rfl⟩
      · have h17' : unkG gs t = false := by simpa using h17
        rw [h17']
        refine op_v (v_not rfl) rfl ?_
        refine ops_nil ?_
        refine post_next ?_
        refine code_cond_f rfl ?_
        refine code_skip ?_
        refine post_next ?_
        refine code_seq ?_
        refine code_seq ?_
        refine code_region ?_
        refine op_v (v_move rfl) rfl ?_
        refine op_v (v_loadA ty48 rfl rfl) rfl ?_
        refine op_call pl140 rfl rfl ((things_does _ _ (Nat.le_refl _) h17' _ _ _ (hg.mono Imm.leA) (hv.mono Imm.leA))) Parts.none ?_
        rintro _ I20 _ hI20 ⟨rfl, rfl⟩
        by_cases h21 : mixG gs t = true
        · rw [h21]
          refine op_v (v_not rfl) rfl ?_
          refine ops_nil ?_
          refine post_next ?_
          refine code_cond_t rfl ?_
          refine code_seq ?_
          refine code_region ?_
          refine op_v (v_assign rfl) rfl ?_
          refine ops_nil ?_
          refine post_next ?_
          refine code_ret ?_
          refine post_ret_then ?_
          refine post_ret (rs := [.tmp 4]) rfl (List.Perm.refl _) (.cons (.tmp rfl) .nil) (List.nil_sublist _) ?_
          exact ⟨by unfold termG; rw [hG, h0, if_neg (by simp), if_neg (by simp), if_neg (by rw [h17']; simp), if_pos h21]; rfl, rfl⟩
        · have h21' : mixG gs t = false := by simpa using h21
          rw [h21']
          refine op_v (v_not rfl) rfl ?_
          refine ops_nil ?_
          refine post_next ?_
          refine code_cond_f rfl ?_
          refine code_skip ?_
          refine post_next ?_
          refine code_seq ?_
          refine code_region ?_
          refine op_v (v_assign rfl) rfl ?_
          refine ops_nil ?_
          refine post_next ?_
          refine code_ret ?_
          refine post_ret (rs := [.tmp 4]) rfl (List.Perm.refl _) (.cons (.tmp rfl) .nil) (List.nil_sublist _) ?_
          exact ⟨by unfold termG; rw [hG, h0, if_neg (by simp), if_neg (by simp), if_neg (by rw [h17']; simp), if_neg (by rw [h21']; simp)]; rfl, rfl⟩
  · have h8' : rightG gs = false := by simpa using h8
    rw [h8']
    have hG : chkG gs = 1 := by simp [chkG, h8']
    refine op_v (v_not rfl) rfl ?_
    refine ops_nil ?_
    refine post_next ?_
    refine code_cond_t rfl ?_
    refine code_seq ?_
    refine code_region ?_
    refine op_v (v_assign rfl) rfl ?_
    refine ops_nil ?_
    refine post_next ?_
    refine code_ret ?_
    refine post_ret_then ?_
    refine post_ret (rs := [.tmp 4]) rfl (List.Perm.refl _) (.cons (.tmp rfl) .nil) (List.nil_sublist _) ?_
    exact ⟨by unfold termG; rw [hG]; rfl, rfl⟩
end Go.Proofs.YtdbadicpbmndbaaGreat
/- Variables numbered by binds, and what stands apart, as the document has it. Plain facts; no condition. -/
set_option linter.unusedVariables false
set_option linter.unusedSimpArgs false
set_option linter.unnecessarySimpa false
namespace Go.Proofs.YtdbadicpbmndbaaGreat
open Go Lg

def numB (vs : List Int) : List Bi := vs.zipIdx.map fun x => (x.1, T.mk (-1 - (x.2 : Int)) [])
theorem numB_len (vs : List Int) : (numB vs).length = vs.length := by simp [numB]
theorem numB_snoc (vs : List Int) (v : Int) : numB (vs ++ [v]) = numB vs ++ [(v, .mk (-1 - (vs.length : Int)) [])] := by
  unfold numB; rw [List.zipIdx_append]; simp
theorem numB_take (vs : List Int) (k : Nat) (h : k < vs.length) : numB (vs.take (k + 1)) = numB (vs.take k) ++ [(vs[k], .mk (-1 - (k : Int)) [])] := by
  rw [List.take_succ_eq_append_getElem h, numB_snoc, List.length_take, Nat.min_eq_left (Nat.le_of_lt h)]
theorem ofB_num (vs : List Int) (v : Int) : ofB (numB vs) v = if v ∈ vs then some (.mk (-1 - (numOf vs v : Int)) []) else none := by
  have key : ∀ (vs : List Int) (j : Nat), ofB ((vs.zipIdx j).map fun x => (x.1, T.mk (-1 - (x.2 : Int)) [])) v = if v ∈ vs then some (.mk (-1 - ((j + numOf vs v : Nat) : Int)) []) else none := by
    intro vs
    induction vs with
    | nil => intro j; simp [ofB]
    | cons x r ih =>
      intro j
      simp only [List.zipIdx_cons, List.map_cons, ofB, numOf]
      by_cases e : x = v
      · rw [if_pos e, if_pos e, if_pos (by simp [e])]; simp
      · rw [if_neg e, if_neg e, ih (j + 1)]
        by_cases m : v ∈ r
        · rw [if_pos m, if_pos (by simp [m])]; congr 4; omega
        · rw [if_neg m, if_neg (by simp [m]; exact fun q => e q.symm)]
  have := key vs 0
  rw [Nat.zero_add] at this
  exact this
mutual
theorem renT_pre : ∀ (t : T) (ns : List Int), ∃ ms, (renT ns t).2 = ns ++ ms
  | .mk h ts, ns => by
    simp only [renT]
    split
    · exact addN_pre _ _
    · exact renL_pre ts ns
theorem renL_pre : ∀ (ts : List T) (ns : List Int), ∃ ms, (renL ns ts).2 = ns ++ ms
  | [], ns => ⟨[], by simp [renL]⟩
  | t :: r, ns => by
    obtain ⟨m1, h1⟩ := renT_pre t ns
    obtain ⟨m2, h2⟩ := renL_pre r (renT ns t).2
    exact ⟨m1 ++ m2, by simp only [renL]; rw [h2, h1, List.append_assoc]⟩
end
mutual
theorem sb_renT : ∀ (t : T) (ns fin : List Int), (∃ ms, fin = (renT ns t).2 ++ ms) → sbT (numB fin) t = (renT ns t).1
  | .mk h ts, ns, fin, hf => by
    unfold sbT
    simp only [renT, rbT] at hf ⊢
    by_cases q : h < 0
    · rw [if_pos q] at hf ⊢
      rw [if_pos q]
      obtain ⟨ms, hf⟩ := hf
      simp only at hf
      have hm : (-1 - h) ∈ fin := by rw [hf]; exact List.mem_append_left _ (addN_mem _ _)
      unfold ofT
      simp only [T.head]
      rw [ofB_num, if_pos hm, Option.getD_some, hf, numOf_app _ (addN_mem _ _)]
    · rw [if_neg q] at hf ⊢
      rw [if_neg q]
      have := sb_renL ts ns fin hf
      simp only at this ⊢
      rw [this]
theorem sb_renL : ∀ (ts : List T) (ns fin : List Int), (∃ ms, fin = (renL ns ts).2 ++ ms) → rbL (ofT (numB fin)) ts = (renL ns ts).1
  | [], ns, fin, _ => by simp [rbL, renL]
  | t :: r, ns, fin, hf => by
    simp only [renL, rbL] at hf ⊢
    obtain ⟨ms, hf⟩ := hf
    obtain ⟨m2, h2⟩ := renL_pre r (renT ns t).2
    have e1 := sb_renT t ns fin ⟨m2 ++ ms, by rw [hf, h2, List.append_assoc]⟩
    have e2 := sb_renL r (renT ns t).2 fin ⟨ms, hf⟩
    unfold sbT at e1
    rw [e1, e2]
end
theorem addN_uni (ns a : List Int) (x : Int) : uniL ns (addN a x) = addN (uniL ns a) x := by
  by_cases h : x ∈ a
  · have h2 : x ∈ uniL ns a := (uniL_mem _ _ _).2 (.inr h)
    unfold addN; rw [if_pos h, if_pos h2]
  · conv => lhs; unfold addN
    rw [if_neg h, uniL_app]; rfl
theorem uniL_uni (ns a : List Int) : ∀ l : List Int, uniL ns (uniL a l) = uniL (uniL ns a) l := by
  intro l
  induction l generalizing a with
  | nil => rfl
  | cons x r ih =>
    show uniL ns (uniL (addN a x) r) = uniL (addN (uniL ns a) x) r
    rw [ih, addN_uni]
theorem uniL_uvL (ns : List Int) : ∀ (ts : List T) (a : List Int), uvL (uniL ns a) ts = uniL ns (uvL a ts)
  | [], a => by simp [uvL]
  | t :: r, a => by
    simp only [uvL]
    rw [← uniL_uvL ns r (uniL a (uvT t)), uniL_uni]
mutual
theorem ren_uvT : ∀ (t : T) (ns : List Int), chkT t = 0 → (renT ns t).2 = uniL ns (uvT t)
  | .mk h ts, ns, hc => by
    obtain ⟨h1, h2⟩ := chkT_args hc
    simp only [renT, uvT]
    by_cases q : h < 0
    · rw [if_pos q, if_pos q, h1 q]; rfl
    · rw [if_neg q, if_neg q]
      show (renL ns ts).2 = _
      rw [ren_uvL ts ns fun k hk => h2 k hk]
      exact uniL_uvL ns ts []
theorem ren_uvL : ∀ (ts : List T) (ns : List Int), (∀ k (hk : k < ts.length), chkT ts[k] = 0) → (renL ns ts).2 = uvL ns ts
  | [], ns, _ => by simp [renL, uvL]
  | t :: r, ns, hc => by
    simp only [renL, uvL]
    rw [ren_uvT t ns (hc 0 (by simp)), ren_uvL r _ fun k hk => by have := hc (k + 1) (by simpa using hk); simpa using this]
end
theorem any_bad {ts : List T} (h : ts.any badT = false) : ∀ t ∈ ts, chkT t = 0 := fun t ht => by
  have := List.any_eq_false.1 h t ht
  unfold badT at this; simpa using this
theorem norm_put {c : List Li} (h : (sidesL c).any badT = false) : rbL (ofT (numB (uvL [] (sidesL c)))) (sidesL c) = (renL [] (sidesL c)).1 :=
  sb_renL _ [] _ ⟨[], by rw [List.append_nil, ren_uvL _ _ fun k hk => any_bad h _ (List.getElem_mem hk)]⟩
def putC (bs : List Bi) (c : List Li) : List Li := c.map fun x => ⟨x.neg, sbT bs x.l, sbT bs x.r⟩
theorem ofL_put (f : T → T) : ∀ c : List Li, ofL c (rbL f (sidesL c)) = c.map fun x => ⟨x.neg, rbT f x.l, rbT f x.r⟩
  | [] => rfl
  | x :: r => by
    show ofL (x :: r) (rbL f (x.l :: x.r :: sidesL r)) = _
    simp only [rbL, ofL, List.map_cons, ofL_put f r]
theorem norm_putC {c : List Li} (h : (sidesL c).any badT = false) : putC (numB (uvL [] (sidesL c))) c = normC c := by
  unfold normC; rw [← norm_put h, ofL_put]; rfl
/-! ### the same variables -/
mutual
theorem uvT_mem : ∀ (t : T) (v : Int), v ∈ uvT t ↔ ∃ k ∈ hds t, k < 0 ∧ v = -1 - k
  | .mk h ts, v => by
    simp only [uvT]
    rw [uvL_mem ts _ v, hds_eq2]
    constructor
    · rintro (h1 | ⟨k, hk, h1⟩)
      · split at h1
        · rename_i q; simp at h1; exact ⟨h, List.mem_cons_self .., q, h1⟩
        · cases h1
      · exact ⟨k, List.mem_cons_of_mem _ hk, h1⟩
    · rintro ⟨k, hk, h1, h2⟩
      rcases List.mem_cons.1 hk with rfl | hk
      · left; rw [if_pos h1]; simp [h2]
      · right; exact ⟨k, hk, h1, h2⟩
theorem uvL_mem : ∀ (ts : List T) (acc : List Int) (v : Int), v ∈ uvL acc ts ↔ v ∈ acc ∨ ∃ k ∈ ts.flatMap hds, k < 0 ∧ v = -1 - k
  | [], acc, v => by simp [uvL]
  | t :: r, acc, v => by
    simp only [uvL]
    rw [uvL_mem r _ v, uniL_mem, uvT_mem t v, List.flatMap_cons]
    constructor
    · rintro ((h | ⟨k, hk, h⟩) | ⟨k, hk, h⟩)
      · exact .inl h
      · exact .inr ⟨k, List.mem_append_left _ hk, h⟩
      · exact .inr ⟨k, List.mem_append_right _ hk, h⟩
    · rintro (h | ⟨k, hk, h⟩)
      · exact .inl (.inl h)
      · rcases List.mem_append.1 hk with q | q
        · exact .inl (.inr ⟨k, q, h⟩)
        · exact .inr ⟨k, q, h⟩
end
theorem varsP_mem {t : T} {v : Int} : v ∈ varsP (partsT 1 t) ↔ ∃ k ∈ hds t, k < 0 ∧ v = -1 - k := by
  constructor
  · intro h
    obtain ⟨x, hx, e, h0⟩ := varsP_get h
    exact ⟨x.2.head, parts_hds hx, by omega, by omega⟩
  · rintro ⟨k, hk, h0, rfl⟩
    obtain ⟨x, hx, rfl⟩ := hds_parts hk
    exact varsP_has hx h0
theorem varsGo_mem : ∀ (ts : List T) (acc : List Int) (v : Int), v ∈ varsGo acc ts ↔ v ∈ acc ∨ ∃ k ∈ ts.flatMap hds, k < 0 ∧ v = -1 - k
  | [], acc, v => by simp [varsGo]
  | t :: r, acc, v => by
    show v ∈ varsGo (uniL acc (varsP (partsT 1 t))) r ↔ _
    rw [varsGo_mem r _ v, uniL_mem, varsP_mem, List.flatMap_cons]
    constructor
    · rintro ((h | ⟨k, hk, h⟩) | ⟨k, hk, h⟩)
      · exact .inl h
      · exact .inr ⟨k, List.mem_append_left _ hk, h⟩
      · exact .inr ⟨k, List.mem_append_right _ hk, h⟩
    · rintro (h | ⟨k, hk, h⟩)
      · exact .inl (.inl h)
      · rcases List.mem_append.1 hk with q | q
        · exact .inl (.inr ⟨k, q, h⟩)
        · exact .inr ⟨k, q, h⟩
theorem uv_vars (c : List Li) (v : Int) : v ∈ uvL [] (sidesL c) ↔ v ∈ varsC c := by
  unfold varsC; rw [uvL_mem, varsGo_mem]
theorem byL_at (l : List Int) : byL l = 0 ∨ ∃ v ∈ l, byL l = v + 1 := by
  have key : ∀ (l : List Int) (a : Int), l.foldl (fun a v => max a (v + 1)) a = a ∨ ∃ v ∈ l, l.foldl (fun a v => max a (v + 1)) a = v + 1 := by
    intro l
    induction l with
    | nil => intro a; exact .inl rfl
    | cons x r ih =>
      intro a
      simp only [List.foldl_cons]
      rcases ih (max a (x + 1)) with h | ⟨v, hv, h⟩
      · rw [h]
        rcases Int.le_total a (x + 1) with q | q
        · right; exact ⟨x, List.mem_cons_self .., Int.max_eq_right q⟩
        · left; exact Int.max_eq_left q
      · right; exact ⟨v, List.mem_cons_of_mem _ hv, h⟩
  exact key l 0
theorem byL_congr {l m : List Int} (h : ∀ v, v ∈ l ↔ v ∈ m) : byL l = byL m := by
  have half : ∀ {l m : List Int}, (∀ v, v ∈ l ↔ v ∈ m) → byL l ≤ byL m := fun {l m} h => by
    rcases byL_at l with e | ⟨v, hv, e⟩
    · rw [e]; exact byL_nonneg m
    · have := byL_lt ((h v).1 hv); omega
  exact Int.le_antisymm (half h) (half fun v => (h v).symm)
theorem byL_uv (c : List Li) : byL (uvL [] (sidesL c)) = byL (varsC c) := byL_congr (uv_vars c)
/-! ### what stands apart -/
theorem anyV_iff {t : T} : anyV t = true ↔ ∃ k ∈ hds t, k < 0 := by
  unfold anyV
  rw [decide_eq_true_eq]
  constructor
  · intro h
    obtain ⟨v, hv⟩ := List.exists_mem_of_length_pos h
    obtain ⟨k, hk, h0, _⟩ := varsP_mem.1 hv
    exact ⟨k, hk, h0⟩
  · rintro ⟨k, hk, h0⟩
    exact List.length_pos_of_mem (varsP_mem.2 ⟨k, hk, h0, rfl⟩)
def apM (c : List Li) : Int := min (byL (varsC c)) 255
/-- a literal of the normed clause that cannot be shifted -/
def badQ (c n : List Li) (x : Li) : Prop := (255 < byL (varsC c) ∧ 0 < (uvL [] (sidesL n)).length) ∨ shE (apM c) x.l ≠ 0 ∨ shE (apM c) x.r ≠ 0
theorem sh_ok {n : Int} {t : T} (h0 : 0 ≤ n) (h1 : n ≤ 255) (hc : chkT t = 0) (hv : anyV t = false) : shE n t = 0 := by
  unfold shE
  rw [if_neg (by omega), if_neg (by omega), if_neg (by omega), sh_groundT n t (anyV_false hv)]; exact hc
theorem apart_bad1 {c d : List Li} (hd : (sidesL d).any badT = true) : apartE c d = true := by unfold apartE; rw [hd]; rfl
theorem apart_bad2 {c d : List Li} (hc : (sidesL c).any badT = true) : apartE c d = true := by unfold apartE; rw [hc]; simp
theorem norm_sides {d : List Li} {t : T} : t ∈ (renL [] (sidesL d)).1 ↔ ∃ x ∈ normC d, t = x.l ∨ t = x.r := by
  have e : sidesL (normC d) = (renL [] (sidesL d)).1 := by unfold normC; exact sidesL_ofL _ _ (by rw [renL_len]; exact sidesL_len d)
  rw [← e]
  unfold sidesL
  rw [List.mem_flatMap]
  constructor
  · rintro ⟨x, hx, h⟩; exact ⟨x, hx, by simpa using h⟩
  · rintro ⟨x, hx, h⟩; exact ⟨x, hx, by simpa using h⟩
theorem ren_chk {d : List Li} (hd : (sidesL d).any badT = false) {t : T} (ht : t ∈ (renL [] (sidesL d)).1) (hv : anyV t = false) : chkT t = 0 := by
  obtain ⟨s, hs, ms, rfl⟩ := renL_mem ht
  rw [ren_groundT s ms (anyV_false hv)]
  exact any_bad hd s hs
theorem apM_in (c : List Li) : 0 ≤ apM c ∧ apM c ≤ 255 := by
  have := byL_nonneg (varsC c); unfold apM; omega
theorem shE_M {c : List Li} {t : T} (h : byL (varsC c) ≤ 255) : shE (apM c) t = shE (byL (varsC c)) t := by
  unfold apM; rw [Int.min_eq_left h]
theorem uv_norm {n : List Li} : 0 < (uvL [] (sidesL n)).length ↔ ∃ t ∈ sidesL n, anyV t = true := by
  constructor
  · intro h
    obtain ⟨v, hv⟩ := List.exists_mem_of_length_pos h
    rcases (uvL_mem _ _ _).1 hv with q | ⟨k, hk, h0, _⟩
    · cases q
    · obtain ⟨t, ht, hk⟩ := List.mem_flatMap.1 hk
      exact ⟨t, ht, anyV_iff.2 ⟨k, hk, h0⟩⟩
  · rintro ⟨t, ht, hv⟩
    obtain ⟨k, hk, h0⟩ := anyV_iff.1 hv
    exact List.length_pos_of_mem ((uvL_mem _ _ (-1 - k)).2 (.inr ⟨k, List.mem_flatMap.2 ⟨t, ht, hk⟩, h0, rfl⟩))
theorem side_norm {d : List Li} {t : T} : t ∈ sidesL (normC d) ↔ t ∈ (renL [] (sidesL d)).1 := by
  unfold normC; rw [sidesL_ofL _ _ (by rw [renL_len]; exact sidesL_len d)]
theorem apart_bad3 {c d : List Li} (hd : (sidesL d).any badT = false) {x : Li} (hx : x ∈ normC d) (h : badQ c (normC d) x) : apartE c d = true := by
  have hany : (renL [] (sidesL d)).1.any (apBad (byL (varsC c))) = true := by
    rw [List.any_eq_true]
    by_cases hb : 255 < byL (varsC c)
    · by_cases hu : 0 < (uvL [] (sidesL (normC d))).length
      · obtain ⟨t, ht, hv⟩ := uv_norm.1 hu
        refine ⟨t, side_norm.1 ht, ?_⟩
        unfold apBad
        rw [hv, Bool.true_and, decide_eq_true_eq]
        unfold shE
        split
        · simp
        · split
          · simp
          · simp
      · have hno : ∀ t, t = x.l ∨ t = x.r → shE (apM c) t = 0 := fun t ht => by
          have hm := norm_sides.2 ⟨x, hx, ht⟩
          have hv : anyV t = false := by
            cases hv : anyV t
            · rfl
            · exact absurd (uv_norm.2 ⟨t, side_norm.2 hm, hv⟩) hu
          exact sh_ok (apM_in c).1 (apM_in c).2 (ren_chk hd hm hv) hv
        rcases h with h | h | h
        · exact absurd h.2 hu
        · exact absurd (hno _ (.inl rfl)) h
        · exact absurd (hno _ (.inr rfl)) h
    · have key : ∀ t, (t = x.l ∨ t = x.r) → shE (apM c) t ≠ 0 → ∃ t ∈ (renL [] (sidesL d)).1, apBad (byL (varsC c)) t = true := fun t ht hs => by
        have hm := norm_sides.2 ⟨x, hx, ht⟩
        refine ⟨t, hm, ?_⟩
        have hv : anyV t = true := by
          cases hv : anyV t
          · exact absurd (sh_ok (apM_in c).1 (apM_in c).2 (ren_chk hd hm hv) hv) hs
          · rfl
        unfold apBad
        rw [hv, Bool.true_and, decide_eq_true_eq, ← shE_M (by omega)]
        exact hs
      rcases h with h | h | h
      · exact absurd h.1 hb
      · exact key _ (.inl rfl) h
      · exact key _ (.inr rfl) h
  unfold apartE
  rw [hany]; simp
theorem apart_fine {c d : List Li} (hd : (sidesL d).any badT = false) (hc : (sidesL c).any badT = false) (h : ∀ x ∈ normC d, ¬ badQ c (normC d) x) :
    apartE c d = false ∧ apartC c d = (normC d).map fun x => ⟨x.neg, shT (apM c) x.l, shT (apM c) x.r⟩ := by
  have hB : ∀ t ∈ (renL [] (sidesL d)).1, 255 < byL (varsC c) → anyV t = false := fun t ht hb => by
    obtain ⟨x, hx, hxt⟩ := norm_sides.1 ht
    cases hv : anyV t
    · rfl
    · exact absurd (.inl ⟨hb, uv_norm.2 ⟨t, side_norm.2 ht, hv⟩⟩) (h x hx)
  constructor
  · unfold apartE
    rw [hd, hc, Bool.false_or, Bool.false_or, List.any_eq_false]
    intro t ht
    obtain ⟨x, hx, hxt⟩ := norm_sides.1 ht
    have hq := h x hx
    cases hv : anyV t
    · unfold apBad; rw [hv]; simp
    · have hb : ¬ 255 < byL (varsC c) := fun hb => by rw [hB t ht hb] at hv; cases hv
      unfold apBad
      rw [hv, Bool.true_and, decide_eq_true_eq, ← shE_M (by omega)]
      intro hs
      rcases hxt with rfl | rfl
      · exact hq (.inr (.inl hs))
      · exact hq (.inr (.inr hs))
  · have e1 : (renL [] (sidesL d)).1.map (apT (byL (varsC c))) = rbL (shF (apM c)) (renL [] (sidesL d)).1 := by
      rw [rbL_map]
      refine List.map_congr_left fun t ht => ?_
      show apT _ t = shT (apM c) t
      rw [apT_sh]
      by_cases hb : 255 < byL (varsC c)
      · have hg := anyV_false (hB t ht hb)
        rw [sh_groundT _ t hg, sh_groundT _ t hg]
      · unfold apM; rw [Int.min_eq_left (by omega)]
    have e2 : (renL [] (sidesL d)).1 = sidesL (normC d) := by unfold normC; exact (sidesL_ofL _ _ (by rw [renL_len]; exact sidesL_len d)).symm
    have e3 : ∀ us : List T, us.length = 2 * d.length → ofL d us = ofL (normC d) us := fun us hu => by
      unfold normC; exact (ofL_ofL d _ us (by rw [renL_len]; exact sidesL_len d) hu).symm
    unfold apartC
    rw [e1, e3 _ (by rw [rbL_len, renL_len]; exact sidesL_len d), e2, ofL_put]; rfl
end Go.Proofs.YtdbadicpbmndbaaGreat
/- Rows of binds. Plain definitions; no condition. -/
set_option linter.unusedVariables false
set_option linter.unusedSimpArgs false
namespace Go.Proofs.YtdbadicpbmndbaaGreat
open Go Lg

abbrev biC (b : Bi) (a : Option Addr) (c : Nat) : List Value := [.int .i64 b.1, .int .i64 b.2.head, .slice a b.2.args.length c]
def BindE : Elt 3 Bi where
  R := fun I b vs => InR b.1 ∧ ∃ (a : Option Addr) (c : Nat), vs = biC b a c ∧ RepT I (.agg #[.int .i64 b.2.head, .slice a b.2.args.length c]) b.2
  len := by rintro I a vs ⟨_, la, lc, rfl, _⟩; rfl
  one := by
    rintro I a vs ⟨_, la, lc, rfl, _⟩ u hu
    simp only [List.mem_cons, List.not_mem_nil, or_false] at hu
    rcases hu with rfl | rfl | rfl <;> rfl
  mono := by rintro I J a vs hl ⟨h0, la, lc, rfl, h1⟩; exact ⟨h0, la, lc, rfl, h1.mono hl⟩
abbrev bdRow (A : Option Addr) (c n : Nat) (xs : List Value) : Ent := .row (.slice A n c) 50 3 n xs
theorem RowE.repB {I : Imm} {ad : Option Addr} {c : Nat} {xs : List Value} {bs : List Bi} (h : RowE BindE I xs bs) (hc : Cells I ad xs) (hle : bs.length ≤ c) (hb : bs.length ≤ 4398046511104) : RepB I (.slice ad bs.length c) bs := by
  have hex : ∃ ss : Nat → Option Addr × Nat, ∀ i (h : i < bs.length), InR bs[i].1 ∧ At I ad (i * 3) [.int .i64 bs[i].1, .int .i64 bs[i].2.head, .slice (ss i).1 bs[i].2.args.length (ss i).2] ∧ RepT I (.agg #[.int .i64 bs[i].2.head, .slice (ss i).1 bs[i].2.args.length (ss i).2]) bs[i].2 := by
    classical
    have key : ∀ i (hi : i < bs.length), ∃ s : Option Addr × Nat, InR bs[i].1 ∧ At I ad (i * 3) [.int .i64 bs[i].1, .int .i64 bs[i].2.head, .slice s.1 bs[i].2.args.length s.2] ∧ RepT I (.agg #[.int .i64 bs[i].2.head, .slice s.1 bs[i].2.args.length s.2]) bs[i].2 := fun i hi => by
      obtain ⟨vs, ⟨h0, a, n, rfl, hr⟩, hat⟩ := h.cellsAt hc hi
      exact ⟨(a, n), h0, hat, hr⟩
    exact ⟨fun i => if h : i < bs.length then (key i h).choose else (none, 0), fun i hi => by simp only [dif_pos hi]; exact (key i hi).choose_spec⟩
  obtain ⟨ss, hss⟩ := hex
  exact ⟨ad, c, ss, bs, hle, hb, fun i hi => (hss i hi).2.1, fun i hi => (hss i hi).1, fun i hi => (hss i hi).2.2⟩
theorem biL_rowE {I : Imm} : ∀ (bs : List Bi) (ss : Nat → Option Addr × Nat), (∀ i (h : i < bs.length), InR bs[i].1) → (∀ i (h : i < bs.length), RepT I (.agg #[.int .i64 bs[i].2.head, .slice (ss i).1 bs[i].2.args.length (ss i).2]) bs[i].2) → ∃ xs, RowE BindE I xs bs ∧ ∀ i (h : i < bs.length) j v, (biC bs[i] (ss i).1 (ss i).2)[j]? = some v → xs[i * 3 + j]? = some v
  | [], ss, _, _ => ⟨[], rfl, fun i h => by simp at h⟩
  | b :: r, ss, h0, h1 => by
    obtain ⟨xs, hx, hat⟩ := biL_rowE r (fun i => ss (i + 1)) (fun i hi => h0 (i + 1) (by simpa using hi)) (fun i hi => h1 (i + 1) (by simpa using hi))
    refine ⟨biC b (ss 0).1 (ss 0).2 ++ xs, ⟨_, _, rfl, ⟨h0 0 (by simp), _, _, rfl, h1 0 (by simp)⟩, hx⟩, fun i hi j v hj => ?_⟩
    cases i with
    | zero =>
      simp only [List.getElem_cons_zero] at hj
      rw [List.getElem?_append_left (by have := (List.getElem?_eq_some_iff.1 hj).1; simpa using this)]
      simpa using hj
    | succ i =>
      simp only [List.getElem_cons_succ] at hj
      rw [List.getElem?_append_right (by simp; omega)]
      have := hat i (by simpa using hi) j v hj
      rw [← this]; congr 1; simp; omega
theorem RepB.rowE {I : Imm} {v : Value} {bs : List Bi} (h : RepB I v bs) : ∃ (A : Option Addr) (c : Nat) (xs : List Value), v = .slice A bs.length c ∧ bs.length ≤ c ∧ bs.length ≤ 4398046511104 ∧ Cells I A xs ∧ RowE BindE I xs bs := by
  obtain ⟨ad, c, ss, bs, hc, hb, hat, hr, hsub⟩ := h
  obtain ⟨xs, hx, hx2⟩ := biL_rowE bs ss hr hsub
  refine ⟨ad, c, xs, rfl, hc, hb, fun j v hj => ?_, hx⟩
  have hlt : j < bs.length * 3 := by rw [← hx.length]; exact (List.getElem?_eq_some_iff.1 hj).1
  have hi : j / 3 < bs.length := by omega
  have hm : j = j / 3 * 3 + j % 3 := by omega
  have hm3 : j % 3 < 3 := by omega
  have hsome : ∃ u, (biC bs[j / 3] (ss (j / 3)).1 (ss (j / 3)).2)[j % 3]? = some u := by
    rw [List.getElem?_eq_getElem (by simpa using hm3)]; exact ⟨_, rfl⟩
  obtain ⟨u, hu⟩ := hsome
  have h1 := hx2 _ hi _ _ hu
  rw [← hm] at h1
  rw [h1] at hj
  cases hj
  have := hat _ hi (j % 3) v hu
  rw [← hm] at this
  exact this
end Go.Proofs.YtdbadicpbmndbaaGreat
/- Walks: the example of the chapter on literals; a literal oriented: the statement. -/
set_option linter.unusedVariables false
set_option linter.unusedSimpArgs false
set_option linter.unnecessarySimpa false
/- short -/
namespace Go.Proofs.YtdbadicpbmndbaaGreat
open Go Lg

end Go.Proofs.YtdbadicpbmndbaaGreat
/- Walks: terms put into a literal, by the program. -/
set_option linter.unusedVariables false
set_option linter.unusedSimpArgs false
set_option linter.unnecessarySimpa false
/- short -/
namespace Go.Proofs.YtdbadicpbmndbaaGreat
open Go Lg

/-- what Apply answers, exactly -/
def OutE (bs : List Bi) (t : T) (e : Int) (u : T) : Prop := ((chkB bs ∧ chkT t = 0) ∧ e = chkT (sbT bs t) ∧ u = (if chkT (sbT bs t) = 0 then sbT bs t else zeroT)) ∨ (¬ (chkB bs ∧ chkT t = 0) ∧ e = 1 ∧ u = zeroT)
theorem OutE.size {bs : List Bi} {t : T} {e : Int} {u : T} (h : OutE bs t e u) : u.size ≤ 400 := by
  rcases h with ⟨h1, h2, h3⟩ | ⟨h1, h2, h3⟩
  · subst h3; split
    · exact chkT_size (by assumption)
    · exact (by decide : zeroT.size ≤ 400)
  · subst h3; exact (by decide : zeroT.size ≤ 400)
def OutL (bs : List Bi) (x : Li) (e : Int) (y : Li) : Prop := ∃ e1 u1, OutE bs x.l e1 u1 ∧ ((e1 ≠ 0 ∧ e = e1 ∧ y = zeroLi) ∨ (e1 = 0 ∧ ∃ e2 u2, OutE bs x.r e2 u2 ∧ ((e2 ≠ 0 ∧ e = e2 ∧ y = zeroLi) ∨ (e2 = 0 ∧ e = 0 ∧ y = ⟨x.neg, u1, u2⟩))))
theorem OutL.size {bs : List Bi} {x y : Li} {e : Int} (h : OutL bs x e y) : y.l.size ≤ 1000000000 ∧ y.r.size ≤ 1000000000 := by
  have hz : zeroT.size ≤ 400 := by decide
  obtain ⟨e1, u1, h1, ⟨_, _, rfl⟩ | ⟨_, e2, u2, h3, ⟨_, _, rfl⟩ | ⟨_, _, rfl⟩⟩⟩ := h
  · exact ⟨Nat.le_trans hz (by omega), Nat.le_trans hz (by omega)⟩
  · exact ⟨Nat.le_trans hz (by omega), Nat.le_trans hz (by omega)⟩
  · have := h1.size; have := h3.size; exact ⟨by show u1.size ≤ _; omega, by show u2.size ≤ _; omega⟩
end Go.Proofs.YtdbadicpbmndbaaGreat
/- Which literals are maximal: plainly, and walks: terms put into clauses, Maximal. -/
set_option linter.unusedVariables false
set_option linter.unusedSimpArgs false
set_option linter.unnecessarySimpa false
/- short -/
namespace Go.Proofs.YtdbadicpbmndbaaGreat
open Go Lg

/-! ### terms put into a clause -/
def OutC (bs : List Bi) (c : List Li) (e : Int) (ys : List Li) : Prop :=
  (32 < c.length ∧ e = 2 ∧ ys = []) ∨ (c.length ≤ 32 ∧ ((∃ (k : Nat) (hk : k < c.length) (zs : List Li) (y : Li), (zs.length = k ∧ ∀ i (h : i < k) (h2 : i < zs.length), OutL bs c[i] 0 zs[i]) ∧ OutL bs c[k] e y ∧ e ≠ 0 ∧ ys = []) ∨ (e = 0 ∧ ys.length = c.length ∧ ∀ i (h : i < c.length) (h2 : i < ys.length), OutL bs c[i] 0 ys[i])))
theorem OutC.sm {bs : List Bi} {c ys : List Li} {e : Int} (h : OutC bs c e ys) : SmC ys := by
  rcases h with ⟨_, _, rfl⟩ | ⟨_, ⟨_, _, _, _, _, _, _, rfl⟩ | ⟨_, hl, hall⟩⟩
  · intro x hx; cases hx
  · intro x hx; cases hx
  · intro x hx
    obtain ⟨i, hi, rfl⟩ := List.getElem_of_mem hx
    exact (hall i (by omega) hi).size
/-! ### which ones are maximal -/
end Go.Proofs.YtdbadicpbmndbaaGreat
/- What is selected, what may play a part: plainly, and walks. -/
set_option linter.unusedVariables false
set_option linter.unusedSimpArgs false
set_option linter.unnecessarySimpa false
/- short -/
namespace Go.Proofs.YtdbadicpbmndbaaGreat
open Go Lg

/-! ### plain -/
/-! ### walks -/
end Go.Proofs.YtdbadicpbmndbaaGreat
/- Walks: what is selected, what may play a part; the example of maximal literals. -/
set_option linter.unusedVariables false
set_option linter.unusedSimpArgs false
set_option linter.unnecessarySimpa false
/- short -/
namespace Go.Proofs.YtdbadicpbmndbaaGreat
open Go Lg

theorem OutC.len0 {bs : List Bi} {c ys : List Li} (h : OutC bs c 0 ys) : ys.length = c.length ∧ ∀ i (h : i < c.length) (h2 : i < ys.length), OutL bs c[i] 0 ys[i] := by
  rcases h with ⟨_, h, _⟩ | ⟨_, ⟨_, _, _, _, _, _, h, _⟩ | ⟨_, hl, hall⟩⟩
  · cases h
  · exact absurd rfl h
  · exact ⟨hl, hall⟩
def fa11 : T := .mk 2 [a9]
def A11 : Li := ⟨false, a9, a9⟩
def B11 : Li := ⟨false, fa11, a9⟩
def c11 : List Li := [A11, B11]
end Go.Proofs.YtdbadicpbmndbaaGreat
/- Walks: the example of maximal literals; with terms put: the statement. -/
set_option linter.unusedVariables false
set_option linter.unusedSimpArgs false
set_option linter.unnecessarySimpa false
/- short -/
namespace Go.Proofs.YtdbadicpbmndbaaGreat
open Go Lg

end Go.Proofs.YtdbadicpbmndbaaGreat
/- Walks: the document's answers on variables and weights. -/
set_option linter.unusedVariables false
set_option linter.unusedSimpArgs false
/- short -/
namespace Go.Proofs.YtdbadicpbmndbaaGreat
open Go Lg

/-! ### plain -/
theorem hdsL_eq : ∀ ts : List T, (visL ts).map (·.2.head) = ts.flatMap hds
  | [] => rfl
  | t :: r => by
    rw [visL, List.map_append, hdsL_eq r, List.flatMap_cons]
    congr 1
    unfold hds
    rw [visT_eq, visT_eq]; rfl
theorem hds_eq (h : Int) (ts : List T) : hds (.mk h ts) = h :: ts.flatMap hds := by
  have : hds (.mk h ts) = h :: (visL ts).map (·.2.head) := by unfold hds; rw [visT_eq]; rfl
  rw [this, hdsL_eq]
theorem chk_head {h : Int} {ts : List T} (hc : chkT (.mk h ts) = 0) : -256 ≤ h := (chk_vis hc (true, .mk h ts) (by rw [visT_eq]; exact List.mem_cons_self ..)).2
/-- variables of some, as numbers -/
def VarsOf (t : T) (xs : List Int) : Prop := ∀ n : Int, n ∈ xs ↔ 0 ≤ n ∧ -1 - n ∈ hds t
def VarsOfL (h : Int) (ts : List T) (xs : List Int) : Prop := ∀ n : Int, n ∈ xs ↔ 0 ≤ n ∧ (-1 - n = h ∨ -1 - n ∈ ts.flatMap hds)
/-! ### walks -/
theorem RVars_does : ∀ (n : Nat) (t : T), t.size ≤ n → chkT t = 0 → ∀ (I : Imm) (v : Value), RepT I v t →
    Does Tryz.prog 134 [v] I [] (fun v I' δ' => (∃ xs, RInts I' v xs ∧ VarsOf t xs ∧ xs.length ≤ t.size) ∧ δ' = []) := by
  intro n
  induction n with
  | zero => intro t ht; have := t.size_pos; omega
  | succ n ih =>
    intro t ht hck I v hv
    obtain ⟨h, ts⟩ := t
    obtain ⟨ad, c, ss, rfl, hr, hc, hb, hat, hsub⟩ := hv.elim
    have hsz : (T.mk h ts).size = 1 + sizeL ts := by simp [T.size]
    obtain ⟨hlf, hch⟩ := chkT_args hck
    have hh := chk_head hck
    have hs4 := chkT_size hck
    refine Does.intro Tryz.func134 rfl Tryz.ntmps134 rfl fun w0 => ?_
    refine code_seq ?_
    refine code_region ?_
    refine o_box rfl rfl rfl (fun b1 => ?_)
    refine op_v (v_assign rfl) rfl ?_
    refine ops_nil ?_
    refine post_next ?_
    refine code_seq ?_
    refine code_region ?_
    refine op_v (v_assign rfl) rfl ?_
    refine ops_nil ?_
    refine post_next ?_
    refine code_seq_meet (fun σ' I' δ' => ∃ (ar : Option Addr) (cr : Nat) (xs : List Int), σ' = [(1, .pointer (some ⟨b1, 0, none⟩)), (3, .slice ar xs.length cr)] ∧ I = I' ∧ δ' = [iRow ar cr xs, .box b1 48 [.int .i64 h, .slice ad ts.length c]] ∧ VarsOfL h [] xs ∧ xs.length ≤ 1) ?_ ?_
    · refine code_seq ?_
      refine code_region ?_
      refine op_v (v_fieldB 0 Tryz.underlying48 rfl rfl fz3 rfl) rfl ?_
      refine op_v (v_loadA ty3 rfl rfl) rfl ?_
      refine op_v (v_cmp rfl rfl rfl) rfl ?_
      refine ops_nil ?_
      refine post_next ?_
      refine code_cond rfl (fun hc0 => ?_) (fun hc0 => ?_)
      · have h9 : h < 0 := by simpa using hc0
        refine code_region ?_
        refine op_v (v_move rfl) rfl ?_
        refine op_v (v_fieldB 0 Tryz.underlying48 rfl rfl fz3 rfl) rfl ?_
        refine op_v (v_loadA ty3 rfl rfl) rfl ?_
        refine op_v (v_subb rfl rfl rfl (by omega)) rfl ?_
        refine o_buildSlice (xs := [(Go.Operand.tmp 13)]) Tryz.underlying30 bs3 rfl rfl rfl rfl rfl (fun b14 => ?_)
        refine OpsJ.view (View.nilRow 3 1) ?_
        refine o_append Tryz.underlying30 bs3 rfl rfl rfl (fun v' => by repeat (first | exact Swap.here | apply Swap.there)) (Src.ofRow (by repeat (first | exact Has.here | apply Has.there)) rfl) (by first | rfl | omega | simp) (by simp [cat, cellsL, Value.oneCell']) (by omega) (by omega) (fun a15 c15 => ?_)
        refine op_v (v_assign rfl) rfl ?_
        refine ops_nil ?_
        refine PostJ.view (View.drop (Del.there Del.here)) ?_
        refine post_meet _ ⟨a15, c15, [-1 - h], rfl, rfl, by simp [iRow, cat, cellsL], fun n => by simp; omega, by simp⟩ ⟨rfl, rfl, trivial⟩
      · have h9 : ¬ h < 0 := by simpa using hc0
        refine code_skip ?_
        refine PostJ.view (View.nilRow 3 1) ?_
        refine post_meet _ ⟨none, 0, [], rfl, rfl, rfl, fun n => by simp; omega, by simp⟩ ⟨rfl, rfl, trivial⟩
    · rintro _ _ _ ⟨ar, cr, xs, rfl, rfl, rfl, hxs, hxl⟩
      refine code_seq ?_
      refine code_seq ?_
      refine code_region ?_
      refine op_v (v_assign rfl) rfl ?_
      refine ops_nil ?_
      refine post_next ?_
      refine code_block ?_
      refine code_loop (fun m σ' I' δ' => ∃ (k : Nat) (ar : Option Addr) (cr : Nat) (xs : List Int), m = ts.length - k ∧ k ≤ ts.length ∧ σ' = [(1, .pointer (some ⟨b1, 0, none⟩)), (3, .slice ar xs.length cr), (4, .int .i64 k)] ∧ I.le I' ∧ δ' = [iRow ar cr xs, .box b1 48 [.int .i64 h, .slice ad ts.length c]] ∧ VarsOfL h (ts.take k) xs ∧ xs.length ≤ 1 + sizeL (ts.take k)) ts.length [(1, .pointer (some ⟨b1, 0, none⟩)), (3, .slice ar xs.length cr), (4, .int .i64 (0 : Nat))] ⟨0, ar, cr, xs, rfl, Nat.zero_le _, rfl, Imm.le_refl _, rfl, hxs, by simp [sizeL]; exact hxl⟩ ⟨rfl, rfl, rfl, trivial⟩ ?_
      rintro m _ I0 _ ⟨k, ar, cr, xs, rfl, hk, rfl, hI0, rfl, hxs, hxl⟩
      refine code_seq ?_
      refine code_seq ?_
      refine code_region ?_
      refine op_v (v_move rfl) rfl ?_
      refine op_v (v_fieldB 1 Tryz.underlying48 rfl rfl fz46 rfl) rfl ?_
      refine op_v (v_loadA ty46 rfl rfl) rfl ?_
      refine op_v (v_len Tryz.underlying46 rfl) rfl ?_
      refine op_v (v_cmp rfl rfl rfl) rfl ?_
      refine ops_nil ?_
      refine post_next ?_
      refine code_cond rfl (fun hc1 => ?_) (fun hc1 => ?_)
      · have hlt : k < ts.length := by simpa using hc1
        have hs1 := (hat k hlt).isSome
        have hm := sizeL_mem ts k hlt
        have hst := sizeL_take ts k hlt
        have hsd : sizeL (ts.take k) + sizeL (ts.drop k) = sizeL ts := by rw [← sizeL_app, List.take_append_drop]
        have hsd2 := sizeL_drop ts k hlt
        refine code_skip ?_
        refine post_next ?_
        refine code_seq ?_
        refine code_block ?_
        refine code_seq ?_
        refine code_region ?_
        refine op_v (v_fieldB 1 Tryz.underlying48 rfl rfl fz46 rfl) rfl ?_
        refine op_v (v_loadA ty46 rfl rfl) rfl ?_
        refine op_v (v_move rfl) rfl ?_
        refine op_v (v_indexA Tryz.underlying46 sz48 rfl rfl) rfl ?_
        refine op_v (v_loadI0 ty48 ((hat k hlt).mono hI0) rfl rfl rfl) rfl ?_
        refine op_call pl134 rfl rfl ((ih ts[k] (by omega) (hch k hlt) _ _ ((hsub k hlt).mono hI0))) Parts.none ?_
        rintro v28 I28 _ hI28 ⟨⟨ys, ⟨yd, yc, ys, hyc, hyb, hyat, hyr⟩, hys, hyl⟩, rfl⟩
        refine op_v (v_assign rfl) rfl ?_
        refine ops_nil ?_
        refine post_next ?_
        refine code_seq ?_
        refine code_region ?_
        refine op_v (v_assign rfl) rfl ?_
        refine ops_nil ?_
        refine post_next ?_
        refine code_block ?_
        refine code_loop (fun m σ' I' δ' => ∃ (j : Nat) (ar : Option Addr) (cr : Nat) (zs : List Int), m = ys.length - j ∧ j ≤ ys.length ∧ σ' = [(1, .pointer (some ⟨b1, 0, none⟩)), (3, .slice ar zs.length cr), (4, .int .i64 k), (5, .slice yd ys.length yc), (6, .int .i64 j)] ∧ I28.le I' ∧ δ' = [iRow ar cr zs, .box b1 48 [.int .i64 h, .slice ad ts.length c]] ∧ (∀ n, n ∈ zs ↔ n ∈ xs ∨ n ∈ ys.take j) ∧ zs.length ≤ xs.length + j) ys.length [(1, .pointer (some ⟨b1, 0, none⟩)), (3, .slice ar xs.length cr), (4, .int .i64 k), (5, .slice yd ys.length yc), (6, .int .i64 (0 : Nat))] ⟨0, ar, cr, xs, rfl, Nat.zero_le _, rfl, Imm.le_refl _, rfl, fun n => by simp, by omega⟩ ⟨rfl, rfl, rfl, rfl, rfl, trivial⟩ ?_
        rintro m _ I1 _ ⟨j, ar, cr, zs, rfl, hj, rfl, hI1, rfl, hzs, hzl⟩
        refine code_seq ?_
        refine code_seq ?_
        refine code_region ?_
        refine op_v (v_move rfl) rfl ?_
        refine op_v (v_move rfl) rfl ?_
        refine op_v (v_len Tryz.underlying30 rfl) rfl ?_
        refine op_v (v_cmp rfl rfl rfl) rfl ?_
        refine ops_nil ?_
        refine post_next ?_
        refine code_cond rfl (fun hc2 => ?_) (fun hc2 => ?_)
        · have hltj : j < ys.length := by simpa using hc2
          have hsy := ints_some hyat j hltj
          refine code_skip ?_
          refine post_next ?_
          refine code_seq ?_
          refine code_block ?_
          refine code_seq ?_
          refine code_region ?_
          refine op_v (v_move rfl) rfl ?_
          refine op_v (v_move rfl) rfl ?_
          refine op_v (v_indexA Tryz.underlying30 sz3 rfl rfl) rfl ?_
          refine op_v (v_loadI0 ty3 ((ints_at hyat j hltj).mono hI1) rfl rfl rfl) rfl ?_
          refine op_v (v_move rfl) rfl ?_
          refine op_call pl36 rfl rfl ((In_does (by omega))) (Parts.one Del.here) ?_
          rintro v40 I40 _ hI40 ⟨rfl, rfl⟩
          by_cases hm41 : ys[j] ∈ zs
          · rw [show decide (ys[j] ∈ zs) = true by simpa using hm41]
            refine op_v (v_not rfl) rfl ?_
            refine ops_nil ?_
            refine post_next ?_
            refine code_cond_f rfl ?_
            refine code_skip ?_
            refine post_out ?_
            refine post_next ?_
            refine code_region ?_
            refine op_v (v_move rfl) rfl ?_
            refine op_v (v_addb rfl rfl rfl (by omega)) rfl ?_
            refine op_v (v_assign rfl) rfl ?_
            refine ops_nil ?_
            refine post_again (ys.length - (j + 1)) [(1, .pointer (some ⟨b1, 0, none⟩)), (3, .slice ar zs.length cr), (4, .int .i64 k), (5, .slice yd ys.length yc), (6, .int .i64 (j + 1 : Nat))] (by omega) ⟨j + 1, ar, cr, zs, rfl, hltj, rfl, Imm.leA, rfl, ?_, by omega⟩ ⟨rfl, rfl, rfl, rfl, rfl, trivial⟩
            intro n
            rw [List.take_succ_eq_append_getElem hltj, List.mem_append, List.mem_singleton, hzs n]
            constructor
            · rintro (h | h) <;> simp [h]
            · rintro (h | h | h)
              · exact .inl h
              · exact .inr h
              · subst h; exact (hzs _).1 hm41
          · rw [show decide (ys[j] ∈ zs) = false by simpa using hm41]
            refine op_v (v_not rfl) rfl ?_
            refine ops_nil ?_
            refine post_next ?_
            refine code_cond_t rfl ?_
            refine code_region ?_
            refine op_v (v_move rfl) rfl ?_
            refine op_v (v_move rfl) rfl ?_
            refine op_v (v_move rfl) rfl ?_
            refine op_v (v_indexA Tryz.underlying30 sz3 rfl rfl) rfl ?_
            refine op_v (v_loadI0 ty3 ((ints_at hyat j hltj).mono Imm.leA) rfl rfl rfl) rfl ?_
            refine o_buildSlice (xs := [(Go.Operand.tmp 46)]) Tryz.underlying30 bs3 rfl rfl rfl rfl rfl (fun b47 => ?_)
            refine o_append Tryz.underlying30 bs3 rfl rfl rfl (fun v' => by repeat (first | exact Swap.here | apply Swap.there)) (Src.ofRow (by repeat (first | exact Has.here | apply Has.there)) rfl) (by first | rfl | omega | simp) (by simp [cat, cellsL, Value.oneCell']) (by omega) (by omega) (fun a48 c48 => ?_)
            refine op_v (v_assign rfl) rfl ?_
            refine ops_nil ?_
            refine post_out ?_
            refine post_next ?_
            refine code_region ?_
            refine op_v (v_move rfl) rfl ?_
            refine op_v (v_addb rfl rfl rfl (by omega)) rfl ?_
            refine op_v (v_assign rfl) rfl ?_
            refine ops_nil ?_
            refine PostJ.view (View.drop Del.here) ?_
            refine post_again (ys.length - (j + 1)) [(1, .pointer (some ⟨b1, 0, none⟩)), (3, .slice a48 (zs.length + 1) c48), (4, .int .i64 k), (5, .slice yd ys.length yc), (6, .int .i64 (j + 1 : Nat))] (by omega) ⟨j + 1, a48, c48, zs ++ [ys[j]], rfl, hltj, by simp, Imm.leA, by simp [iRow, cat, cellsL], ?_, by simp; omega⟩ ⟨rfl, rfl, rfl, rfl, rfl, trivial⟩
            intro n
            rw [List.take_succ_eq_append_getElem hltj, List.mem_append, List.mem_append, List.mem_singleton, hzs n, or_assoc]
        · have hgej : j = ys.length := by simp at hc2; omega
          refine code_exit ?_
          refine post_exit_then ?_
          refine post_exit_then ?_
          refine post_exit ?_
          refine post_out ?_
          refine post_next ?_
          refine code_region ?_
          refine op_v (v_move rfl) rfl ?_
          refine op_v (v_addb rfl rfl rfl (by omega)) rfl ?_
          refine op_v (v_assign rfl) rfl ?_
          refine ops_nil ?_
          refine post_again (ts.length - (k + 1)) [(1, .pointer (some ⟨b1, 0, none⟩)), (3, .slice ar zs.length cr), (4, .int .i64 (k + 1 : Nat))] (by omega) ⟨k + 1, ar, cr, zs, rfl, hlt, rfl, Imm.leA, rfl, ?_, by omega⟩ ⟨rfl, rfl, rfl, trivial⟩
          intro n
          rw [hzs n, hgej, List.take_length, hxs n, hys n, List.take_succ_eq_append_getElem hlt, List.flatMap_append, List.mem_append]
          simp only [List.flatMap_cons, List.flatMap_nil, List.append_nil]
          constructor
          · rintro (⟨h1, h2 | h2⟩ | ⟨h1, h2⟩)
            · exact ⟨h1, .inl h2⟩
            · exact ⟨h1, .inr (.inl h2)⟩
            · exact ⟨h1, .inr (.inr h2)⟩
          · rintro ⟨h1, h2 | h2 | h2⟩
            · exact .inl ⟨h1, .inl h2⟩
            · exact .inl ⟨h1, .inr h2⟩
            · exact .inr ⟨h1, h2⟩
      · have hge : k = ts.length := by simp at hc1; omega
        refine code_exit ?_
        refine post_exit_then ?_
        refine post_exit_then ?_
        refine post_exit ?_
        refine post_next ?_
        refine code_seq ?_
        refine code_region ?_
        refine OpsJ.freezeRow Del.here ?_
        rintro I49 ar2 cr2 hI49 hvr hcr hlr hcells
        cases hvr
        subst hge
        rw [List.take_length] at hxs hxl
        refine op_v (v_move rfl) rfl ?_
        refine op_v (v_assign rfl) rfl ?_
        refine ops_nil ?_
        refine post_next ?_
        refine code_ret ?_
        refine post_ret (rs := [.tmp 2]) rfl (List.Perm.refl _) (.cons (.tmp rfl) .nil) (List.nil_sublist _) ?_
        exact ⟨⟨xs, RInts.of rfl hcr (by omega) hcells (fun n hn => by have h0 := (hxs n).1 hn; have h1 := repT_heads hv (k := -1 - n) (by rw [hds_eq]; rcases h0.2 with e | e; (rw [e]; exact List.mem_cons_self ..); exact List.mem_cons_of_mem _ e); unfold InR at *; omega), fun n => by rw [hxs n, hds_eq, List.mem_cons], by rw [hsz]; exact hxl⟩, rfl⟩
theorem RCount_does : ∀ (n : Nat) (t : T), t.size ≤ n → t.size ≤ 1000000000 → ∀ (I : Imm) (v : Value) (k : Int), RepT I v t → 0 ≤ k → k ≤ 1000000000 →
    Does Tryz.prog 174 [v, .int .i64 k] I [] (fun v I' δ' => v = .int .i64 (cn t (-1 - k) : Nat) ∧ δ' = []) := by
  intro n
  induction n with
  | zero => intro t ht; have := t.size_pos; omega
  | succ n ih =>
    intro t ht hbig I v q hv hq0 hq1
    obtain ⟨h, ts⟩ := t
    obtain ⟨ad, c, ss, rfl, hr, hc, hb, hat, hsub⟩ := hv.elim
    have hsz : (T.mk h ts).size = 1 + sizeL ts := by simp [T.size]
    have hcl : ∀ k, cnV (visL (ts.take k)) (-1 - q) ≤ sizeL (ts.take k) := fun k => by
      have h1 : cnV (visL (ts.take k)) (-1 - q) ≤ ((visL (ts.take k)).map (·.2.head)).length := List.count_le_length
      rwa [List.length_map, visL_length] at h1
    refine Does.intro Tryz.func174 rfl Tryz.ntmps174 rfl fun w0 => ?_
    refine code_seq ?_
    refine code_region ?_
    refine o_box rfl rfl rfl (fun b2 => ?_)
    refine op_v (v_assign rfl) rfl ?_
    refine ops_nil ?_
    refine post_next ?_
    refine code_seq ?_
    refine code_region ?_
    refine op_v (v_assign rfl) rfl ?_
    refine ops_nil ?_
    refine post_next ?_
    refine code_seq_meet (fun σ' I' δ' => σ' = [(1, .int .i64 q), (2, .pointer (some ⟨b2, 0, none⟩)), (5, .int .i64 ((if h = -1 - q then 1 else 0 : Nat) : Int))] ∧ I = I' ∧ δ' = [.box b2 48 [.int .i64 h, .slice ad ts.length c]]) ?_ ?_
    · refine code_seq ?_
      refine code_region ?_
      refine op_v (v_fieldB 0 Tryz.underlying48 rfl rfl fz3 rfl) rfl ?_
      refine op_v (v_loadA ty3 rfl rfl) rfl ?_
      refine op_v (v_move rfl) rfl ?_
      refine op_v (v_subb rfl rfl rfl (by omega)) rfl ?_
      by_cases h11 : h = -1 - q
      · refine op_v (v_cmptA rfl rfl rfl) rfl ?_
        refine ops_nil ?_
        refine post_next ?_
        refine code_cond_t rfl ?_
        refine code_region ?_
        refine op_v (v_assign rfl) rfl ?_
        refine ops_nil ?_
        refine post_meet [(1, .int .i64 q), (2, .pointer (some ⟨b2, 0, none⟩)), (5, .int .i64 1)] ⟨by rw [if_pos h11]; rfl, rfl, rfl⟩ ⟨rfl, rfl, rfl, trivial⟩
      · refine op_v (v_cmpfA rfl rfl rfl) rfl ?_
        refine ops_nil ?_
        refine post_next ?_
        refine code_cond_f rfl ?_
        refine code_skip ?_
        refine post_meet [(1, .int .i64 q), (2, .pointer (some ⟨b2, 0, none⟩)), (5, .int .i64 0)] ⟨by rw [if_neg h11]; rfl, rfl, rfl⟩ ⟨rfl, rfl, rfl, trivial⟩
    · rintro _ _ _ ⟨rfl, rfl, rfl⟩
      refine code_seq ?_
      refine code_seq ?_
      refine code_region ?_
      refine op_v (v_assign rfl) rfl ?_
      refine ops_nil ?_
      refine post_next ?_
      refine code_block ?_
      refine code_loop (fun m σ' I' δ' => ∃ k : Nat, m = ts.length - k ∧ k ≤ ts.length ∧ σ' = [(1, .int .i64 q), (2, .pointer (some ⟨b2, 0, none⟩)), (5, .int .i64 (((if h = -1 - q then 1 else 0) + cnV (visL (ts.take k)) (-1 - q) : Nat) : Int)), (6, .int .i64 k)] ∧ I.le I' ∧ δ' = [.box b2 48 [.int .i64 h, .slice ad ts.length c]]) ts.length [(1, .int .i64 q), (2, .pointer (some ⟨b2, 0, none⟩)), (5, .int .i64 ((if h = -1 - q then 1 else 0 : Nat) : Int)), (6, .int .i64 (0 : Nat))] ⟨0, rfl, Nat.zero_le _, by simp [visL, cnV], Imm.le_refl _, rfl⟩ ⟨rfl, rfl, rfl, rfl, trivial⟩ ?_
      rintro m _ I0 _ ⟨k, rfl, hk, rfl, hI0, rfl⟩
      have hck := hcl k
      refine code_seq ?_
      refine code_seq ?_
      refine code_region ?_
      refine op_v (v_move rfl) rfl ?_
      refine op_v (v_fieldB 1 Tryz.underlying48 rfl rfl fz46 rfl) rfl ?_
      refine op_v (v_loadA ty46 rfl rfl) rfl ?_
      refine op_v (v_len Tryz.underlying46 rfl) rfl ?_
      refine op_v (v_cmp rfl rfl rfl) rfl ?_
      refine ops_nil ?_
      refine post_next ?_
      refine code_cond rfl (fun hc1 => ?_) (fun hc1 => ?_)
      · have hlt : k < ts.length := by simpa using hc1
        have hs1 := (hat k hlt).isSome
        have hm := sizeL_mem ts k hlt
        have hsd : sizeL (ts.take k) + sizeL (ts.drop k) = sizeL ts := by rw [← sizeL_app, List.take_append_drop]
        have hsd2 := sizeL_drop ts k hlt
        have hcl2 : cn ts[k] (-1 - q) ≤ ts[k].size := by rw [← hds_length]; exact List.count_le_length
        refine code_skip ?_
        refine post_next ?_
        refine code_seq ?_
        refine code_block ?_
        refine code_region ?_
        refine op_v (v_move rfl) rfl ?_
        refine op_v (v_fieldB 1 Tryz.underlying48 rfl rfl fz46 rfl) rfl ?_
        refine op_v (v_loadA ty46 rfl rfl) rfl ?_
        refine op_v (v_move rfl) rfl ?_
        refine op_v (v_indexA Tryz.underlying46 sz48 rfl rfl) rfl ?_
        refine op_v (v_loadI0 ty48 ((hat k hlt).mono hI0) rfl rfl rfl) rfl ?_
        refine op_v (v_move rfl) rfl ?_
        refine op_call pl174 rfl rfl ((ih ts[k] (by omega) (by omega) _ _ _ ((hsub k hlt).mono hI0) hq0 hq1)) Parts.none ?_
        rintro _ I26 _ hI26 ⟨rfl, rfl⟩
        have hif : (if h = -1 - q then 1 else 0 : Nat) ≤ 1 := by split <;> omega
        refine op_v (v_addb rfl rfl rfl (by omega)) rfl ?_
        refine op_v (v_assign rfl) rfl ?_
        refine ops_nil ?_
        refine post_out ?_
        refine post_next ?_
        refine code_region ?_
        refine op_v (v_move rfl) rfl ?_
        refine op_v (v_addb rfl rfl rfl (by omega)) rfl ?_
        refine op_v (v_assign rfl) rfl ?_
        refine ops_nil ?_
        refine post_again (ts.length - (k + 1)) [(1, .int .i64 q), (2, .pointer (some ⟨b2, 0, none⟩)), (5, .int .i64 ((((if h = -1 - q then 1 else 0) + cnV (visL (ts.take k)) (-1 - q) : Nat) : Int) + (cn ts[k] (-1 - q) : Nat))), (6, .int .i64 (k + 1 : Nat))] (by omega) ⟨k + 1, rfl, hlt, by rw [visL_take ts k hlt, cnV_app, cnV_T]; congr 4; simp [Int.add_assoc], Imm.leA, rfl⟩ ⟨rfl, rfl, rfl, rfl, trivial⟩
      · have hge : k = ts.length := by simp at hc1; omega
        refine code_exit ?_
        refine post_exit_then ?_
        refine post_exit_then ?_
        refine post_exit ?_
        refine post_next ?_
        refine code_seq ?_
        refine code_region ?_
        refine op_v (v_move rfl) rfl ?_
        refine op_v (v_assign rfl) rfl ?_
        refine ops_nil ?_
        refine post_next ?_
        refine code_ret ?_
        refine post_ret (rs := [.tmp 4]) rfl (List.Perm.refl _) (.cons (.tmp rfl) .nil) (List.nil_sublist _) ?_
        exact ⟨by rw [cn_eq, hge, List.take_length]; rfl, rfl⟩
end Go.Proofs.YtdbadicpbmndbaaGreat
/- Walks: the document's answers on how two terms stand. -/
set_option linter.unusedVariables false
set_option linter.unusedSimpArgs false
/- short -/
namespace Go.Proofs.YtdbadicpbmndbaaGreat
open Go Lg

theorem OkG.sums {gs : List Sy} {t : T} (hO : OkG gs t) : ∀ k, k ≤ t.args.length → 0 ≤ sumV gs (visL (t.args.take k)) ∧ sumV gs (visL (t.args.take k)) ≤ 400000 := fun k hk => by
  have htot := wgtG_range hO
  have hheads := hO.heads
  have hwB := wB_range hO.right (hheads (true, t) (by rw [visT_eq]; exact List.mem_cons_self ..))
  simp only at hwB
  have e : sumV gs (visL t.args) = sumV gs (visL (t.args.take k)) + sumV gs (visL (t.args.drop k)) := by rw [← sumV_app, ← visL_app, List.take_append_drop]
  have hin : ∀ x ∈ visL t.args, x.2.head < 0 ∨ (0 ≤ x.2.head ∧ x.2.head < gs.length) := fun x hx => hheads x (by rw [visT_eq]; exact List.mem_cons_of_mem _ hx)
  have e2 : visL t.args = visL (t.args.take k) ++ visL (t.args.drop k) := by rw [← visL_app, List.take_append_drop]
  have h5 := sumV_nonneg hO.right (visL (t.args.take k)) (fun x hx => hin x (by rw [e2]; exact List.mem_append_left _ hx))
  have h6 := sumV_nonneg hO.right (visL (t.args.drop k)) (fun x hx => hin x (by rw [e2]; exact List.mem_append_right _ hx))
  have h7 := wgtG_eq gs t
  omega
theorem rweight_does {gs : List Sy} : ∀ (n : Nat) (t : T), t.size ≤ n → OkG gs t → ∀ (I : Imm) (vg v : Value), RepG I vg gs → RepT I v t →
    Does Tryz.prog 144 [vg, v] I [] (fun v _ δ' => v = .int .i64 (wgtG gs t) ∧ δ' = []) := by
  intro n
  induction n with
  | zero => intro t h; have := t.size_pos; omega
  | succ n ih =>
    intro t hn hO I vg v hg hv
    have hsz := size_eqT t
    have hsums := hO.sums
    have hwe := wgtG_eq gs t
    have hhd := hO.heads (true, t) (by rw [visT_eq]; exact List.mem_cons_self ..)
    have hwB := wB_range hO.right hhd
    simp only at hhd hwB
    obtain ⟨ga, gc, rfl⟩ := hg.shape
    obtain ⟨_, hgc, hgb, hgat, hgok⟩ := hg.open
    obtain ⟨a0, c0, rfl, hr0⟩ := hv.shape
    obtain ⟨_, _, _, hc0, hb0, ss, hat, hsub⟩ := hv.open
    refine Does.intro Tryz.func144 rfl Tryz.ntmps144 rfl fun w0 => ?_
    refine code_seq ?_
    refine code_region ?_
    refine o_box rfl rfl rfl (fun b3 => ?_)
    refine op_v (v_assign rfl) rfl ?_
    refine ops_nil ?_
    refine post_next ?_
    refine code_seq ?_
    refine code_seq ?_
    refine code_region ?_
    refine op_v (v_fieldB 0 Tryz.underlying48 rfl rfl fz3 rfl) rfl ?_
    refine op_v (v_loadA ty3 rfl rfl) rfl ?_
    by_cases h9 : t.head < 0
    · refine op_v (v_cmptA rfl rfl rfl) rfl ?_
      refine ops_nil ?_
      refine post_next ?_
      refine code_cond_t rfl ?_
      refine code_seq ?_
      refine code_region ?_
      refine op_v (v_assign rfl) rfl ?_
      refine ops_nil ?_
      refine post_next ?_
      refine code_ret ?_
      refine post_ret_then ?_
      refine post_ret (rs := [.tmp 4]) rfl (List.Perm.refl _) (.cons (.tmp rfl) .nil) (List.nil_sublist _) ?_
      exact ⟨by have hl := hO.leaf h9; rw [hwe, hl]; simp [wB, h9, visL, sumV, outV], rfl⟩
    · have hlt : t.head.toNat < gs.length := by omega
      have hs0 := (hgat _ hlt).isSome
      have hwq : wB gs t.head = (gs[t.head.toNat]'hlt).wt := by rw [wB, if_neg h9, wtG_at (by omega) (by omega)]
      refine op_v (v_cmpfA rfl rfl rfl) rfl ?_
      refine ops_nil ?_
      refine post_next ?_
      refine code_cond_f rfl ?_
      refine code_skip ?_
      refine post_next ?_
      refine code_seq ?_
      refine code_region ?_
      refine op_v (v_move rfl) rfl ?_
      refine op_v (v_fieldB 0 Tryz.underlying48 rfl rfl fz3 rfl) rfl ?_
      refine op_v (v_loadA ty3 rfl rfl) rfl ?_
      refine op_v (v_indexIA Tryz.underlying22 sz85 rfl rfl) rfl ?_
      refine op_v (v_fieldI 2 Tryz.underlying85 rfl rfl fz3 rfl (by assumption)) rfl ?_
      refine op_v (v_loadI ty3 (hgat _ hlt) rfl rfl rfl) rfl ?_
      rw [← hwq]
      refine op_v (v_assign rfl) rfl ?_
      refine ops_nil ?_
      refine post_next ?_
      refine code_seq ?_
      refine code_seq ?_
      refine code_region ?_
      refine op_v (v_assign rfl) rfl ?_
      refine ops_nil ?_
      refine post_next ?_
      refine code_block ?_
      refine code_loop (fun m σ' I' δ' => ∃ k : Nat, m = t.args.length - k ∧ k ≤ t.args.length ∧ σ' = [(0, .slice ga gs.length gc), (3, .pointer (some ⟨b3, 0, none⟩)), (5, .int .i64 (wB gs t.head + sumV gs (visL (t.args.take k)))), (6, .int .i64 k)] ∧ I.le I' ∧ δ' = [.box b3 48 [.int .i64 t.head, .slice a0 t.args.length c0]]) t.args.length [(0, .slice ga gs.length gc), (3, .pointer (some ⟨b3, 0, none⟩)), (5, .int .i64 (wB gs t.head)), (6, .int .i64 (0 : Nat))] ⟨0, rfl, Nat.zero_le _, by simp [visL, sumV], Imm.le_refl _, rfl⟩ ⟨rfl, rfl, rfl, rfl, trivial⟩ ?_
      rintro m _ I0 _ ⟨k, rfl, hk, rfl, hI0, rfl⟩
      have hsk := hsums k hk
      refine code_seq ?_
      refine code_seq ?_
      refine code_region ?_
      refine op_v (v_move rfl) rfl ?_
      refine op_v (v_fieldB 1 Tryz.underlying48 rfl rfl fz46 rfl) rfl ?_
      refine op_v (v_loadA ty46 rfl rfl) rfl ?_
      refine op_v (v_len Tryz.underlying46 rfl) rfl ?_
      refine op_v (v_cmp rfl rfl rfl) rfl ?_
      refine ops_nil ?_
      refine post_next ?_
      refine code_cond rfl (fun hc1 => ?_) (fun hc1 => ?_)
      · have hltk : k < t.args.length := by simpa using hc1
        have hs1 := (hat k hltk).isSome
        have hm := sizeL_mem t.args k hltk
        have hch := (hO.child k hltk).1
        have hwc := wgtG_range hch
        refine code_skip ?_
        refine post_next ?_
        refine code_seq ?_
        refine code_block ?_
        refine code_region ?_
        refine op_v (v_move rfl) rfl ?_
        refine op_v (v_move rfl) rfl ?_
        refine op_v (v_fieldB 1 Tryz.underlying48 rfl rfl fz46 rfl) rfl ?_
        refine op_v (v_loadA ty46 rfl rfl) rfl ?_
        refine op_v (v_move rfl) rfl ?_
        refine op_v (v_indexA Tryz.underlying46 sz48 rfl rfl) rfl ?_
        refine op_v (v_loadI0 ty48 ((hat k hltk).mono hI0) rfl rfl rfl) rfl ?_
        refine op_call pl144 rfl rfl ((ih t.args[k] (by omega) hch _ _ _ (hg.mono hI0) ((hsub k hltk).mono hI0))) Parts.none ?_
        rintro _ I30 _ hI30 ⟨rfl, rfl⟩
        refine op_v (v_addb rfl rfl rfl (by omega)) rfl ?_
        refine op_v (v_assign rfl) rfl ?_
        refine ops_nil ?_
        refine post_out ?_
        refine post_next ?_
        refine code_region ?_
        refine op_v (v_move rfl) rfl ?_
        refine op_v (v_addb rfl rfl rfl (by omega)) rfl ?_
        refine op_v (v_assign rfl) rfl ?_
        refine ops_nil ?_
        refine post_again (t.args.length - (k + 1)) [(0, .slice ga gs.length gc), (3, .pointer (some ⟨b3, 0, none⟩)), (5, .int .i64 (wB gs t.head + sumV gs (visL (t.args.take k)) + wgtG gs t.args[k])), (6, .int .i64 (k + 1 : Nat))] (by omega) ⟨k + 1, rfl, hltk, by rw [visL_take t.args k hltk, sumV_app, sumV_T, Int.add_assoc], Imm.leA, rfl⟩ ⟨rfl, rfl, rfl, rfl, trivial⟩
      · have hge : k = t.args.length := by simp at hc1; omega
        refine code_exit ?_
        refine post_exit_then ?_
        refine post_exit_then ?_
        refine post_exit ?_
        refine post_next ?_
        refine code_seq ?_
        refine code_region ?_
        refine op_v (v_move rfl) rfl ?_
        refine op_v (v_assign rfl) rfl ?_
        refine ops_nil ?_
        refine post_next ?_
        refine code_ret ?_
        refine post_ret (rs := [.tmp 4]) rfl (List.Perm.refl _) (.cons (.tmp rfl) .nil) (List.nil_sublist _) ?_
        exact ⟨by rw [hge, List.take_length, ← hwe]; rfl, rfl⟩
theorem RWeight_does {gs : List Sy} {t : T} (hO : OkG gs t) {I : Imm} {vg v : Value} (hg : RepG I vg gs) (hv : RepT I v t) :
    Does Tryz.prog 120 [vg, v] I [] (fun v _ δ' => v = .tuple #[.int .i64 (wgtG gs t), .int .i64 0] ∧ δ' = []) := by
  have hsz := chkT_size hO.chk
  have hz := termG_ok.2 hO
  obtain ⟨a0, c0, rfl, hr0⟩ := hv.shape
  refine Does.intro Tryz.func120 rfl Tryz.ntmps120 rfl fun w0 => ?_
  refine code_seq ?_
  refine code_region ?_
  refine o_box rfl rfl rfl (fun b3 => ?_)
  refine op_v (v_assign rfl) rfl ?_
  refine op_v (v_assign rfl) rfl ?_
  refine ops_nil ?_
  refine post_next ?_
  refine code_seq ?_
  refine code_region ?_
  refine op_v (v_move rfl) rfl ?_
  refine op_v (v_loadA ty48 rfl rfl) rfl ?_
  refine op_call pl115 rfl rfl ((RTerm_does (hg.mono Imm.leA) (hv.mono Imm.leA) (by omega))) Parts.none ?_
  rintro _ I9 _ hI9 ⟨rfl, rfl⟩
  rw [hz]
  refine op_v (v_assign rfl) rfl ?_
  refine ops_nil ?_
  refine post_next ?_
  refine code_seq ?_
  refine code_seq ?_
  refine code_region ?_
  refine op_v (v_move rfl) rfl ?_
  refine op_v (v_cmpfA rfl rfl rfl) rfl ?_
  refine ops_nil ?_
  refine post_next ?_
  refine code_cond_f rfl ?_
  refine code_skip ?_
  refine post_next ?_
  refine code_seq ?_
  refine code_region ?_
  refine op_v (v_move rfl) rfl ?_
  refine op_v (v_loadA ty48 rfl rfl) rfl ?_
  refine op_call pl144 rfl rfl ((rweight_does _ _ (Nat.le_refl _) hO _ _ _ (hg.mono Imm.leA) (hv.mono Imm.leA))) Parts.none ?_
  rintro _ I15 _ hI15 ⟨rfl, rfl⟩
  refine op_v (v_assign rfl) rfl ?_
  refine op_v (v_assign rfl) rfl ?_
  refine ops_nil ?_
  refine post_next ?_
  refine code_ret ?_
  refine post_ret (rs := [.tmp 4, .tmp 5]) rfl (List.Perm.refl _) (.cons (.tmp rfl) (.cons (.tmp rfl) .nil)) (List.nil_sublist _) ?_
  exact ⟨rfl, rfl⟩
theorem vleB_of {a b : T} {ys : List Int} (hy : VarsOf b ys) (h : ∀ n ∈ ys, cn b (-1 - n) ≤ cn a (-1 - n)) : vleB a b = true := vleB_iff.2 fun k hk => by
  by_cases hm : k ∈ hds b
  · have := h (-1 - k) ((hy _).2 ⟨by omega, by rw [show -1 - (-1 - k) = k by omega]; exact hm⟩)
    rwa [show -1 - (-1 - k) = k by omega] at this
  · have : cn b k = 0 := List.count_eq_zero.2 hm
    omega
theorem often_does {I : Imm} {va vb : Value} {a b : T} (hva : RepT I va a) (hvb : RepT I vb b) (ha : chkT a = 0) (hb : chkT b = 0) :
    Does Tryz.prog 171 [va, vb] I [] (fun v _ δ' => v = .bool (vleB a b) ∧ δ' = []) := by
  have hsa := chkT_size ha
  have hsb := chkT_size hb
  obtain ⟨a0, ac, rfl, _⟩ := hva.shape
  obtain ⟨b0, bc, rfl, _⟩ := hvb.shape
  refine Does.intro Tryz.func171 rfl Tryz.ntmps171 rfl fun w0 => ?_
  refine code_seq ?_
  refine code_region ?_
  refine o_box rfl rfl rfl (fun b2 => ?_)
  refine o_box rfl rfl rfl (fun b3 => ?_)
  refine op_v (v_assign rfl) rfl ?_
  refine ops_nil ?_
  refine post_next ?_
  refine code_seq ?_
  refine code_region ?_
  refine op_v (v_loadA ty48 rfl rfl) rfl ?_
  refine op_call pl134 rfl rfl ((RVars_does _ _ (Nat.le_refl _) hb _ _ (hvb.mono Imm.leA))) Parts.none ?_
  rintro v8 I8 _ hI8 ⟨⟨ys, ⟨yd, yc, ys, hyc, hyb, hyat, hyr⟩, hys, hyl⟩, rfl⟩
  refine op_v (v_assign rfl) rfl ?_
  refine ops_nil ?_
  refine post_next ?_
  refine code_seq ?_
  refine code_seq ?_
  refine code_region ?_
  refine op_v (v_assign rfl) rfl ?_
  refine ops_nil ?_
  refine post_next ?_
  refine code_block ?_
  refine code_loop (fun m σ' I' δ' => ∃ j : Nat, m = ys.length - j ∧ j ≤ ys.length ∧ σ' = [(2, .pointer (some ⟨b2, 0, none⟩)), (3, .pointer (some ⟨b3, 0, none⟩)), (5, .slice yd ys.length yc), (6, .int .i64 j)] ∧ I8.le I' ∧ δ' = [.box b3 48 [.int .i64 b.head, .slice b0 b.args.length bc], .box b2 48 [.int .i64 a.head, .slice a0 a.args.length ac]] ∧ ∀ i (h : i < ys.length), i < j → cn b (-1 - ys[i]) ≤ cn a (-1 - ys[i])) ys.length [(2, .pointer (some ⟨b2, 0, none⟩)), (3, .pointer (some ⟨b3, 0, none⟩)), (5, .slice yd ys.length yc), (6, .int .i64 (0 : Nat))] ⟨0, rfl, Nat.zero_le _, rfl, Imm.le_refl _, rfl, fun i _ h => by omega⟩ ⟨rfl, rfl, rfl, rfl, trivial⟩ ?_
  rintro m _ I1 _ ⟨j, rfl, hj, rfl, hI1, rfl, hp⟩
  refine code_seq ?_
  refine code_seq ?_
  refine code_region ?_
  refine op_v (v_move rfl) rfl ?_
  refine op_v (v_move rfl) rfl ?_
  refine op_v (v_len Tryz.underlying30 rfl) rfl ?_
  refine op_v (v_cmp rfl rfl rfl) rfl ?_
  refine ops_nil ?_
  refine post_next ?_
  refine code_cond rfl (fun hc0 => ?_) (fun hc0 => ?_)
  · have hltj : j < ys.length := by simpa using hc0
    have hsy := ints_some hyat j hltj
    have hyj := (hys ys[j]).1 (List.getElem_mem hltj)
    have hyk : -256 ≤ -1 - ys[j] := by { obtain ⟨x, hx, hxe⟩ := List.mem_map.1 hyj.2; rw [← hxe]; exact (chk_vis hb x hx).2 }
    refine code_skip ?_
    refine post_next ?_
    refine code_seq ?_
    refine code_block ?_
    refine code_seq ?_
    refine code_draw (.fl 0 (.fl 1 (.fl 2 (.fl 3 (.fl 4 (.fl 6 (.fl 7 (.fl 8 (.fl 9 (.fl 10 (.ef 5 (.ef 11 (.fl 12 .done))))))))))))) (fun _ => _) mixed (by kernel_rfl) (by kernel_rfl) (fun _ => (List.Sublist.refl _)) ?_
    refine e_fl rfl rfl (fun hs_ => PF.mk rfl (v_loadA ty48 rfl rfl) hs_) ?_
    refine e_fl rfl rfl (fun hs_ => PF.mk rfl (v_move rfl) hs_) ?_
    refine e_fl rfl rfl (fun hs_ => PF.mk rfl (v_move rfl) hs_) ?_
    refine e_fl rfl rfl (fun hs_ => PF.mk rfl (v_indexA Tryz.underlying30 sz3 rfl rfl) hs_) ?_
    refine e_fl rfl rfl (fun hs_ => PF.mk rfl (v_loadI0 ty3 ((ints_at hyat j hltj).mono hI1) rfl rfl rfl) hs_) ?_
    refine e_fl rfl rfl (fun hs_ => PF.mk rfl (v_loadA ty48 rfl rfl) hs_) ?_
    refine e_fl rfl rfl (fun hs_ => PF.mk rfl (v_move rfl) hs_) ?_
    refine e_fl rfl rfl (fun hs_ => PF.mk rfl (v_move rfl) hs_) ?_
    refine e_fl rfl rfl (fun hs_ => PF.mk rfl (v_indexA Tryz.underlying30 sz3 rfl rfl) hs_) ?_
    refine e_fl rfl rfl (fun hs_ => PF.mk rfl (v_loadI0 ty3 ((ints_at hyat j hltj).mono Imm.leA) rfl rfl rfl) hs_) ?_
    refine e_eff rfl (by intro cs b hc; cases hc) (by intro c hc; cases hc) ?_
    refine op_call pl174 rfl rfl ((RCount_does _ _ (Nat.le_refl _) (by omega) _ _ _ (hva.mono Imm.leA) hyj.1 (by omega))) Parts.none ?_
    rintro _ I20 _ hI20 ⟨rfl, rfl⟩
    refine ops_nil ?_
    refine e_next rfl side_allA ?_
    refine e_eff rfl (by intro cs b hc; cases hc) (by intro c hc; cases hc) ?_
    refine op_call pl174 rfl rfl ((RCount_does _ _ (Nat.le_refl _) (by omega) _ _ _ (hvb.mono Imm.leA) hyj.1 (by omega))) Parts.none ?_
    rintro _ I26 _ hI26 ⟨rfl, rfl⟩
    refine ops_nil ?_
    refine e_next rfl side_allA ?_
    refine e_fl rfl rfl (fun hs_ => PF.mk rfl (v_cmp rfl rfl rfl) hs_) ?_
    refine e_done ?_
    refine post_next ?_
    refine code_cond rfl (fun hc1 => ?_) (fun hc1 => ?_)
    · have h27 : cn a (-1 - ys[j]) < cn b (-1 - ys[j]) := by simpa using hc1
      refine code_seq ?_
      refine code_region ?_
      refine op_v (v_assign rfl) rfl ?_
      refine ops_nil ?_
      refine post_next ?_
      refine code_ret ?_
      refine post_ret_block ?_
      refine post_ret_then ?_
      refine post_ret_then ?_
      refine post_ret_block ?_
      refine post_ret_then ?_
      refine post_ret (rs := [.tmp 4]) rfl (List.Perm.refl _) (.cons (.tmp rfl) .nil) (List.nil_sublist _) ?_
      exact ⟨by have hv : vleB a b = false := by { cases hq : vleB a b; rfl; have := vleB_iff.1 hq (-1 - ys[j]) (by omega); omega }; rw [hv]; rfl, rfl⟩
    · have h27 : ¬ cn a (-1 - ys[j]) < cn b (-1 - ys[j]) := by simpa using hc1
      refine code_skip ?_
      refine post_out ?_
      refine post_next ?_
      refine code_region ?_
      refine op_v (v_move rfl) rfl ?_
      refine op_v (v_addb rfl rfl rfl (by omega)) rfl ?_
      refine op_v (v_assign rfl) rfl ?_
      refine ops_nil ?_
      refine post_again (ys.length - (j + 1)) [(2, .pointer (some ⟨b2, 0, none⟩)), (3, .pointer (some ⟨b3, 0, none⟩)), (5, .slice yd ys.length yc), (6, .int .i64 (j + 1 : Nat))] (by omega) ⟨j + 1, rfl, hltj, rfl, Imm.leA, rfl, ?_⟩ ⟨rfl, rfl, rfl, rfl, trivial⟩
      intro i h hi
      rcases Nat.lt_or_ge i j with hik | hik
      · exact hp i h hik
      have hik2 : i = j := by omega
      subst hik2
      omega
  · have hgej : j = ys.length := by simp at hc0; omega
    refine code_exit ?_
    refine post_exit_then ?_
    refine post_exit_then ?_
    refine post_exit ?_
    refine post_next ?_
    refine code_seq ?_
    refine code_region ?_
    refine op_v (v_assign rfl) rfl ?_
    refine ops_nil ?_
    refine post_next ?_
    refine code_ret ?_
    refine post_ret (rs := [.tmp 4]) rfl (List.Perm.refl _) (.cons (.tmp rfl) .nil) (List.nil_sublist _) ?_
    exact ⟨by have hv : vleB a b = true := vleB_of hys (fun n hn => by obtain ⟨i, hi, rfl⟩ := List.getElem_of_mem hn; exact hp i hi (by omega)); rw [hv]; rfl, rfl⟩
end Go.Proofs.YtdbadicpbmndbaaGreat
/- Walks: the document's answers on which term is greater. -/
set_option linter.unusedVariables false
set_option linter.unusedSimpArgs false
/- short -/
namespace Go.Proofs.YtdbadicpbmndbaaGreat
open Go Lg

theorem dec_one {gs : List Sy} {a b : T} {p : Bool} (h : stT gs a b = 1 ↔ p = true) : outV [.bool p] = .bool (decide (stT gs a b = 1)) := by
  cases p
  · simp at h; simp [outV, h]
  · simp at h; simp [outV, h]
theorem Greater_does {gs : List Sy} : ∀ (n : Nat) (a b : T), a.size ≤ n → OkG gs a → OkG gs b → ∀ (I : Imm) (vg va vb : Value), RepG I vg gs → RepT I va a → RepT I vb b →
    Does Tryz.prog 166 [vg, va, vb] I [] (fun v _ δ' => v = .bool (decide (stT gs a b = 1)) ∧ δ' = []) := by
  intro n
  induction n with
  | zero => intro a b h; have := a.size_pos; omega
  | succ n ih =>
    intro a b hn hA hB I vg va vb hg hva hvb
    obtain ⟨ga, gc, rfl⟩ := hg.shape
    obtain ⟨a0, c0, rfl, ha0⟩ := hva.shape
    obtain ⟨b0, e0, rfl, hb0⟩ := hvb.shape
    obtain ⟨_, _, _, hca, hba, ssa, hata, hsuba⟩ := hva.open
    obtain ⟨_, _, _, hcb, hbb, ssb, hatb, hsubb⟩ := hvb.open
    have hsz := size_eqT a
    have hszb := size_eqT b
    have hsa := chkT_size hA.chk
    have hsb := chkT_size hB.chk
    have hone := stT_one gs a b
    refine Does.intro Tryz.func166 rfl Tryz.ntmps166 rfl fun w0 => ?_
    refine code_seq ?_
    refine code_region ?_
    refine o_box rfl rfl rfl (fun b4 => ?_)
    refine o_box rfl rfl rfl (fun b5 => ?_)
    refine op_v (v_assign rfl) rfl ?_
    refine ops_nil ?_
    refine post_next ?_
    refine code_seq ?_
    refine code_seq ?_
    refine code_region ?_
    refine op_v (v_loadA ty48 rfl rfl) rfl ?_
    refine op_v (v_loadA ty48 rfl rfl) rfl ?_
    refine op_call pl171 rfl rfl ((often_does (hva.mono Imm.leA) (hvb.mono Imm.leA) hA.chk hB.chk)) Parts.none ?_
    rintro _ I14 _ hI14 ⟨rfl, rfl⟩
    by_cases h15 : vleB a b = true
    · rw [h15]
      refine op_v (v_not rfl) rfl ?_
      refine ops_nil ?_
      refine post_next ?_
      refine code_cond_f rfl ?_
      refine code_skip ?_
      refine post_next ?_
      refine code_seq ?_
      refine code_region ?_
      refine op_v (v_move rfl) rfl ?_
      refine op_v (v_loadA ty48 rfl rfl) rfl ?_
      refine op_call pl120 rfl rfl ((RWeight_does hA (hg.mono Imm.leA) (hva.mono Imm.leA))) Parts.none ?_
      rintro _ I19 _ hI19 ⟨rfl, rfl⟩
      refine op_v (v_move rfl) rfl ?_
      refine op_v (v_extract rfl rfl) rfl ?_
      refine op_v (v_extract rfl rfl) rfl ?_
      refine op_v (v_assign rfl) rfl ?_
      refine op_v (v_assign rfl) rfl ?_
      refine ops_nil ?_
      refine post_next ?_
      refine code_seq ?_
      refine code_region ?_
      refine op_v (v_move rfl) rfl ?_
      refine op_v (v_loadA ty48 rfl rfl) rfl ?_
      refine op_call pl120 rfl rfl ((RWeight_does hB (hg.mono Imm.leA) (hvb.mono Imm.leA))) Parts.none ?_
      rintro _ I25 _ hI25 ⟨rfl, rfl⟩
      refine op_v (v_move rfl) rfl ?_
      refine op_v (v_extract rfl rfl) rfl ?_
      refine op_v (v_extract rfl rfl) rfl ?_
      refine op_v (v_assign rfl) rfl ?_
      refine op_v (v_assign rfl) rfl ?_
      refine ops_nil ?_
      refine post_next ?_
      refine code_seq ?_
      refine code_seq ?_
      refine code_region ?_
      refine op_v (v_move rfl) rfl ?_
      refine op_v (v_move rfl) rfl ?_
      by_cases h30 : wgtG gs a ≠ wgtG gs b
      · refine op_v (v_cmptA rfl rfl rfl) rfl ?_
        refine ops_nil ?_
        refine post_next ?_
        refine code_cond_t rfl ?_
        refine code_seq ?_
        refine code_region ?_
        refine op_v (v_move rfl) rfl ?_
        refine op_v (v_move rfl) rfl ?_
        refine op_v (v_cmp rfl rfl rfl) rfl ?_
        refine op_v (v_assign rfl) rfl ?_
        refine ops_nil ?_
        refine post_next ?_
        refine code_ret ?_
        refine post_ret_then ?_
        refine post_ret (rs := [.tmp 6]) rfl (List.Perm.refl _) (.cons (.tmp rfl) .nil) (List.nil_sublist _) ?_
        exact ⟨dec_one (by rw [hone]; simp [h15]; omega), rfl⟩
      · refine op_v (v_cmpfA rfl rfl rfl) rfl ?_
        refine ops_nil ?_
        refine post_next ?_
        refine code_cond_f rfl ?_
        refine code_skip ?_
        refine post_next ?_
        refine code_seq ?_
        refine code_seq ?_
        refine code_region ?_
        refine op_v (v_fieldB 0 Tryz.underlying48 rfl rfl fz3 rfl) rfl ?_
        refine op_v (v_loadA ty3 rfl rfl) rfl ?_
        by_cases h36 : a.head < 0
        · refine op_v (v_cmptA rfl rfl rfl) rfl ?_
          refine op_v (v_move rfl) rfl ?_
          refine op_skip rfl rfl (by simp [undef]) rfl ?_
          refine op_skip rfl rfl (by simp [undef]) rfl ?_
          refine op_skip rfl rfl (by simp [undef]) rfl ?_
          refine op_v (v_pickt rfl rfl) rfl ?_
          refine ops_nil ?_
          refine post_next ?_
          refine code_cond_t rfl ?_
          refine code_seq ?_
          refine code_region ?_
          refine op_v (v_assign rfl) rfl ?_
          refine ops_nil ?_
          refine post_next ?_
          refine code_ret ?_
          refine post_ret_then ?_
          refine post_ret (rs := [.tmp 6]) rfl (List.Perm.refl _) (.cons (.tmp rfl) .nil) (List.nil_sublist _) ?_
          exact ⟨dec_one (by rw [hone]; simp; omega), rfl⟩
        · refine op_v (v_cmpfA rfl rfl rfl) rfl ?_
          refine op_v (v_move rfl) rfl ?_
          first
            | (refine op_want rfl rfl ?_
               refine op_v (v_fieldB 0 Tryz.underlying48 rfl rfl fz3 rfl) rfl ?_)
            | (refine op_skip rfl rfl (by simp [undef]) rfl ?_)
          refine op_want rfl rfl ?_
          refine op_v (v_loadA ty3 rfl rfl) rfl ?_
          by_cases h40 : b.head < 0
          · first
              | (refine op_want rfl rfl ?_
                 refine op_v (v_cmptA rfl rfl rfl) rfl ?_)
              | (refine op_skip rfl rfl (by simp [undef]) rfl ?_)
            refine op_v (v_pickf rfl rfl) rfl ?_
            refine ops_nil ?_
            refine post_next ?_
            refine code_cond_t rfl ?_
            refine code_seq ?_
            refine code_region ?_
            refine op_v (v_assign rfl) rfl ?_
            refine ops_nil ?_
            refine post_next ?_
            refine code_ret ?_
            refine post_ret_then ?_
            refine post_ret (rs := [.tmp 6]) rfl (List.Perm.refl _) (.cons (.tmp rfl) .nil) (List.nil_sublist _) ?_
            exact ⟨dec_one (by rw [hone]; simp; omega), rfl⟩
          · first
              | (refine op_want rfl rfl ?_
                 refine op_v (v_cmpfA rfl rfl rfl) rfl ?_)
              | (refine op_skip rfl rfl (by simp [undef]) rfl ?_)
            refine op_v (v_pickf rfl rfl) rfl ?_
            refine ops_nil ?_
            refine post_next ?_
            refine code_cond_f rfl ?_
            refine code_skip ?_
            refine post_next ?_
            refine code_seq ?_
            refine code_seq ?_
            refine code_region ?_
            refine op_v (v_fieldB 0 Tryz.underlying48 rfl rfl fz3 rfl) rfl ?_
            refine op_v (v_loadA ty3 rfl rfl) rfl ?_
            refine op_v (v_fieldB 0 Tryz.underlying48 rfl rfl fz3 rfl) rfl ?_
            refine op_v (v_loadA ty3 rfl rfl) rfl ?_
            by_cases h46 : a.head ≠ b.head
            · refine op_v (v_cmptA rfl rfl rfl) rfl ?_
              refine ops_nil ?_
              refine post_next ?_
              refine code_cond_t rfl ?_
              refine code_seq ?_
              refine code_region ?_
              refine op_v (v_fieldB 0 Tryz.underlying48 rfl rfl fz3 rfl) rfl ?_
              refine op_v (v_loadA ty3 rfl rfl) rfl ?_
              refine op_v (v_fieldB 0 Tryz.underlying48 rfl rfl fz3 rfl) rfl ?_
              refine op_v (v_loadA ty3 rfl rfl) rfl ?_
              refine op_v (v_cmp rfl rfl rfl) rfl ?_
              refine op_v (v_assign rfl) rfl ?_
              refine ops_nil ?_
              refine post_next ?_
              refine code_ret ?_
              refine post_ret_then ?_
              refine post_ret (rs := [.tmp 6]) rfl (List.Perm.refl _) (.cons (.tmp rfl) .nil) (List.nil_sublist _) ?_
              exact ⟨dec_one (by rw [hone]; simp [h15]; omega), rfl⟩
            · have hhd : a.head = b.head := by omega
              have hlen : (a.args.length : Int) = b.args.length := by rw [hA.arity (by omega), hB.arity (by omega), hhd]
              have hst : (stT gs a b = 1) ↔ stL gs a.args b.args = 1 := by
                rw [hone]
                constructor
                · rintro ⟨_, h | ⟨_, _, _, h | ⟨_, h⟩⟩⟩
                  · omega
                  · omega
                  · exact h
                · intro h; exact ⟨h15, .inr ⟨by omega, by omega, by omega, .inr ⟨hhd, h⟩⟩⟩
              refine op_v (v_cmpfA rfl rfl rfl) rfl ?_
              refine ops_nil ?_
              refine post_next ?_
              refine code_cond_f rfl ?_
              refine code_skip ?_
              refine post_next ?_
              refine code_seq ?_
              refine code_seq ?_
              refine code_region ?_
              refine op_v (v_assign rfl) rfl ?_
              refine ops_nil ?_
              refine post_next ?_
              refine code_block ?_
              refine code_loop (fun m σ' I' δ' => ∃ k : Nat, m = a.args.length - k ∧ k ≤ a.args.length ∧ σ' = [(0, .slice ga gs.length gc), (4, .pointer (some ⟨b4, 0, none⟩)), (5, .pointer (some ⟨b5, 0, none⟩)), (11, .int .i64 k)] ∧ I.le I' ∧ δ' = [.box b5 48 [.int .i64 b.head, .slice b0 b.args.length e0], .box b4 48 [.int .i64 a.head, .slice a0 a.args.length c0]] ∧ stL gs a.args b.args = stL gs (a.args.drop k) (b.args.drop k)) a.args.length [(0, .slice ga gs.length gc), (4, .pointer (some ⟨b4, 0, none⟩)), (5, .pointer (some ⟨b5, 0, none⟩)), (11, .int .i64 (0 : Nat))] ⟨0, rfl, Nat.zero_le _, rfl, Imm.leA, rfl, rfl⟩ ⟨rfl, rfl, rfl, rfl, trivial⟩ ?_
              rintro m _ I1 _ ⟨k, rfl, hk, rfl, hI1, rfl, hp⟩
              refine code_seq ?_
              refine code_seq ?_
              refine code_region ?_
              refine op_v (v_move rfl) rfl ?_
              refine op_v (v_fieldB 1 Tryz.underlying48 rfl rfl fz46 rfl) rfl ?_
              refine op_v (v_loadA ty46 rfl rfl) rfl ?_
              refine op_v (v_len Tryz.underlying46 rfl) rfl ?_
              refine op_v (v_cmp rfl rfl rfl) rfl ?_
              refine ops_nil ?_
              refine post_next ?_
              refine code_cond rfl (fun hc4 => ?_) (fun hc4 => ?_)
              · have hlt : k < a.args.length := by simpa using hc4
                have hlt2 : k < b.args.length := by omega
                have hs1 := (hata k hlt).isSome
                have hs2 := (hatb k hlt2).isSome
                have hm := sizeL_mem a.args k hlt
                have hm2 := sizeL_mem b.args k hlt2
                have hcd := stL_drop gs a.args b.args k hlt hlt2
                have hA2 := (hA.child k hlt).1
                have hB2 := (hB.child k hlt2).1
                refine code_skip ?_
                refine post_next ?_
                refine code_seq ?_
                refine code_block ?_
                refine code_seq ?_
                refine code_draw (.fl 0 (.fl 1 (.fl 2 (.fl 3 (.fl 4 (.fl 5 (.fl 6 (.fl 7 (.fl 8 (.fl 9 (.ef 10 (.fl 11 .done)))))))))))) (fun _ => _) mixed (by kernel_rfl) (by kernel_rfl) (fun _ => (List.Sublist.refl _)) ?_
                refine e_fl rfl rfl (fun hs_ => PF.mk rfl (v_fieldB 1 Tryz.underlying48 rfl rfl fz46 rfl) hs_) ?_
                refine e_fl rfl rfl (fun hs_ => PF.mk rfl (v_loadA ty46 rfl rfl) hs_) ?_
                refine e_fl rfl rfl (fun hs_ => PF.mk rfl (v_move rfl) hs_) ?_
                refine e_fl rfl rfl (fun hs_ => PF.mk rfl (v_indexA Tryz.underlying46 sz48 rfl rfl) hs_) ?_
                refine e_fl rfl rfl (fun hs_ => PF.mk rfl (v_loadI0 ty48 ((hata k hlt).mono hI1) rfl rfl rfl) hs_) ?_
                refine e_fl rfl rfl (fun hs_ => PF.mk rfl (v_fieldB 1 Tryz.underlying48 rfl rfl fz46 rfl) hs_) ?_
                refine e_fl rfl rfl (fun hs_ => PF.mk rfl (v_loadA ty46 rfl rfl) hs_) ?_
                refine e_fl rfl rfl (fun hs_ => PF.mk rfl (v_move rfl) hs_) ?_
                refine e_fl rfl rfl (fun hs_ => PF.mk rfl (v_indexA Tryz.underlying46 sz48 rfl rfl) hs_) ?_
                refine e_fl rfl rfl (fun hs_ => PF.mk rfl (v_loadI0 ty48 ((hatb k hlt2).mono hI1) rfl rfl rfl) hs_) ?_
                refine e_eff rfl (by intro cs b hc; cases hc) (by intro c hc; cases hc) ?_
                refine op_call pl108 rfl rfl ((Same_does _ _ _ _ _ ((hsuba k hlt).mono hI1) ((hsubb k hlt2).mono hI1) (by omega) (by omega))) Parts.none ?_
                rintro _ I69 _ hI69 ⟨rfl, rfl⟩
                refine ops_nil ?_
                refine e_next rfl side_allA ?_
                by_cases h70 : a.args[k] = b.args[k]
                · rw [show decide (a.args[k] = b.args[k]) = true by simpa using h70]
                  have hz : stT gs a.args[k] b.args[k] = 0 := by rw [h70, stT_self]
                  refine e_fl rfl rfl (fun hs_ => PF.mk rfl (v_not rfl) hs_) ?_
                  refine e_done ?_
                  refine post_next ?_
                  refine code_cond_f rfl ?_
                  refine code_skip ?_
                  refine post_out ?_
                  refine post_next ?_
                  refine code_region ?_
                  refine op_v (v_move rfl) rfl ?_
                  refine op_v (v_addb rfl rfl rfl (by omega)) rfl ?_
                  refine op_v (v_assign rfl) rfl ?_
                  refine ops_nil ?_
                  refine post_again (a.args.length - (k + 1)) [(0, .slice ga gs.length gc), (4, .pointer (some ⟨b4, 0, none⟩)), (5, .pointer (some ⟨b5, 0, none⟩)), (11, .int .i64 (k + 1 : Nat))] (by omega) ⟨k + 1, rfl, hlt, rfl, Imm.leA, rfl, by rw [hp, hcd, if_neg (by omega)]⟩ ⟨rfl, rfl, rfl, rfl, trivial⟩
                · rw [show decide (a.args[k] = b.args[k]) = false by simpa using h70]
                  have hz : stT gs a.args[k] b.args[k] ≠ 0 := fun e => h70 (stT_zero hA2 hB2 e)
                  refine e_fl rfl rfl (fun hs_ => PF.mk rfl (v_not rfl) hs_) ?_
                  refine e_done ?_
                  refine post_next ?_
                  refine code_cond_t rfl ?_
                  refine code_seq ?_
                  refine code_draw (.fl 0 (.fl 1 (.fl 2 (.fl 3 (.fl 4 (.fl 5 (.fl 6 (.fl 7 (.fl 8 (.fl 9 (.fl 10 (.ef 11 (.ef 12 .done))))))))))))) (fun _ => _) mixed (by kernel_rfl) (by kernel_rfl) (fun _ => (List.Sublist.refl _)) ?_
                  refine e_fl rfl rfl (fun hs_ => PF.mk rfl (v_move rfl) hs_) ?_
                  refine e_fl rfl rfl (fun hs_ => PF.mk rfl (v_fieldB 1 Tryz.underlying48 rfl rfl fz46 rfl) hs_) ?_
                  refine e_fl rfl rfl (fun hs_ => PF.mk rfl (v_loadA ty46 rfl rfl) hs_) ?_
                  refine e_fl rfl rfl (fun hs_ => PF.mk rfl (v_move rfl) hs_) ?_
                  refine e_fl rfl rfl (fun hs_ => PF.mk rfl (v_indexA Tryz.underlying46 sz48 rfl rfl) hs_) ?_
                  refine e_fl rfl rfl (fun hs_ => PF.mk rfl (v_loadI0 ty48 ((hata k hlt).mono Imm.leA) rfl rfl rfl) hs_) ?_
                  refine e_fl rfl rfl (fun hs_ => PF.mk rfl (v_fieldB 1 Tryz.underlying48 rfl rfl fz46 rfl) hs_) ?_
                  refine e_fl rfl rfl (fun hs_ => PF.mk rfl (v_loadA ty46 rfl rfl) hs_) ?_
                  refine e_fl rfl rfl (fun hs_ => PF.mk rfl (v_move rfl) hs_) ?_
                  refine e_fl rfl rfl (fun hs_ => PF.mk rfl (v_indexA Tryz.underlying46 sz48 rfl rfl) hs_) ?_
                  refine e_fl rfl rfl (fun hs_ => PF.mk rfl (v_loadI0 ty48 ((hatb k hlt2).mono Imm.leA) rfl rfl rfl) hs_) ?_
                  refine e_eff rfl (by intro cs b hc; cases hc) (by intro c hc; cases hc) ?_
                  refine op_call pl166 rfl rfl ((ih a.args[k] b.args[k] (by omega) hA2 hB2 _ _ _ _ (hg.mono Imm.leA) ((hsuba k hlt).mono Imm.leA) ((hsubb k hlt2).mono Imm.leA))) Parts.none ?_
                  rintro _ I82 _ hI82 ⟨rfl, rfl⟩
                  refine ops_nil ?_
                  refine e_next rfl side_allA ?_
                  refine e_eff rfl (by intro cs b hc; cases hc) (by intro c hc; cases hc) ?_
                  refine op_v (v_assign rfl) rfl ?_
                  refine ops_nil ?_
                  refine e_next rfl (side_nil (by kernel_rfl)) ?_
                  refine e_done ?_
                  refine post_next ?_
                  refine code_ret ?_
                  refine post_ret_block ?_
                  refine post_ret_then ?_
                  refine post_ret_then ?_
                  refine post_ret_block ?_
                  refine post_ret_then ?_
                  refine post_ret (rs := [.tmp 6]) rfl (List.Perm.refl _) (.cons (.tmp rfl) .nil) (List.nil_sublist _) ?_
                  exact ⟨dec_one (by rw [hst, hp, hcd, if_pos hz]; simp), rfl⟩
              · have hge : ¬ k < a.args.length := by simpa using hc4
                rw [List.drop_eq_nil_of_le (by omega)] at hp
                refine code_exit ?_
                refine post_exit_then ?_
                refine post_exit_then ?_
                refine post_exit ?_
                refine post_next ?_
                refine code_seq ?_
                refine code_region ?_
                refine op_v (v_assign rfl) rfl ?_
                refine ops_nil ?_
                refine post_next ?_
                refine code_ret ?_
                refine post_ret (rs := [.tmp 6]) rfl (List.Perm.refl _) (.cons (.tmp rfl) .nil) (List.nil_sublist _) ?_
                exact ⟨dec_one (by rw [hst, hp]; simp [stL]), rfl⟩
    · have h15' : vleB a b = false := by simpa using h15
      rw [h15']
      refine op_v (v_not rfl) rfl ?_
      refine ops_nil ?_
      refine post_next ?_
      refine code_cond_t rfl ?_
      refine code_seq ?_
      refine code_region ?_
      refine op_v (v_assign rfl) rfl ?_
      refine ops_nil ?_
      refine post_next ?_
      refine code_ret ?_
      refine post_ret_then ?_
      refine post_ret (rs := [.tmp 6]) rfl (List.Perm.refl _) (.cons (.tmp rfl) .nil) (List.nil_sublist _) ?_
      exact ⟨dec_one (by rw [hone]; simp [h15']), rfl⟩
end Go.Proofs.YtdbadicpbmndbaaGreat
/- Walks: the document's answers on which row is greater. -/
set_option linter.unusedVariables false
set_option linter.unusedSimpArgs false
/- short -/
namespace Go.Proofs.YtdbadicpbmndbaaGreat
open Go Lg

/-! ### plain -/
theorem rsL_permR : ∀ (l : List T) {m m' : List T}, m.Perm m' → rsL l m = rsL l m'
  | [], _, _, _ => rfl
  | t :: r, m, m', h => by
    simp only [rsL]
    by_cases hm : t ∈ m
    · rw [if_pos hm, if_pos (h.mem_iff.1 hm), rsL_permR r (h.erase t)]
    · rw [if_neg hm, if_neg (fun q => hm (h.mem_iff.2 q)), rsL_permR r h]
/-- those that are not marked -/
def unU : List T → List Bool → List T
  | t :: r, u :: q => if u = true then unU r q else t :: unU r q
  | _, _ => []
theorem unU_mem : ∀ {b : List T} {us : List Bool} (hl : us.length = b.length) {x : T}, x ∈ unU b us ↔ ∃ (j : Nat) (h : j < b.length), us[j]'(by omega) = false ∧ b[j] = x
  | [], [], _, x => by simp [unU]
  | t :: r, u :: q, hl, x => by
    have hl' : q.length = r.length := by simpa using hl
    have ih := unU_mem (b := r) hl' (x := x)
    have key : (∃ (j : Nat) (h : j < (t :: r).length), (u :: q)[j]'(by rw [hl]; exact h) = false ∧ (t :: r)[j] = x) ↔ (u = false ∧ t = x) ∨ ∃ (j : Nat) (h : j < r.length), q[j]'(by omega) = false ∧ r[j] = x := by
      constructor
      · rintro ⟨j, hj, h1, h2⟩
        cases j with
        | zero => exact .inl ⟨h1, h2⟩
        | succ j => exact .inr ⟨j, by simpa using hj, by simpa using h1, by simpa using h2⟩
      · rintro (⟨h1, h2⟩ | ⟨j, hj, h1, h2⟩)
        · exact ⟨0, by simp, h1, h2⟩
        · exact ⟨j + 1, by simpa using hj, by simpa using h1, by simpa using h2⟩
    rw [key]
    cases u
    · simp only [unU, Bool.false_eq_true, if_false, List.mem_cons, ih, true_and]
      exact or_congr_left eq_comm
    · simp only [unU, if_true, ih, Bool.true_eq_false, false_and, false_or]
theorem unU_set : ∀ {b : List T} {us : List Bool} (hl : us.length = b.length) {j : Nat} (hj : j < b.length), us[j]'(by omega) = false → (unU b us).Perm (b[j] :: unU b (us.set j true))
  | [], _, _, j, hj, _ => by simp at hj
  | t :: r, [], hl, _, _, _ => by simp at hl
  | t :: r, u :: q, hl, j, hj, hu => by
    have hl' : q.length = r.length := by simpa using hl
    cases j with
    | zero =>
      simp only [List.getElem_cons_zero] at hu
      subst hu
      simp [unU]
    | succ j =>
      simp only [List.getElem_cons_succ] at hu
      have ih := unU_set hl' (by simpa using hj) hu
      simp only [List.getElem_cons_succ, List.set_cons_succ]
      cases u
      · simp only [unU, Bool.false_eq_true, if_false]
        exact (ih.cons t).trans (List.Perm.swap _ _ _)
      · simp only [unU, if_true]; exact ih
theorem unU_none : ∀ b : List T, unU b (List.replicate b.length false) = b
  | [] => rfl
  | t :: r => by simp [unU, List.replicate_succ, unU_none r]
theorem rsL_step (a : List T) (U : List T) {i : Nat} (hi : i < a.length) : rsL (a.drop i) U = if a[i] ∈ U then rsL (a.drop (i + 1)) (U.erase a[i]) else a[i] :: rsL (a.drop (i + 1)) U := by
  rw [List.drop_eq_getElem_cons hi]; rfl
theorem RepS.row {I : Imm} {v : Value} {ts : List T} (h : RepS I v ts) : ∃ (A : Option Addr) (c : Nat) (ss : Nat → Option Addr × Nat) (xs : List Value), v = .slice A ts.length c ∧ Cells I A xs ∧ RowT I xs ts ∧ ts.length ≤ 4398046511104 ∧ ∀ i (h : i < ts.length), At I A (i * 2) [.int .i64 ts[i].head, .slice (ss i).1 ts[i].args.length (ss i).2] ∧ RepT I (.agg #[.int .i64 ts[i].head, .slice (ss i).1 ts[i].args.length (ss i).2]) ts[i] := by
  obtain ⟨A, c, ss, L, hc, hb, hat2, hr, hsub0⟩ := h
  have hs := fun i (hi : i < ts.length) => RepT.mk _ _ (hr i hi) (hsub0 i hi)
  obtain ⟨h1, h2⟩ := RowT.of hat2 hs
  exact ⟨A, c, ss, _, rfl, h1, h2, hb, fun i hi => ⟨hat2 i hi, hs i hi⟩⟩
/-! ### walks -/
abbrev bRow (g n : Nat) (us : List Bool) : Ent := .row (.slice (some ⟨g, 0, none⟩) n n) 4 1 n (us.map Value.bool)
theorem without_does {I : Imm} {va vb : Value} {a b : List T} (ha : RepS I va a) (hb : RepS I vb b) (hsa : ∀ t ∈ a, t.size ≤ 1000000000) (hsb : ∀ t ∈ b, t.size ≤ 1000000000) (hla : a.length ≤ 1000000) (hlb : b.length ≤ 1000000) :
    Does Tryz.prog 141 [va, vb] I [] (fun v I' δ' => RepS I' v (rsL a b) ∧ δ' = []) := by
  obtain ⟨aA, aC, aS, xa, rfl, hca, hra, hba, hea⟩ := ha.row
  obtain ⟨bA, bC, bS, xb, rfl, hcb, hrb, hbb, heb⟩ := hb.row
  have hrl := rsL_len a b
  refine Does.intro Tryz.func141 rfl Tryz.ntmps141 rfl fun w0 => ?_
  refine code_seq ?_
  refine code_region ?_
  refine op_v (v_assign rfl) rfl ?_
  refine ops_nil ?_
  refine post_next ?_
  refine code_seq ?_
  refine code_region ?_
  refine op_v (v_move rfl) rfl ?_
  refine op_v (v_len Tryz.underlying46 rfl) rfl ?_
  refine o_makeSlice (z := .bool false) (size := 1) (bytes := 1) (xs := (List.replicate b.length false).map Value.bool) Tryz.underlying136 (by kernel_rfl) rfl rfl rfl (by omega) (by omega) (by rw [Nat.mul_one]; exact (madeCells_one _ _).trans (by simp)) (fun g12 => ?_)
  refine op_v (v_assign rfl) rfl ?_
  refine ops_nil ?_
  refine post_next ?_
  refine code_seq ?_
  refine code_region ?_
  refine op_v (v_assign rfl) rfl ?_
  refine ops_nil ?_
  refine post_next ?_
  refine code_seq ?_
  refine code_seq ?_
  refine code_region ?_
  refine op_v (v_assign rfl) rfl ?_
  refine ops_nil ?_
  refine post_next ?_
  refine code_block ?_
  have hg12 : (some (⟨g12, 0, none⟩ : Addr)).isSome = true := rfl
  refine CodeJ.view (View.nilRow 48 2) ?_
  refine code_loop (fun m σ' I' δ' => ∃ (i : Nat) (A : Option Addr) (cr : Nat) (out : List T) (xs : List Value) (us : List Bool), m = a.length - i ∧ i ≤ a.length ∧ σ' = [(0, .slice aA a.length aC), (1, .slice bA b.length bC), (5, .slice (some ⟨g12, 0, none⟩) b.length b.length), (6, .slice A out.length cr), (7, .int .i64 i)] ∧ I.le I' ∧ δ' = [tRow A cr out.length xs, bRow g12 b.length us] ∧ RowT I' xs out ∧ us.length = b.length ∧ out.length ≤ i ∧ rsL a b = out ++ rsL (a.drop i) (unU b us)) a.length [(0, .slice aA a.length aC), (1, .slice bA b.length bC), (5, .slice (some ⟨g12, 0, none⟩) b.length b.length), (6, .slice none 0 0), (7, .int .i64 (0 : Nat))] ⟨0, none, 0, [], [], _, rfl, Nat.zero_le _, rfl, Imm.le_refl _, rfl, RowT.nil _, by simp, by simp, by rw [unU_none]; rfl⟩ ⟨rfl, rfl, rfl, rfl, rfl, trivial⟩ ?_
  rintro m _ I0 _ ⟨i, A, cr, out, xs, us, rfl, hi, rfl, hI0, rfl, hx, hul, hol, hrs⟩
  refine code_seq ?_
  refine code_seq ?_
  refine code_region ?_
  refine op_v (v_move rfl) rfl ?_
  refine op_v (v_move rfl) rfl ?_
  refine op_v (v_len Tryz.underlying46 rfl) rfl ?_
  refine op_v (v_cmp rfl rfl rfl) rfl ?_
  refine ops_nil ?_
  refine post_next ?_
  refine code_cond rfl (fun hc0 => ?_) (fun hc0 => ?_)
  · have hlt : i < a.length := by simpa using hc0
    have hstep := rsL_step a (unU b us) hlt
    obtain ⟨hat1, hrt1⟩ := hea i hlt
    have hs1 := hat1.isSome
    refine code_skip ?_
    refine post_next ?_
    refine code_seq ?_
    refine code_block ?_
    refine code_seq ?_
    refine code_region ?_
    refine op_v (v_assign rfl) rfl ?_
    refine ops_nil ?_
    refine post_next ?_
    refine code_seq ?_
    refine code_seq ?_
    refine code_region ?_
    refine op_v (v_assign rfl) rfl ?_
    refine ops_nil ?_
    refine post_next ?_
    refine code_block ?_
    refine code_loop (fun m σ' I' δ' => ∃ (k : Nat) (at' : Int), m = b.length - k ∧ k ≤ b.length ∧ σ' = [(0, .slice aA a.length aC), (1, .slice bA b.length bC), (5, .slice (some ⟨g12, 0, none⟩) b.length b.length), (6, .slice A out.length cr), (7, .int .i64 i), (8, .int .i64 at'), (9, .int .i64 k)] ∧ I0.le I' ∧ δ' = [tRow A cr out.length xs, bRow g12 b.length us] ∧ ((at' = -1 ∧ ∀ (j : Nat) (h : j < b.length), j < k → us[j]'(by omega) = false → b[j] ≠ a[i]) ∨ ∃ (j : Nat) (h : j < b.length), at' = j ∧ us[j]'(by omega) = false ∧ b[j] = a[i])) b.length [(0, .slice aA a.length aC), (1, .slice bA b.length bC), (5, .slice (some ⟨g12, 0, none⟩) b.length b.length), (6, .slice A out.length cr), (7, .int .i64 i), (8, .int .i64 (-1)), (9, .int .i64 (0 : Nat))] ⟨0, -1, rfl, Nat.zero_le _, rfl, Imm.le_refl _, rfl, .inl ⟨rfl, fun j _ h => by omega⟩⟩ ⟨rfl, rfl, rfl, rfl, rfl, rfl, rfl, trivial⟩ ?_
    rintro m _ I1 _ ⟨k, at', rfl, hk, rfl, hI1, rfl, hat'⟩
    refine code_seq ?_
    refine code_seq ?_
    refine code_region ?_
    refine op_v (v_move rfl) rfl ?_
    refine op_v (v_move rfl) rfl ?_
    refine op_v (v_len Tryz.underlying46 rfl) rfl ?_
    by_cases h22 : k < b.length
    · refine op_v (v_cmptA rfl rfl rfl) rfl ?_
      refine op_v (v_move rfl) rfl ?_
      refine op_want rfl rfl ?_
      refine op_v (v_move rfl) rfl ?_
      by_cases h25 : at' < 0
      · have hno : ∀ (j : Nat) (h : j < b.length), j < k → us[j]'(by omega) = false → b[j] ≠ a[i] := by
          rcases hat' with ⟨_, h⟩ | ⟨j, hj, h, _⟩
          · exact h
          · omega
        have hatm : at' = -1 := by
          rcases hat' with ⟨h, _⟩ | ⟨j, hj, h, _⟩
          · exact h
          · omega
        subst hatm
        obtain ⟨hat2, hrt2⟩ := heb k h22
        have hs2 := hat2.isSome
        have hku : k < us.length := by omega
        first
          | (refine op_want rfl rfl ?_
             refine op_v (v_cmptA rfl rfl rfl) rfl ?_)
          | (refine op_skip rfl rfl (by simp [undef]) rfl ?_)
        refine op_v (v_pickt rfl rfl) rfl ?_
        refine ops_nil ?_
        refine post_next ?_
        refine code_cond_t rfl ?_
        refine code_skip ?_
        refine post_next ?_
        refine code_seq ?_
        refine code_block ?_
        refine code_seq ?_
        refine code_draw (.fl 0 (.fl 1 (.fl 2 (.fl 3 (.fl 4 (.fl 5 (.fl 6 (.fl 7 (.fl 8 (.fl 9 (.fl 10 (.fl 11 (.fl 12 (.fl 13 (.ef 14 (.fl 15 .done)))))))))))))))) (fun _ => _) mixed (by kernel_rfl) (by kernel_rfl) (fun _ => (List.Sublist.refl _)) ?_
        refine e_fl rfl rfl (fun hs_ => PF.mk rfl (v_move rfl) hs_) ?_
        refine e_fl rfl rfl (fun hs_ => PF.mk rfl (v_move rfl) hs_) ?_
        refine e_fl rfl rfl (fun hs_ => PF.mk rfl (v_indexA Tryz.underlying136 sz4 rfl rfl) hs_) ?_
        refine e_fl rfl rfl (fun hs_ => PF.mk rfl (v_loadRow ty4 rfl (Has.there Has.here) rfl (ld_at (cs := us.map Value.bool) (o := k * 1) (x := .bool us[k]) (by simp [hku]))) hs_) ?_
        by_cases h33 : us[k] = true
        · rw [h33]
          refine e_fl rfl rfl (fun hs_ => PF.mk rfl (v_not rfl) hs_) ?_
          refine e_fl rfl rfl (fun hs_ => PF.mk rfl (v_move rfl) hs_) ?_
          refine e_fl rfl rfl (fun hs_ => PF.mks rfl (by intro c hc; cases hc) rfl rfl (by simp [undef]) hs_) ?_
          refine e_fl rfl rfl (fun hs_ => PF.mks rfl (by intro c hc; cases hc) rfl rfl (by simp [undef]) hs_) ?_
          refine e_fl rfl rfl (fun hs_ => PF.mks rfl (by intro c hc; cases hc) rfl rfl (by simp [undef]) hs_) ?_
          refine e_fl rfl rfl (fun hs_ => PF.mks rfl (by intro c hc; cases hc) rfl rfl (by simp [undef]) hs_) ?_
          refine e_fl rfl rfl (fun hs_ => PF.mks rfl (by intro c hc; cases hc) rfl rfl (by simp [undef]) hs_) ?_
          refine e_fl rfl rfl (fun hs_ => PF.mks rfl (by intro c hc; cases hc) rfl rfl (by simp [undef]) hs_) ?_
          refine e_fl rfl rfl (fun hs_ => PF.mks rfl (by intro c hc; cases hc) rfl rfl (by simp [undef]) hs_) ?_
          refine e_fl rfl rfl (fun hs_ => PF.mks rfl (by intro c hc; cases hc) rfl rfl (by simp [undef]) hs_) ?_
          refine e_eff rfl (by intro cs b hc; cases hc) (by intro c hc; cases hc) ?_
          refine op_skip rfl rfl (by simp [undef]) rfl ?_
          refine ops_nil ?_
          refine e_next rfl side_allA ?_
          refine e_fl rfl rfl (fun hs_ => PF.mk rfl (v_pickf rfl rfl) hs_) ?_
          refine e_done ?_
          refine post_next ?_
          refine code_cond_f rfl ?_
          refine code_skip ?_
          refine post_out ?_
          refine post_next ?_
          refine code_region ?_
          refine op_v (v_move rfl) rfl ?_
          refine op_v (v_addb rfl rfl rfl (by omega)) rfl ?_
          refine op_v (v_assign rfl) rfl ?_
          refine ops_nil ?_
          refine post_again (b.length - (k + 1)) [(0, .slice aA a.length aC), (1, .slice bA b.length bC), (5, .slice (some ⟨g12, 0, none⟩) b.length b.length), (6, .slice A out.length cr), (7, .int .i64 i), (8, .int .i64 (-1)), (9, .int .i64 (k + 1 : Nat))] (by omega) ⟨k + 1, -1, rfl, h22, rfl, Imm.leA, rfl, .inl ⟨rfl, fun j hj hjk hu => ?_⟩⟩ ⟨rfl, rfl, rfl, rfl, rfl, rfl, rfl, trivial⟩
          rcases Nat.lt_or_ge j k with hq | hq
          · exact hno j hj hq hu
          have hq2 : j = k := by omega
          subst hq2
          rw [h33] at hu; cases hu
        · have h33' : us[k] = false := by simpa using h33
          rw [h33']
          refine e_fl rfl rfl (fun hs_ => PF.mk rfl (v_not rfl) hs_) ?_
          refine e_fl rfl rfl (fun hs_ => PF.mk rfl (v_move rfl) hs_) ?_
          refine e_fl rfl rfl (fun hs_ => PF.mkg rfl rfl rfl (v_move rfl) hs_) ?_
          refine e_fl rfl rfl (fun hs_ => PF.mkg rfl rfl rfl (v_move rfl) hs_) ?_
          refine e_fl rfl rfl (fun hs_ => PF.mkg rfl rfl rfl (v_indexA Tryz.underlying46 sz48 rfl rfl) hs_) ?_
          refine e_fl rfl rfl (fun hs_ => PF.mkg rfl rfl rfl (v_loadI0 ty48 (hat1.mono Imm.leA) rfl rfl rfl) hs_) ?_
          refine e_fl rfl rfl (fun hs_ => PF.mkg rfl rfl rfl (v_move rfl) hs_) ?_
          refine e_fl rfl rfl (fun hs_ => PF.mkg rfl rfl rfl (v_move rfl) hs_) ?_
          refine e_fl rfl rfl (fun hs_ => PF.mkg rfl rfl rfl (v_indexA Tryz.underlying46 sz48 rfl rfl) hs_) ?_
          refine e_fl rfl rfl (fun hs_ => PF.mkg rfl rfl rfl (v_loadI0 ty48 (hat2.mono Imm.leA) rfl rfl rfl) hs_) ?_
          refine e_eff rfl (by intro cs b hc; cases hc) (by intro c hc; cases hc) ?_
          refine op_want rfl rfl ?_
          refine op_call pl108 rfl rfl ((Same_does _ _ _ _ _ (hrt1.mono Imm.leA) (hrt2.mono Imm.leA) (hsa _ (List.getElem_mem _)) (hsb _ (List.getElem_mem _)))) Parts.none ?_
          rintro _ I43 _ hI43 ⟨rfl, rfl⟩
          refine ops_nil ?_
          refine e_next rfl side_allA ?_
          by_cases h44 : a[i] = b[k]
          · rw [show decide (a[i] = b[k]) = true by simpa using h44]
            refine e_fl rfl rfl (fun hs_ => PF.mk rfl (v_pickt rfl rfl) hs_) ?_
            refine e_done ?_
            refine post_next ?_
            refine code_cond_t rfl ?_
            refine code_region ?_
            refine op_v (v_move rfl) rfl ?_
            refine op_v (v_assign rfl) rfl ?_
            refine ops_nil ?_
            refine post_out ?_
            refine post_next ?_
            refine code_region ?_
            refine op_v (v_move rfl) rfl ?_
            refine op_v (v_addb rfl rfl rfl (by omega)) rfl ?_
            refine op_v (v_assign rfl) rfl ?_
            refine ops_nil ?_
            refine post_again (b.length - (k + 1)) [(0, .slice aA a.length aC), (1, .slice bA b.length bC), (5, .slice (some ⟨g12, 0, none⟩) b.length b.length), (6, .slice A out.length cr), (7, .int .i64 i), (8, .int .i64 k), (9, .int .i64 (k + 1 : Nat))] (by omega) ⟨k + 1, k, rfl, h22, rfl, Imm.leA, rfl, .inr ⟨k, h22, rfl, h33', h44.symm⟩⟩ ⟨rfl, rfl, rfl, rfl, rfl, rfl, rfl, trivial⟩
          · rw [show decide (a[i] = b[k]) = false by simpa using h44]
            refine e_fl rfl rfl (fun hs_ => PF.mk rfl (v_pickt rfl rfl) hs_) ?_
            refine e_done ?_
            refine post_next ?_
            refine code_cond_f rfl ?_
            refine code_skip ?_
            refine post_out ?_
            refine post_next ?_
            refine code_region ?_
            refine op_v (v_move rfl) rfl ?_
            refine op_v (v_addb rfl rfl rfl (by omega)) rfl ?_
            refine op_v (v_assign rfl) rfl ?_
            refine ops_nil ?_
            refine post_again (b.length - (k + 1)) [(0, .slice aA a.length aC), (1, .slice bA b.length bC), (5, .slice (some ⟨g12, 0, none⟩) b.length b.length), (6, .slice A out.length cr), (7, .int .i64 i), (8, .int .i64 (-1)), (9, .int .i64 (k + 1 : Nat))] (by omega) ⟨k + 1, -1, rfl, h22, rfl, Imm.leA, rfl, .inl ⟨rfl, fun j hj hjk hu => ?_⟩⟩ ⟨rfl, rfl, rfl, rfl, rfl, rfl, rfl, trivial⟩
            rcases Nat.lt_or_ge j k with hq | hq
            · exact hno j hj hq hu
            have hq2 : j = k := by omega
            subst hq2
            exact fun e => h44 e.symm
      · first
          | (refine op_want rfl rfl ?_
             refine op_v (v_cmpfA rfl rfl rfl) rfl ?_)
          | (refine op_skip rfl rfl (by simp [undef]) rfl ?_)
        refine op_v (v_pickt rfl rfl) rfl ?_
        refine ops_nil ?_
        refine post_next ?_
        refine code_cond_f rfl ?_
        refine code_exit ?_
        refine post_exit_then ?_
        refine post_exit_then ?_
        refine post_exit ?_
        refine post_next ?_
        refine code_seq ?_
        refine code_region ?_
        refine op_v (v_move rfl) rfl ?_
        by_cases h47 : at' < 0
        · have hno2 : a[i] ∉ unU b us := by
            rcases hat' with ⟨_, h⟩ | ⟨j, hj, h, _⟩
            · intro hm
              obtain ⟨j, hj, h1, h2⟩ := (unU_mem hul).1 hm
              exact h j hj (by omega) h1 h2
            · omega
          rw [if_neg hno2] at hstep
          refine op_v (v_cmptA rfl rfl rfl) rfl ?_
          refine ops_nil ?_
          refine post_next ?_
          refine code_cond_t rfl ?_
          refine code_region ?_
          refine op_v (v_move rfl) rfl ?_
          refine op_v (v_move rfl) rfl ?_
          refine op_v (v_move rfl) rfl ?_
          refine op_v (v_indexA Tryz.underlying46 sz48 rfl rfl) rfl ?_
          refine op_v (v_loadI0 ty48 (hat1.mono Imm.leA) rfl rfl rfl) rfl ?_
          refine o_buildSlice (xs := [(Go.Operand.tmp 52)]) Tryz.underlying46 bs48 rfl rfl rfl rfl rfl (fun b53 => ?_)
          refine o_append Tryz.underlying46 bs48 rfl rfl rfl (fun v' => by repeat (first | exact Swap.here | apply Swap.there)) (Src.ofRow (by repeat (first | exact Has.here | apply Has.there)) rfl) (by first | rfl | omega | simp) (by simp [cat, cellsL, Value.oneCell']) (by omega) (by omega) (fun a54 c54 => ?_)
          refine op_v (v_assign rfl) rfl ?_
          refine ops_nil ?_
          refine post_out ?_
          refine post_next ?_
          refine code_region ?_
          refine op_v (v_move rfl) rfl ?_
          refine op_v (v_addb rfl rfl rfl (by omega)) rfl ?_
          refine op_v (v_assign rfl) rfl ?_
          refine ops_nil ?_
          refine PostJ.view (View.drop Del.here) ?_
          refine post_again (a.length - (i + 1)) [(0, .slice aA a.length aC), (1, .slice bA b.length bC), (5, .slice (some ⟨g12, 0, none⟩) b.length b.length), (6, .slice a54 (out.length + 1) c54), (7, .int .i64 (i + 1 : Nat))] (by omega) ⟨i + 1, a54, c54, out ++ [a[i]], xs ++ [.int .i64 a[i].head, .slice (aS i).1 a[i].args.length (aS i).2], us, rfl, hlt, by simp, Imm.leA, by simp [cat, cellsL], (hx.mono Imm.leA).app (RowT.one (hrt1.mono Imm.leA)), hul, by simp; omega, by rw [hrs, hstep]; simp⟩ ⟨rfl, rfl, rfl, rfl, rfl, trivial⟩
        · obtain ⟨j, hj, hatj, huj, hbj⟩ : ∃ (j : Nat) (h : j < b.length), at' = j ∧ us[j]'(by omega) = false ∧ b[j] = a[i] := by
            rcases hat' with ⟨h, _⟩ | h
            · omega
            · exact h
          subst hatj
          have hju : j < us.length := by omega
          have hmem : a[i] ∈ unU b us := (unU_mem hul).2 ⟨j, hj, huj, hbj⟩
          rw [if_pos hmem] at hstep
          have hper := unU_set hul hj huj
          rw [hbj] at hper
          have hper2 : ((unU b us).erase a[i]).Perm (unU b (us.set j true)) := by
            have h3 := hper.erase a[i]
            rwa [List.erase_cons_head] at h3
          rw [rsL_permR _ hper2] at hstep
          refine op_v (v_cmpfA rfl rfl rfl) rfl ?_
          refine ops_nil ?_
          refine post_next ?_
          refine code_cond_f rfl ?_
          refine code_region ?_
          refine op_v (v_move rfl) rfl ?_
          refine op_v (v_move rfl) rfl ?_
          refine op_v (v_index Tryz.underlying136 sz4 rfl rfl hj rfl) rfl ?_
          refine o_storeRow (xs' := (us.set j true).map Value.bool) ty4 rfl rfl rfl rfl rfl rfl (by simp [cellsL, hul]) (Swap.there Swap.here) (by rw [List.map_set, Nat.mul_one]; exact stL_one (x := .bool us[j]) (by rw [List.getElem?_map, List.getElem?_eq_getElem hju]; rfl)) ?_
          refine ops_nil ?_
          refine post_out ?_
          refine post_next ?_
          refine code_region ?_
          refine op_v (v_move rfl) rfl ?_
          refine op_v (v_addb rfl rfl rfl (by omega)) rfl ?_
          refine op_v (v_assign rfl) rfl ?_
          refine ops_nil ?_
          refine post_again (a.length - (i + 1)) [(0, .slice aA a.length aC), (1, .slice bA b.length bC), (5, .slice (some ⟨g12, 0, none⟩) b.length b.length), (6, .slice A out.length cr), (7, .int .i64 (i + 1 : Nat))] (by omega) ⟨i + 1, A, cr, out, xs, us.set j true, rfl, hlt, rfl, Imm.leA, rfl, hx.mono Imm.leA, by simp [hul], by omega, by rw [hrs, hstep]⟩ ⟨rfl, rfl, rfl, rfl, rfl, trivial⟩
    · refine op_v (v_cmpfA rfl rfl rfl) rfl ?_
      refine op_v (v_move rfl) rfl ?_
      refine op_skip rfl rfl (by simp [undef]) rfl ?_
      refine op_skip rfl rfl (by simp [undef]) rfl ?_
      refine op_v (v_pickf rfl rfl) rfl ?_
      refine ops_nil ?_
      refine post_next ?_
      refine code_cond_f rfl ?_
      refine code_exit ?_
      refine post_exit_then ?_
      refine post_exit_then ?_
      refine post_exit ?_
      refine post_next ?_
      refine code_seq ?_
      refine code_region ?_
      refine op_v (v_move rfl) rfl ?_
      by_cases h47 : at' < 0
      · have hno2 : a[i] ∉ unU b us := by
          rcases hat' with ⟨_, h⟩ | ⟨j, hj, h, _⟩
          · intro hm
            obtain ⟨j, hj, h1, h2⟩ := (unU_mem hul).1 hm
            exact h j hj (by omega) h1 h2
          · omega
        rw [if_neg hno2] at hstep
        refine op_v (v_cmptA rfl rfl rfl) rfl ?_
        refine ops_nil ?_
        refine post_next ?_
        refine code_cond_t rfl ?_
        refine code_region ?_
        refine op_v (v_move rfl) rfl ?_
        refine op_v (v_move rfl) rfl ?_
        refine op_v (v_move rfl) rfl ?_
        refine op_v (v_indexA Tryz.underlying46 sz48 rfl rfl) rfl ?_
        refine op_v (v_loadI0 ty48 (hat1.mono Imm.leA) rfl rfl rfl) rfl ?_
        refine o_buildSlice (xs := [(Go.Operand.tmp 52)]) Tryz.underlying46 bs48 rfl rfl rfl rfl rfl (fun b53 => ?_)
        refine o_append Tryz.underlying46 bs48 rfl rfl rfl (fun v' => by repeat (first | exact Swap.here | apply Swap.there)) (Src.ofRow (by repeat (first | exact Has.here | apply Has.there)) rfl) (by first | rfl | omega | simp) (by simp [cat, cellsL, Value.oneCell']) (by omega) (by omega) (fun a54 c54 => ?_)
        refine op_v (v_assign rfl) rfl ?_
        refine ops_nil ?_
        refine post_out ?_
        refine post_next ?_
        refine code_region ?_
        refine op_v (v_move rfl) rfl ?_
        refine op_v (v_addb rfl rfl rfl (by omega)) rfl ?_
        refine op_v (v_assign rfl) rfl ?_
        refine ops_nil ?_
        refine PostJ.view (View.drop Del.here) ?_
        refine post_again (a.length - (i + 1)) [(0, .slice aA a.length aC), (1, .slice bA b.length bC), (5, .slice (some ⟨g12, 0, none⟩) b.length b.length), (6, .slice a54 (out.length + 1) c54), (7, .int .i64 (i + 1 : Nat))] (by omega) ⟨i + 1, a54, c54, out ++ [a[i]], xs ++ [.int .i64 a[i].head, .slice (aS i).1 a[i].args.length (aS i).2], us, rfl, hlt, by simp, Imm.leA, by simp [cat, cellsL], (hx.mono Imm.leA).app (RowT.one (hrt1.mono Imm.leA)), hul, by simp; omega, by rw [hrs, hstep]; simp⟩ ⟨rfl, rfl, rfl, rfl, rfl, trivial⟩
      · obtain ⟨j, hj, hatj, huj, hbj⟩ : ∃ (j : Nat) (h : j < b.length), at' = j ∧ us[j]'(by omega) = false ∧ b[j] = a[i] := by
          rcases hat' with ⟨h, _⟩ | h
          · omega
          · exact h
        subst hatj
        have hju : j < us.length := by omega
        have hmem : a[i] ∈ unU b us := (unU_mem hul).2 ⟨j, hj, huj, hbj⟩
        rw [if_pos hmem] at hstep
        have hper := unU_set hul hj huj
        rw [hbj] at hper
        have hper2 : ((unU b us).erase a[i]).Perm (unU b (us.set j true)) := by
          have h3 := hper.erase a[i]
          rwa [List.erase_cons_head] at h3
        rw [rsL_permR _ hper2] at hstep
        refine op_v (v_cmpfA rfl rfl rfl) rfl ?_
        refine ops_nil ?_
        refine post_next ?_
        refine code_cond_f rfl ?_
        refine code_region ?_
        refine op_v (v_move rfl) rfl ?_
        refine op_v (v_move rfl) rfl ?_
        refine op_v (v_index Tryz.underlying136 sz4 rfl rfl hj rfl) rfl ?_
        refine o_storeRow (xs' := (us.set j true).map Value.bool) ty4 rfl rfl rfl rfl rfl rfl (by simp [cellsL, hul]) (Swap.there Swap.here) (by rw [List.map_set, Nat.mul_one]; exact stL_one (x := .bool us[j]) (by rw [List.getElem?_map, List.getElem?_eq_getElem hju]; rfl)) ?_
        refine ops_nil ?_
        refine post_out ?_
        refine post_next ?_
        refine code_region ?_
        refine op_v (v_move rfl) rfl ?_
        refine op_v (v_addb rfl rfl rfl (by omega)) rfl ?_
        refine op_v (v_assign rfl) rfl ?_
        refine ops_nil ?_
        refine post_again (a.length - (i + 1)) [(0, .slice aA a.length aC), (1, .slice bA b.length bC), (5, .slice (some ⟨g12, 0, none⟩) b.length b.length), (6, .slice A out.length cr), (7, .int .i64 (i + 1 : Nat))] (by omega) ⟨i + 1, A, cr, out, xs, us.set j true, rfl, hlt, rfl, Imm.leA, rfl, hx.mono Imm.leA, by simp [hul], by omega, by rw [hrs, hstep]⟩ ⟨rfl, rfl, rfl, rfl, rfl, trivial⟩
  · have hge : i = a.length := by simp at hc0; omega
    refine code_exit ?_
    refine post_exit_then ?_
    refine post_exit_then ?_
    refine post_exit ?_
    refine post_next ?_
    refine code_seq ?_
    refine code_region ?_
    refine OpsJ.freezeRow Del.here ?_
    rintro I58 a58 c58 hI58 hq hc58 hl58 hcells58
    cases hq
    subst hge
    rw [List.drop_length, rsL, List.append_nil] at hrs
    rw [← hrs] at hx
    have hlo : out.length = (rsL a b).length := by rw [hrs]
    refine op_v (v_move rfl) rfl ?_
    refine op_v (v_assign rfl) rfl ?_
    refine ops_nil ?_
    refine post_next ?_
    refine code_ret ?_
    refine post_ret (rs := [.tmp 4]) rfl (List.Perm.refl _) (.cons (.tmp rfl) .nil) (List.nil_sublist _) ?_
    exact ⟨RowT.repS hlo hcells58 (hx.mono Imm.leA) hc58 (by omega), rfl⟩
end Go.Proofs.YtdbadicpbmndbaaGreat
/- Walks: the document's answers on which row is greater; the statement. -/
set_option linter.unusedVariables false
set_option linter.unusedSimpArgs false
set_option linter.unnecessarySimpa false
/- short -/
namespace Go.Proofs.YtdbadicpbmndbaaGreat
open Go Lg

theorem any_take_succ' {α : Type} (p : α → Bool) (l : List α) {k : Nat} (h : k < l.length) : (l.take (k + 1)).any p = ((l.take k).any p || p l[k]) := by
  rw [List.take_succ_eq_append_getElem h, List.any_append]; simp
theorem Rover_does {I : Imm} {vg va vb : Value} {gs : List Sy} {a b : List T} (hg : RepG I vg gs) (ha : RepS I va a) (hb : RepS I vb b) (hoa : ∀ t ∈ a, OkG gs t) (hob : ∀ t ∈ b, OkG gs t) (hla : a.length ≤ 1000000) (hlb : b.length ≤ 1000000) :
    Does Tryz.prog 142 [vg, va, vb] I [] (fun v _ δ' => v = .bool (overL gs a b) ∧ δ' = []) := by
  obtain ⟨ga, gc, rfl⟩ := hg.shape
  obtain ⟨aA, aC, aS, xa, rfl, hca, hra, hba, hea⟩ := ha.row
  obtain ⟨bA, bC, bS, xb, rfl, hcb, hrb, hbb, heb⟩ := hb.row
  refine Does.intro Tryz.func142 rfl Tryz.ntmps142 rfl fun w0 => ?_
  refine code_seq ?_
  refine code_region ?_
  refine op_v (v_assign rfl) rfl ?_
  refine ops_nil ?_
  refine post_next ?_
  refine code_seq ?_
  refine code_seq ?_
  refine code_region ?_
  refine op_v (v_assign rfl) rfl ?_
  refine ops_nil ?_
  refine post_next ?_
  refine code_block ?_
  refine code_loop (fun m σ' I' δ' => ∃ i : Nat, m = b.length - i ∧ i ≤ b.length ∧ σ' = [(0, .slice ga gs.length gc), (1, .slice aA a.length aC), (2, .slice bA b.length bC), (7, .int .i64 i)] ∧ I.le I' ∧ δ' = [] ∧ ∀ (j : Nat) (h : j < b.length), j < i → a.any (fun t => decide (stT gs t b[j] = 1)) = true) b.length [(0, .slice ga gs.length gc), (1, .slice aA a.length aC), (2, .slice bA b.length bC), (7, .int .i64 (0 : Nat))] ⟨0, rfl, Nat.zero_le _, rfl, Imm.le_refl _, rfl, fun j _ h => by omega⟩ ⟨rfl, rfl, rfl, rfl, trivial⟩ ?_
  rintro m _ I0 _ ⟨i, rfl, hi, rfl, hI0, rfl, hp⟩
  refine code_seq ?_
  refine code_seq ?_
  refine code_region ?_
  refine op_v (v_move rfl) rfl ?_
  refine op_v (v_move rfl) rfl ?_
  refine op_v (v_len Tryz.underlying46 rfl) rfl ?_
  refine op_v (v_cmp rfl rfl rfl) rfl ?_
  refine ops_nil ?_
  refine post_next ?_
  refine code_cond rfl (fun hc0 => ?_) (fun hc0 => ?_)
  · have hlt : i < b.length := by simpa using hc0
    obtain ⟨hat2, hrt2⟩ := heb i hlt
    have hs2 := hat2.isSome
    have hob2 := hob b[i] (List.getElem_mem hlt)
    refine code_skip ?_
    refine post_next ?_
    refine code_seq ?_
    refine code_block ?_
    refine code_seq ?_
    refine code_region ?_
    refine op_v (v_assign rfl) rfl ?_
    refine ops_nil ?_
    refine post_next ?_
    refine code_seq ?_
    refine code_seq ?_
    refine code_region ?_
    refine op_v (v_assign rfl) rfl ?_
    refine ops_nil ?_
    refine post_next ?_
    refine code_block ?_
    refine code_loop (fun m σ' I' δ' => ∃ k : Nat, m = a.length - k ∧ k ≤ a.length ∧ σ' = [(0, .slice ga gs.length gc), (1, .slice aA a.length aC), (2, .slice bA b.length bC), (7, .int .i64 i), (8, .bool ((a.take k).any fun t => decide (stT gs t b[i] = 1))), (9, .int .i64 k)] ∧ I0.le I' ∧ δ' = []) a.length [(0, .slice ga gs.length gc), (1, .slice aA a.length aC), (2, .slice bA b.length bC), (7, .int .i64 i), (8, .bool false), (9, .int .i64 (0 : Nat))] ⟨0, rfl, Nat.zero_le _, rfl, Imm.le_refl _, rfl⟩ ⟨rfl, rfl, rfl, rfl, rfl, rfl, trivial⟩ ?_
    rintro m _ I1 _ ⟨k, rfl, hk, rfl, hI1, rfl⟩
    refine code_seq ?_
    refine code_seq ?_
    refine code_region ?_
    refine op_v (v_move rfl) rfl ?_
    refine op_v (v_move rfl) rfl ?_
    refine op_v (v_len Tryz.underlying46 rfl) rfl ?_
    refine op_v (v_cmp rfl rfl rfl) rfl ?_
    refine ops_nil ?_
    refine post_next ?_
    refine code_cond rfl (fun hc1 => ?_) (fun hc1 => ?_)
    · have hltk : k < a.length := by simpa using hc1
      obtain ⟨hat1, hrt1⟩ := hea k hltk
      have hs1 := hat1.isSome
      have hoa2 := hoa a[k] (List.getElem_mem hltk)
      have hnext := any_take_succ' (fun t => decide (stT gs t b[i] = 1)) a hltk
      refine code_skip ?_
      refine post_next ?_
      refine code_seq ?_
      refine code_block ?_
      refine code_draw (.fl 0 (.fl 1 (.fl 2 (.fl 3 (.fl 4 (.fl 5 (.fl 6 (.fl 7 (.fl 8 (.fl 9 (.fl 10 (.ef 11 (.fl 12 (.ef 13 .done)))))))))))))) (fun _ => _) mixed (by kernel_rfl) (by kernel_rfl) (fun _ => (List.Sublist.refl _)) ?_
      refine e_fl rfl rfl (fun hs_ => PF.mk rfl (v_move rfl) hs_) ?_
      by_cases h23 : ((a.take k).any fun t => decide (stT gs t b[i] = 1)) = true
      · rw [h23] at hnext ⊢
        refine e_fl rfl rfl (fun hs_ => PF.mk rfl (v_move rfl) hs_) ?_
        refine e_fl rfl rfl (fun hs_ => PF.mks rfl (by intro c hc; cases hc) rfl rfl (by simp [undef]) hs_) ?_
        refine e_fl rfl rfl (fun hs_ => PF.mks rfl (by intro c hc; cases hc) rfl rfl (by simp [undef]) hs_) ?_
        refine e_fl rfl rfl (fun hs_ => PF.mks rfl (by intro c hc; cases hc) rfl rfl (by simp [undef]) hs_) ?_
        refine e_fl rfl rfl (fun hs_ => PF.mks rfl (by intro c hc; cases hc) rfl rfl (by simp [undef]) hs_) ?_
        refine e_fl rfl rfl (fun hs_ => PF.mks rfl (by intro c hc; cases hc) rfl rfl (by simp [undef]) hs_) ?_
        refine e_fl rfl rfl (fun hs_ => PF.mks rfl (by intro c hc; cases hc) rfl rfl (by simp [undef]) hs_) ?_
        refine e_fl rfl rfl (fun hs_ => PF.mks rfl (by intro c hc; cases hc) rfl rfl (by simp [undef]) hs_) ?_
        refine e_fl rfl rfl (fun hs_ => PF.mks rfl (by intro c hc; cases hc) rfl rfl (by simp [undef]) hs_) ?_
        refine e_fl rfl rfl (fun hs_ => PF.mks rfl (by intro c hc; cases hc) rfl rfl (by simp [undef]) hs_) ?_
        refine e_eff rfl (by intro cs b hc; cases hc) (by intro c hc; cases hc) ?_
        refine op_skip rfl rfl (by simp [undef]) rfl ?_
        refine ops_nil ?_
        refine e_next rfl side_allA ?_
        refine e_fl rfl rfl (fun hs_ => PF.mk rfl (v_pickt rfl rfl) hs_) ?_
        refine e_eff rfl (by intro cs b hc; cases hc) (by intro c hc; cases hc) ?_
        refine op_v (v_assign rfl) rfl ?_
        refine ops_nil ?_
        refine e_next rfl (side_nil (by kernel_rfl)) ?_
        refine e_done ?_
        refine post_out ?_
        refine post_next ?_
        refine code_region ?_
        refine op_v (v_move rfl) rfl ?_
        refine op_v (v_addb rfl rfl rfl (by omega)) rfl ?_
        refine op_v (v_assign rfl) rfl ?_
        refine ops_nil ?_
        refine post_again (a.length - (k + 1)) [(0, .slice ga gs.length gc), (1, .slice aA a.length aC), (2, .slice bA b.length bC), (7, .int .i64 i), (8, .bool true), (9, .int .i64 (k + 1 : Nat))] (by omega) ⟨k + 1, rfl, hltk, by rw [hnext]; rfl, Imm.leA, rfl⟩ ⟨rfl, rfl, rfl, rfl, rfl, rfl, trivial⟩
      · have h23' : ((a.take k).any fun t => decide (stT gs t b[i] = 1)) = false := by simpa using h23
        rw [h23'] at hnext ⊢
        refine e_fl rfl rfl (fun hs_ => PF.mk rfl (v_move rfl) hs_) ?_
        refine e_fl rfl rfl (fun hs_ => PF.mkg rfl rfl rfl (v_move rfl) hs_) ?_
        refine e_fl rfl rfl (fun hs_ => PF.mkg rfl rfl rfl (v_move rfl) hs_) ?_
        refine e_fl rfl rfl (fun hs_ => PF.mkg rfl rfl rfl (v_move rfl) hs_) ?_
        refine e_fl rfl rfl (fun hs_ => PF.mkg rfl rfl rfl (v_indexA Tryz.underlying46 sz48 rfl rfl) hs_) ?_
        refine e_fl rfl rfl (fun hs_ => PF.mkg rfl rfl rfl (v_loadI0 ty48 (hat1.mono Imm.leA) rfl rfl rfl) hs_) ?_
        refine e_fl rfl rfl (fun hs_ => PF.mkg rfl rfl rfl (v_move rfl) hs_) ?_
        refine e_fl rfl rfl (fun hs_ => PF.mkg rfl rfl rfl (v_move rfl) hs_) ?_
        refine e_fl rfl rfl (fun hs_ => PF.mkg rfl rfl rfl (v_indexA Tryz.underlying46 sz48 rfl rfl) hs_) ?_
        refine e_fl rfl rfl (fun hs_ => PF.mkg rfl rfl rfl (v_loadI0 ty48 (hat2.mono Imm.leA) rfl rfl rfl) hs_) ?_
        refine e_eff rfl (by intro cs b hc; cases hc) (by intro c hc; cases hc) ?_
        refine op_want rfl rfl ?_
        refine op_call pl166 rfl rfl ((Greater_does _ _ _ (Nat.le_refl _) hoa2 hob2 _ _ _ _ (hg.mono Imm.leA) (hrt1.mono Imm.leA) (hrt2.mono Imm.leA))) Parts.none ?_
        rintro _ I33 _ hI33 ⟨rfl, rfl⟩
        refine ops_nil ?_
        refine e_next rfl side_allA ?_
        refine e_fl rfl rfl (fun hs_ => PF.mk rfl (v_pickf rfl rfl) hs_) ?_
        refine e_eff rfl (by intro cs b hc; cases hc) (by intro c hc; cases hc) ?_
        refine op_v (v_assign rfl) rfl ?_
        refine ops_nil ?_
        refine e_next rfl (side_nil (by kernel_rfl)) ?_
        refine e_done ?_
        refine post_out ?_
        refine post_next ?_
        refine code_region ?_
        refine op_v (v_move rfl) rfl ?_
        refine op_v (v_addb rfl rfl rfl (by omega)) rfl ?_
        refine op_v (v_assign rfl) rfl ?_
        refine ops_nil ?_
        refine post_again (a.length - (k + 1)) [(0, .slice ga gs.length gc), (1, .slice aA a.length aC), (2, .slice bA b.length bC), (7, .int .i64 i), (8, .bool (decide (stT gs a[k] b[i] = 1))), (9, .int .i64 (k + 1 : Nat))] (by omega) ⟨k + 1, rfl, hltk, by rw [hnext]; rfl, Imm.leA, rfl⟩ ⟨rfl, rfl, rfl, rfl, rfl, rfl, trivial⟩
    · have hgek : k = a.length := by simp at hc1; omega
      subst hgek
      rw [List.take_length]
      refine code_exit ?_
      refine post_exit_then ?_
      refine post_exit_then ?_
      refine post_exit ?_
      refine post_next ?_
      refine code_seq ?_
      refine code_region ?_
      refine op_v (v_move rfl) rfl ?_
      by_cases h36 : (a.any fun t => decide (stT gs t b[i] = 1)) = true
      · rw [h36]
        refine op_v (v_not rfl) rfl ?_
        refine ops_nil ?_
        refine post_next ?_
        refine code_cond_f rfl ?_
        refine code_skip ?_
        refine post_out ?_
        refine post_next ?_
        refine code_region ?_
        refine op_v (v_move rfl) rfl ?_
        refine op_v (v_addb rfl rfl rfl (by omega)) rfl ?_
        refine op_v (v_assign rfl) rfl ?_
        refine ops_nil ?_
        refine post_again (b.length - (i + 1)) [(0, .slice ga gs.length gc), (1, .slice aA a.length aC), (2, .slice bA b.length bC), (7, .int .i64 (i + 1 : Nat))] (by omega) ⟨i + 1, rfl, hlt, rfl, Imm.leA, rfl, fun j hj hji => ?_⟩ ⟨rfl, rfl, rfl, rfl, trivial⟩
        rcases Nat.lt_or_ge j i with hq | hq
        · exact hp j hj hq
        have hq2 : j = i := by omega
        subst hq2
        exact h36
      · have h36' : (a.any fun t => decide (stT gs t b[i] = 1)) = false := by simpa using h36
        rw [h36']
        refine op_v (v_not rfl) rfl ?_
        refine ops_nil ?_
        refine post_next ?_
        refine code_cond_t rfl ?_
        refine code_seq ?_
        refine code_region ?_
        refine op_v (v_assign rfl) rfl ?_
        refine ops_nil ?_
        refine post_next ?_
        refine code_ret ?_
        refine post_ret_block ?_
        refine post_ret_then ?_
        refine post_ret_then ?_
        refine post_ret_block ?_
        refine post_ret_then ?_
        refine post_ret (rs := [.tmp 6]) rfl (List.Perm.refl _) (.cons (.tmp rfl) .nil) (List.nil_sublist _) ?_
        have hov : overL gs a b = false := by
          cases hq : overL gs a b with
          | false => rfl
          | true =>
            unfold overL at hq
            rw [Bool.and_eq_true, List.all_eq_true] at hq
            exact absurd (hq.2 b[i] (List.getElem_mem hlt)) h36
        exact ⟨by rw [hov]; rfl, rfl⟩
  · have hge : i = b.length := by simp at hc0; omega
    refine code_exit ?_
    refine post_exit_then ?_
    refine post_exit_then ?_
    refine post_exit ?_
    refine post_next ?_
    refine code_seq ?_
    refine code_region ?_
    refine op_v (v_move rfl) rfl ?_
    refine op_v (v_len Tryz.underlying46 rfl) rfl ?_
    refine op_v (v_cmp rfl rfl rfl) rfl ?_
    refine op_v (v_assign rfl) rfl ?_
    refine ops_nil ?_
    refine post_next ?_
    refine code_ret ?_
    refine post_ret (rs := [.tmp 6]) rfl (List.Perm.refl _) (.cons (.tmp rfl) .nil) (List.nil_sublist _) ?_
    have hall : (b.all fun u => a.any fun t => decide (stT gs t u = 1)) = true := List.all_eq_true.2 fun u hu => by obtain ⟨j, hj, rfl⟩ := List.getElem_of_mem hu; exact hp j hj (by omega)
    exact ⟨bool_b (by unfold overL; rw [hall, Bool.and_true]; simp), rfl⟩
theorem Rows_does {I : Imm} {vg va vb : Value} {gs : List Sy} {a b : List T} (hg : RepG I vg gs) (ha : RepS I va a) (hb : RepS I vb b) (hoa : ∀ t ∈ a, OkG gs t) (hob : ∀ t ∈ b, OkG gs t) (hla : a.length ≤ 1000000) (hlb : b.length ≤ 1000000) :
    Does Tryz.prog 117 [vg, va, vb] I [] (fun v _ δ' => v = .int .i64 (mulG gs a b) ∧ δ' = []) := by
  obtain ⟨aa, ac, rfl⟩ := ha.shape
  obtain ⟨ba, bc, rfl⟩ := hb.shape
  have hl1 := rsL_len a b
  have hl2 := rsL_len b a
  have hsa : ∀ t ∈ a, t.size ≤ 1000000000 := fun t ht => by have := chkT_size (hoa t ht).chk; omega
  have hsb : ∀ t ∈ b, t.size ≤ 1000000000 := fun t ht => by have := chkT_size (hob t ht).chk; omega
  refine Does.intro Tryz.func117 rfl Tryz.ntmps117 rfl fun w0 => ?_
  refine code_seq ?_
  refine code_region ?_
  refine op_v (v_assign rfl) rfl ?_
  refine ops_nil ?_
  refine post_next ?_
  refine code_seq ?_
  refine code_region ?_
  refine op_v (v_move rfl) rfl ?_
  refine op_v (v_move rfl) rfl ?_
  refine op_call pl141 rfl rfl ((without_does (ha.mono Imm.leA) (hb.mono Imm.leA) hsa hsb hla hlb)) Parts.none ?_
  rintro v11 I11 _ hI11 ⟨hv11, rfl⟩
  obtain ⟨xa, xc, rfl⟩ := hv11.shape
  refine op_v (v_assign rfl) rfl ?_
  refine ops_nil ?_
  refine post_next ?_
  refine code_seq ?_
  refine code_region ?_
  refine op_v (v_move rfl) rfl ?_
  refine op_v (v_move rfl) rfl ?_
  refine op_call pl141 rfl rfl ((without_does (hb.mono Imm.leA) (ha.mono Imm.leA) hsb hsa hlb hla)) Parts.none ?_
  rintro v14 I14 _ hI14 ⟨hv14, rfl⟩
  obtain ⟨ya, yc, rfl⟩ := hv14.shape
  refine op_v (v_assign rfl) rfl ?_
  refine ops_nil ?_
  refine post_next ?_
  refine code_seq ?_
  refine code_seq ?_
  refine code_region ?_
  refine op_v (v_move rfl) rfl ?_
  refine op_v (v_len Tryz.underlying46 rfl) rfl ?_
  refine op_v (v_move rfl) rfl ?_
  refine op_v (v_len Tryz.underlying46 rfl) rfl ?_
  refine op_v (v_addb rfl rfl rfl (by omega)) rfl ?_
  by_cases h20 : (rsL a b).length + (rsL b a).length = 0
  · refine op_v (v_cmptA rfl rfl rfl) rfl ?_
    refine ops_nil ?_
    refine post_next ?_
    refine code_cond_t rfl ?_
    refine code_seq ?_
    refine code_region ?_
    refine op_v (v_assign rfl) rfl ?_
    refine ops_nil ?_
    refine post_next ?_
    refine code_ret ?_
    refine post_ret_then ?_
    refine post_ret (rs := [.tmp 6]) rfl (List.Perm.refl _) (.cons (.tmp rfl) .nil) (List.nil_sublist _) ?_
    exact ⟨by simp only [outV, mulG]; rw [if_pos h20], rfl⟩
  · refine op_v (v_cmpfA rfl rfl rfl) rfl ?_
    refine ops_nil ?_
    refine post_next ?_
    refine code_cond_f rfl ?_
    refine code_skip ?_
    refine post_next ?_
    refine code_seq ?_
    refine code_seq ?_
    refine code_region ?_
    refine op_v (v_move rfl) rfl ?_
    refine op_v (v_move rfl) rfl ?_
    refine op_v (v_move rfl) rfl ?_
    refine op_call pl142 rfl rfl ((Rover_does (hg.mono Imm.leA) (hv11.mono Imm.leA) (hv14.mono Imm.leA) (fun t ht => hoa t (rsL_mem ht)) (fun t ht => hob t (rsL_mem ht)) (by omega) (by omega))) Parts.none ?_
    rintro v24 I24 _ hI24 ⟨rfl, rfl⟩
    refine ops_nil ?_
    refine post_next ?_
    refine code_cond rfl (fun hc1 => ?_) (fun hc1 => ?_)
    · have h24 : overL gs (rsL a b) (rsL b a) = true := hc1
      refine code_seq ?_
      refine code_region ?_
      refine op_v (v_assign rfl) rfl ?_
      refine ops_nil ?_
      refine post_next ?_
      refine code_ret ?_
      refine post_ret_then ?_
      refine post_ret (rs := [.tmp 6]) rfl (List.Perm.refl _) (.cons (.tmp rfl) .nil) (List.nil_sublist _) ?_
      exact ⟨by simp only [outV, mulG]; rw [if_neg h20, if_pos h24], rfl⟩
    · have h24 : ¬ overL gs (rsL a b) (rsL b a) = true := by rw [hc1]; simp
      refine code_skip ?_
      refine post_next ?_
      refine code_seq ?_
      refine code_seq ?_
      refine code_region ?_
      refine op_v (v_move rfl) rfl ?_
      refine op_v (v_move rfl) rfl ?_
      refine op_v (v_move rfl) rfl ?_
      refine op_call pl142 rfl rfl ((Rover_does (hg.mono Imm.leA) (hv14.mono Imm.leA) (hv11.mono Imm.leA) (fun t ht => hob t (rsL_mem ht)) (fun t ht => hoa t (rsL_mem ht)) (by omega) (by omega))) Parts.none ?_
      rintro v28 I28 _ hI28 ⟨rfl, rfl⟩
      refine ops_nil ?_
      refine post_next ?_
      refine code_cond rfl (fun hc2 => ?_) (fun hc2 => ?_)
      · have h28 : overL gs (rsL b a) (rsL a b) = true := hc2
        refine code_seq ?_
        refine code_region ?_
        refine op_v (v_assign rfl) rfl ?_
        refine ops_nil ?_
        refine post_next ?_
        refine code_ret ?_
        refine post_ret_then ?_
        refine post_ret (rs := [.tmp 6]) rfl (List.Perm.refl _) (.cons (.tmp rfl) .nil) (List.nil_sublist _) ?_
        exact ⟨by simp only [outV, mulG]; rw [if_neg h20, if_neg h24, if_pos h28], rfl⟩
      · have h28 : ¬ overL gs (rsL b a) (rsL a b) = true := by rw [hc2]; simp
        refine code_skip ?_
        refine post_next ?_
        refine code_seq ?_
        refine code_region ?_
        refine op_v (v_assign rfl) rfl ?_
        refine ops_nil ?_
        refine post_next ?_
        refine code_ret ?_
        refine post_ret (rs := [.tmp 6]) rfl (List.Perm.refl _) (.cons (.tmp rfl) .nil) (List.nil_sublist _) ?_
        exact ⟨by simp only [outV, mulG]; rw [if_neg h20, if_neg h24, if_neg h28], rfl⟩
end Go.Proofs.YtdbadicpbmndbaaGreat
/- Walks: the document's answer on whether a literal is right. -/
set_option linter.unusedVariables false
set_option linter.unusedSimpArgs false
set_option linter.unnecessarySimpa false
/- short -/
namespace Go.Proofs.YtdbadicpbmndbaaGreat
open Go Lg

theorem tru_eq {gs : List Sy} {t : T} (h : OkG gs t) : truG gs t = trL gs t := by
  have q := h.heads (true, t) (by rw [visT_eq]; exact List.mem_cons_self ..)
  simp only at q
  unfold truG trL
  by_cases h0 : 0 ≤ t.head
  · have : t.head < (gs.length : Int) := by omega
    simp [this]
  · simp [h0]
theorem RLCheck_does {I : Imm} {vg va : Value} {gs : List Sy} {x : Li} (hg : RepG I vg gs) (ha : RepL I va x) (h1 : x.l.size ≤ 1000000000) (h2 : x.r.size ≤ 1000000000) :
    Does Tryz.prog 71 [vg, va] I [] (fun v _ δ' => v = .int .i64 (litG gs x) ∧ δ' = []) := by
  obtain ⟨la, lc, ra, rc, rfl, hl, hr⟩ := ha
  obtain ⟨ga, gc, rfl⟩ := hg.shape
  refine Does.intro Tryz.func71 rfl Tryz.ntmps71 rfl fun w0 => ?_
  refine code_seq ?_
  refine code_region ?_
  refine o_box rfl rfl rfl (fun b3 => ?_)
  refine op_v (v_assign rfl) rfl ?_
  refine ops_nil ?_
  refine post_next ?_
  refine code_seq ?_
  refine code_region ?_
  refine op_v (v_move rfl) rfl ?_
  refine op_v (v_fieldB 1 Tryz.underlying59 rfl rfl fz48 rfl) rfl ?_
  refine op_v (v_loadA ty48 rfl rfl) rfl ?_
  refine op_call pl115 rfl rfl ((RTerm_does (hg.mono Imm.leA) (hl.mono Imm.leA) h1)) Parts.none ?_
  rintro _ I11 _ hI11 ⟨rfl, rfl⟩
  refine op_v (v_assign rfl) rfl ?_
  refine ops_nil ?_
  refine post_next ?_
  refine code_seq ?_
  refine code_seq ?_
  refine code_region ?_
  refine op_v (v_move rfl) rfl ?_
  by_cases e1 : termG gs x.l ≠ 0
  · refine op_v (v_cmptA rfl rfl rfl) rfl ?_
    refine ops_nil ?_
    refine post_next ?_
    refine code_cond_t rfl ?_
    refine code_seq ?_
    refine code_region ?_
    refine op_v (v_move rfl) rfl ?_
    refine op_v (v_assign rfl) rfl ?_
    refine ops_nil ?_
    refine post_next ?_
    refine code_ret ?_
    refine post_ret_then ?_
    refine post_ret (rs := [.tmp 4]) rfl (List.Perm.refl _) (.cons (.tmp rfl) .nil) (List.nil_sublist _) ?_
    exact ⟨by unfold litG; rw [if_pos e1]; rfl, rfl⟩
  · refine op_v (v_cmpfA rfl rfl rfl) rfl ?_
    refine ops_nil ?_
    refine post_next ?_
    refine code_cond_f rfl ?_
    refine code_skip ?_
    refine post_next ?_
    refine code_seq ?_
    refine code_region ?_
    refine op_v (v_move rfl) rfl ?_
    refine op_v (v_fieldB 3 Tryz.underlying59 rfl rfl fz48 rfl) rfl ?_
    refine op_v (v_loadA ty48 rfl rfl) rfl ?_
    refine op_call pl115 rfl rfl ((RTerm_does (hg.mono Imm.leA) (hr.mono Imm.leA) h2)) Parts.none ?_
    rintro _ I18 _ hI18 ⟨rfl, rfl⟩
    refine op_v (v_assign rfl) rfl ?_
    refine ops_nil ?_
    refine post_next ?_
    refine code_seq ?_
    refine code_seq ?_
    refine code_region ?_
    refine op_v (v_move rfl) rfl ?_
    by_cases e2 : termG gs x.r ≠ 0
    · refine op_v (v_cmptA rfl rfl rfl) rfl ?_
      refine ops_nil ?_
      refine post_next ?_
      refine code_cond_t rfl ?_
      refine code_seq ?_
      refine code_region ?_
      refine op_v (v_move rfl) rfl ?_
      refine op_v (v_assign rfl) rfl ?_
      refine ops_nil ?_
      refine post_next ?_
      refine code_ret ?_
      refine post_ret_then ?_
      refine post_ret (rs := [.tmp 4]) rfl (List.Perm.refl _) (.cons (.tmp rfl) .nil) (List.nil_sublist _) ?_
      exact ⟨by unfold litG; rw [if_neg e1, if_pos e2]; rfl, rfl⟩
    · have o1 := termG_ok.1 (show termG gs x.l = 0 by omega)
      have o2 := termG_ok.1 (show termG gs x.r = 0 by omega)
      refine op_v (v_cmpfA rfl rfl rfl) rfl ?_
      refine ops_nil ?_
      refine post_next ?_
      refine code_cond_f rfl ?_
      refine code_skip ?_
      refine post_next ?_
      refine code_seq ?_
      refine code_region ?_
      refine op_v (v_move rfl) rfl ?_
      refine op_v (v_fieldB 1 Tryz.underlying59 rfl rfl fz48 rfl) rfl ?_
      refine op_v (v_loadA ty48 rfl rfl) rfl ?_
      refine op_call pl116 rfl rfl ((Truth_does (hg.mono Imm.leA) (hl.mono Imm.leA))) Parts.none ?_
      rintro _ I25 _ hI25 ⟨rfl, rfl⟩
      rw [tru_eq o1]
      refine op_v (v_assign rfl) rfl ?_
      refine ops_nil ?_
      refine post_next ?_
      refine code_seq ?_
      refine code_seq ?_
      refine code_region ?_
      by_cases e3 : trL gs x.l = true
      · rw [e3]
        refine op_v (v_move rfl) rfl ?_
        refine op_v (v_move rfl) rfl ?_
        first
          | (refine op_want rfl rfl ?_
             refine op_v (v_fieldB 3 Tryz.underlying59 rfl rfl fz48 rfl) rfl ?_)
          | (refine op_skip rfl rfl (by simp [undef]) rfl ?_)
        first
          | (refine op_want rfl rfl ?_
             refine op_v (v_fieldB 0 Tryz.underlying48 rfl rfl fz3 rfl) rfl ?_)
          | (refine op_skip rfl rfl (by simp [undef]) rfl ?_)
        refine op_want rfl rfl ?_
        refine op_v (v_loadA ty3 rfl rfl) rfl ?_
        by_cases e4 : x.r.head ≠ 0
        · first
            | (refine op_want rfl rfl ?_
               refine op_v (v_cmptA rfl rfl rfl) rfl ?_)
            | (refine op_skip rfl rfl (by simp [undef]) rfl ?_)
          refine op_v (v_pickt rfl rfl) rfl ?_
          refine op_v (v_move rfl) rfl ?_
          refine op_skip rfl rfl (by simp [undef]) rfl ?_
          refine op_skip rfl rfl (by simp [undef]) rfl ?_
          refine op_skip rfl rfl (by simp [undef]) rfl ?_
          refine op_skip rfl rfl (by simp [undef]) rfl ?_
          refine op_skip rfl rfl (by simp [undef]) rfl ?_
          refine op_skip rfl rfl (by simp [undef]) rfl ?_
          refine op_skip rfl rfl (by simp [undef]) rfl ?_
          refine op_skip rfl rfl (by simp [undef]) rfl ?_
          refine op_v (v_pickt rfl rfl) rfl ?_
          refine ops_nil ?_
          refine post_next ?_
          refine code_cond_t rfl ?_
          refine code_seq ?_
          refine code_region ?_
          refine op_v (v_assign rfl) rfl ?_
          refine ops_nil ?_
          refine post_next ?_
          refine code_ret ?_
          refine post_ret_then ?_
          refine post_ret (rs := [.tmp 4]) rfl (List.Perm.refl _) (.cons (.tmp rfl) .nil) (List.nil_sublist _) ?_
          exact ⟨by unfold litG; rw [if_neg e1, if_neg e2, if_pos (by simp [sortL, e3, e4])]; rfl, rfl⟩
        · first
            | (refine op_want rfl rfl ?_
               refine op_v (v_cmpfA rfl rfl rfl) rfl ?_)
            | (refine op_skip rfl rfl (by simp [undef]) rfl ?_)
          refine op_v (v_pickt rfl rfl) rfl ?_
          refine op_v (v_move rfl) rfl ?_
          refine op_want rfl rfl ?_
          refine op_v (v_move rfl) rfl ?_
          refine op_want rfl rfl ?_
          refine op_v (v_not rfl) rfl ?_
          refine op_want rfl rfl ?_
          refine op_v (v_move rfl) rfl ?_
          refine op_skip rfl rfl (by simp [undef]) rfl ?_
          refine op_skip rfl rfl (by simp [undef]) rfl ?_
          refine op_skip rfl rfl (by simp [undef]) rfl ?_
          refine op_skip rfl rfl (by simp [undef]) rfl ?_
          first
            | (refine op_want rfl rfl ?_
               refine op_v (v_pickf rfl rfl) rfl ?_)
            | (refine op_skip rfl rfl (by simp [undef]) rfl ?_)
          refine op_v (v_pickf rfl rfl) rfl ?_
          refine ops_nil ?_
          refine post_next ?_
          refine code_cond_f rfl ?_
          refine code_skip ?_
          refine post_next ?_
          refine code_seq ?_
          refine code_region ?_
          refine op_v (v_assign rfl) rfl ?_
          refine ops_nil ?_
          refine post_next ?_
          refine code_ret ?_
          refine post_ret (rs := [.tmp 4]) rfl (List.Perm.refl _) (.cons (.tmp rfl) .nil) (List.nil_sublist _) ?_
          exact ⟨by unfold litG; rw [if_neg e1, if_neg e2, if_neg (by simp [sortL, e3]; omega)]; rfl, rfl⟩
      · have e3' : trL gs x.l = false := by simpa using e3
        rw [e3']
        refine op_v (v_move rfl) rfl ?_
        refine op_v (v_move rfl) rfl ?_
        refine op_skip rfl rfl (by simp [undef]) rfl ?_
        refine op_skip rfl rfl (by simp [undef]) rfl ?_
        refine op_skip rfl rfl (by simp [undef]) rfl ?_
        refine op_skip rfl rfl (by simp [undef]) rfl ?_
        refine op_v (v_pickf rfl rfl) rfl ?_
        refine op_v (v_move rfl) rfl ?_
        refine op_want rfl rfl ?_
        refine op_v (v_move rfl) rfl ?_
        refine op_want rfl rfl ?_
        refine op_v (v_not rfl) rfl ?_
        refine op_want rfl rfl ?_
        refine op_v (v_move rfl) rfl ?_
        refine op_want rfl rfl ?_
        refine op_v (v_move rfl) rfl ?_
        first
          | (refine op_want rfl rfl ?_
             refine op_v (v_fieldB 3 Tryz.underlying59 rfl rfl fz48 rfl) rfl ?_)
          | (refine op_skip rfl rfl (by simp [undef]) rfl ?_)
        refine op_want rfl rfl ?_
        refine op_v (v_loadA ty48 rfl rfl) rfl ?_
        refine op_want rfl rfl ?_
        refine op_call pl116 rfl rfl ((Truth_does (hg.mono Imm.leA) (hr.mono Imm.leA))) Parts.none ?_
        rintro _ I40 _ hI40 ⟨rfl, rfl⟩
        rw [tru_eq o2]
        by_cases e5 : trL gs x.r = true
        · rw [e5]
          first
            | (refine op_want rfl rfl ?_
               refine op_v (v_pickt rfl rfl) rfl ?_)
            | (refine op_skip rfl rfl (by simp [undef]) rfl ?_)
          refine op_v (v_pickf rfl rfl) rfl ?_
          refine ops_nil ?_
          refine post_next ?_
          refine code_cond_t rfl ?_
          refine code_seq ?_
          refine code_region ?_
          refine op_v (v_assign rfl) rfl ?_
          refine ops_nil ?_
          refine post_next ?_
          refine code_ret ?_
          refine post_ret_then ?_
          refine post_ret (rs := [.tmp 4]) rfl (List.Perm.refl _) (.cons (.tmp rfl) .nil) (List.nil_sublist _) ?_
          exact ⟨by unfold litG; rw [if_neg e1, if_neg e2, if_pos (by simp [sortL, e3', e5])]; rfl, rfl⟩
        · have e5' : trL gs x.r = false := by simpa using e5
          rw [e5']
          first
            | (refine op_want rfl rfl ?_
               refine op_v (v_pickt rfl rfl) rfl ?_)
            | (refine op_skip rfl rfl (by simp [undef]) rfl ?_)
          refine op_v (v_pickf rfl rfl) rfl ?_
          refine ops_nil ?_
          refine post_next ?_
          refine code_cond_f rfl ?_
          refine code_skip ?_
          refine post_next ?_
          refine code_seq ?_
          refine code_region ?_
          refine op_v (v_assign rfl) rfl ?_
          refine ops_nil ?_
          refine post_next ?_
          refine code_ret ?_
          refine post_ret (rs := [.tmp 4]) rfl (List.Perm.refl _) (.cons (.tmp rfl) .nil) (List.nil_sublist _) ?_
          exact ⟨by unfold litG; rw [if_neg e1, if_neg e2, if_neg (by simp [sortL, e3', e5'])]; rfl, rfl⟩
end Go.Proofs.YtdbadicpbmndbaaGreat
