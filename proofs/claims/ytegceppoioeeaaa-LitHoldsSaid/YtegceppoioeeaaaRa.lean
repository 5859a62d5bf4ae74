/- Walks: the document's answers on signatures and terms (layers 1 and 7). -/
import Derived.Test.YtegceppoioeeaaaZ4
set_option linter.unusedVariables false
set_option linter.unusedSimpArgs false
/- short -/
namespace Go.Proofs.Ytegceppoioeeaaa
open Go Lg

theorem toList_loop_len (bs : ByteArray) : ∀ (n i : Nat) (r : List UInt8), bs.size - i = n → (ByteArray.toList.loop bs i r).length = r.length + n := by
  intro n
  induction n with
  | zero => intro i r h; rw [ByteArray.toList.loop, if_neg (by omega)]; simp
  | succ n ih => intro i r h; rw [ByteArray.toList.loop, if_pos (by omega), ih (i + 1) _ (by omega)]; simp; omega
theorem toList_len (bs : ByteArray) : bs.toList.length = bs.size := by
  unfold ByteArray.toList; rw [toList_loop_len bs bs.size 0 [] (by omega)]; simp
theorem nmEq_nil {a : ByteArray} : nmEq a ⟨#[]⟩ = true ↔ a.size < 1 := by
  rw [nmEq_iff]
  have h1 := toList_len a
  have h2 : (⟨#[]⟩ : ByteArray).toList = [] := by decide +kernel
  rw [h2]
  constructor
  · intro h; rw [h] at h1; simp at h1; omega
  · intro h; exact List.eq_nil_of_length_eq_zero (by omega)
theorem any_take_false {α : Type} {p : α → Bool} {l : List α} {k : Nat} (h : ∀ i (h : i < l.length), i < k → p l[i] = false) (hk : k ≤ l.length) : (l.take k).any p = false := by
  rw [List.any_eq_false]
  intro x hx
  obtain ⟨i, hi, rfl⟩ := List.getElem_of_mem hx
  rw [List.length_take] at hi
  rw [List.getElem_take, h i (by omega) (by omega)]; simp
theorem any_all_false {α : Type} {p : α → Bool} {l : List α} (h : ∀ i (h : i < l.length), p l[i] = false) : l.any p = false := by
  have := any_take_false (k := l.length) (fun i hi _ => h i hi) (Nat.le_refl _)
  rwa [List.take_length] at this
theorem any_at_true {α : Type} {p : α → Bool} {l : List α} (i : Nat) (hi : i < l.length) (h : p l[i] = true) : l.any p = true := List.any_eq_true.2 ⟨_, List.getElem_mem hi, h⟩
theorem any_take_true {α : Type} {p : α → Bool} {l : List α} (i k : Nat) (hi : i < k) (hk : k ≤ l.length) (h : p (l[i]'(by omega)) = true) : (l.take k).any p = true :=
  List.any_eq_true.2 ⟨_, List.mem_take_iff_getElem.2 ⟨i, by omega, rfl⟩, h⟩

theorem RightR_does {I : Imm} {v : Value} {gs : List Sy} (hv : RepG I v gs) :
    Does Try.prog 61 [v] I [] (fun v _ δ' => v = .bool (rightG gs) ∧ δ' = []) := by
  obtain ⟨ad, c, rfl⟩ := hv.shape
  obtain ⟨_, hc, hb, hat, hok⟩ := hv.open
  have hbad : ∀ i (h : i < gs.length), badS (gs.take i) gs[i] = true → rightG gs = false := fun i h hb => by
    cases hr : rightG gs with
    | false => rfl
    | true => rw [rightG_at hr i h] at hb; cases hb
  refine Does.intro Try.func61 rfl Try.ntmps61 rfl fun w0 => ?_
  refine code_seq ?_
  refine code_region ?_
  refine op_v (v_assign rfl) rfl ?_
  refine ops_nil ?_
  refine post_next ?_
  refine code_seq ?_
  refine code_seq ?_
  refine code_region ?_
  refine op_v (v_move rfl) rfl ?_
  refine op_v (v_len Try.underlying22 rfl) rfl ?_
  by_cases h8 : gs.length < 1
  · first | refine op_v (v_cmptA rfl rfl rfl) rfl ?_ | refine op_v (v_cmpfA rfl rfl rfl) rfl ?_ | refine op_v (v_cmp rfl rfl rfl) rfl ?_
    refine op_v (v_move rfl) rfl ?_
    first
      | (refine op_want rfl rfl ?_
         refine op_v (v_move rfl) rfl ?_)
      | (refine op_skip rfl rfl (by simp [undef]) rfl ?_)
    first
      | (refine op_want rfl rfl ?_
         refine op_v (v_len Try.underlying22 rfl) rfl ?_)
      | (refine op_skip rfl rfl (by simp [undef]) rfl ?_)
    first
      | (refine op_want rfl rfl ?_
         first | refine op_v (v_cmptA rfl rfl rfl) rfl ?_ | refine op_v (v_cmpfA rfl rfl rfl) rfl ?_ | refine op_v (v_cmp rfl rfl rfl) rfl ?_)
      | (refine op_skip rfl rfl (by simp [undef]) rfl ?_)
    first | refine op_v (v_pickt rfl rfl) rfl ?_ | refine op_v (v_pickf rfl rfl) rfl ?_ | refine op_v (v_pickb rfl rfl rfl) rfl ?_
    refine ops_nil ?_
    refine post_next ?_
    refine code_cond_t rfl ?_
    refine code_seq ?_
    refine code_region ?_
    refine op_v (v_assign rfl) rfl ?_
    refine ops_nil ?_
    refine post_next ?_
    refine code_ret ?_
    refine post_ret_then ?_
    refine post_ret (rs := [.tmp 2]) rfl (List.Perm.refl _) (.cons (.tmp rfl) .nil) (List.nil_sublist _) ?_
    have : rightG gs = false := by { cases hr : rightG gs; rfl; have := rightG_len hr; omega }
    exact ⟨by rw [this]; rfl, rfl⟩
  · first | refine op_v (v_cmptA rfl rfl rfl) rfl ?_ | refine op_v (v_cmpfA rfl rfl rfl) rfl ?_ | refine op_v (v_cmp rfl rfl rfl) rfl ?_
    refine op_v (v_move rfl) rfl ?_
    first
      | (refine op_want rfl rfl ?_
         refine op_v (v_move rfl) rfl ?_)
      | (refine op_skip rfl rfl (by simp [undef]) rfl ?_)
    first
      | (refine op_want rfl rfl ?_
         refine op_v (v_len Try.underlying22 rfl) rfl ?_)
      | (refine op_skip rfl rfl (by simp [undef]) rfl ?_)
    by_cases h12 : 256 < gs.length
    · first
        | (refine op_want rfl rfl ?_
           first | refine op_v (v_cmptA rfl rfl rfl) rfl ?_ | refine op_v (v_cmpfA rfl rfl rfl) rfl ?_ | refine op_v (v_cmp rfl rfl rfl) rfl ?_)
        | (refine op_skip rfl rfl (by simp [undef]) rfl ?_)
      first | refine op_v (v_pickt rfl rfl) rfl ?_ | refine op_v (v_pickf rfl rfl) rfl ?_ | refine op_v (v_pickb rfl rfl rfl) rfl ?_
      refine ops_nil ?_
      refine post_next ?_
      refine code_cond_t rfl ?_
      refine code_seq ?_
      refine code_region ?_
      refine op_v (v_assign rfl) rfl ?_
      refine ops_nil ?_
      refine post_next ?_
      refine code_ret ?_
      refine post_ret_then ?_
      refine post_ret (rs := [.tmp 2]) rfl (List.Perm.refl _) (.cons (.tmp rfl) .nil) (List.nil_sublist _) ?_
      have : rightG gs = false := by { cases hr : rightG gs; rfl; have := rightG_len hr; omega }
      exact ⟨by rw [this]; rfl, rfl⟩
    · have h0 : 0 < gs.length := by omega
      have hs0 : ad.isSome = true := (hat 0 h0).isSome
      first
        | (refine op_want rfl rfl ?_
           first | refine op_v (v_cmptA rfl rfl rfl) rfl ?_ | refine op_v (v_cmpfA rfl rfl rfl) rfl ?_ | refine op_v (v_cmp rfl rfl rfl) rfl ?_)
        | (refine op_skip rfl rfl (by simp [undef]) rfl ?_)
      first | refine op_v (v_pickt rfl rfl) rfl ?_ | refine op_v (v_pickf rfl rfl) rfl ?_ | refine op_v (v_pickb rfl rfl rfl) rfl ?_
      refine ops_nil ?_
      refine post_next ?_
      refine code_cond_f rfl ?_
      refine code_skip ?_
      refine post_next ?_
      refine code_seq ?_
      refine code_seq ?_
      refine code_region ?_
      refine op_v (v_assign rfl) rfl ?_
      refine ops_nil ?_
      refine post_next ?_
      refine code_block ?_
      refine code_loop (fun m σ' I' δ' => ∃ k : Nat, m = gs.length - k ∧ k ≤ gs.length ∧ σ' = [(0, .slice ad gs.length c), (3, .int .i64 k)] ∧ I = I' ∧ δ' = [] ∧ ∀ i (h : i < gs.length), i < k → badS (gs.take i) gs[i] = false) gs.length [(0, .slice ad gs.length c), (3, .int .i64 (0 : Nat))] ⟨0, rfl, Nat.zero_le _, rfl, rfl, rfl, fun i _ h => by omega⟩ ⟨rfl, rfl, trivial⟩ ?_
      rintro m _ _ _ ⟨k, rfl, hk, rfl, rfl, rfl, hp⟩
      refine code_seq ?_
      refine code_seq ?_
      refine code_region ?_
      refine op_v (v_move rfl) rfl ?_
      refine op_v (v_move rfl) rfl ?_
      refine op_v (v_len Try.underlying22 rfl) rfl ?_
      first | refine op_v (v_cmptA rfl rfl rfl) rfl ?_ | refine op_v (v_cmpfA rfl rfl rfl) rfl ?_ | refine op_v (v_cmp rfl rfl rfl) rfl ?_
      refine ops_nil ?_
      refine post_next ?_
      refine code_cond rfl (fun hc1 => ?_) (fun hc1 => ?_)
      · have hlt : k < gs.length := by simpa using hc1
        have hs1 := (hat k hlt).isSome
        refine code_skip ?_
        refine post_next ?_
        refine code_seq ?_
        refine code_block ?_
        refine code_seq ?_
        refine code_region ?_
        refine op_v (v_move rfl) rfl ?_
        refine op_v (v_move rfl) rfl ?_
        first | refine op_v (v_indexA Try.underlying22 sz71 rfl rfl) rfl ?_ | refine op_v (v_indexIA Try.underlying22 sz71 rfl rfl) rfl ?_
        first | refine op_v (v_loadI0 ty71 (hat k hlt) rfl rfl rfl) rfl ?_ | refine op_v (v_loadI ty71 (hat k hlt) rfl rfl rfl) rfl ?_
        refine o_alloc z71 rfl rfl (fun b4 => ?_)
        refine o_store ty71 rfl rfl rfl rfl rfl (by repeat (first | exact Swap.here | apply Swap.there)) rfl ?_
        refine ops_nil ?_
        refine post_next ?_
        refine code_seq ?_
        refine code_seq ?_
        refine code_region ?_
        first | refine op_v (v_fieldB 0 Try.underlying71 rfl rfl fz9 rfl) rfl ?_ | refine op_v (v_fieldI 0 Try.underlying71 rfl rfl fz9 rfl (by assumption)) rfl ?_ | refine op_v (v_field Try.underlying71 rfl fz9 rfl rfl) rfl ?_
        refine op_v (v_loadA ty9 rfl rfl) rfl ?_
        refine op_v (v_lens Try.underlying9 rfl) rfl ?_
        by_cases h27 : gs[k].name.size < 1
        · first | refine op_v (v_cmptA rfl rfl rfl) rfl ?_ | refine op_v (v_cmpfA rfl rfl rfl) rfl ?_ | refine op_v (v_cmp rfl rfl rfl) rfl ?_
          refine op_v (v_move rfl) rfl ?_
          first
            | (refine op_want rfl rfl ?_
               first | refine op_v (v_fieldB 0 Try.underlying71 rfl rfl fz9 rfl) rfl ?_ | refine op_v (v_fieldI 0 Try.underlying71 rfl rfl fz9 rfl (by assumption)) rfl ?_ | refine op_v (v_field Try.underlying71 rfl fz9 rfl rfl) rfl ?_)
            | (refine op_skip rfl rfl (by simp [undef]) rfl ?_)
          first
            | (refine op_want rfl rfl ?_
               refine op_v (v_loadA ty9 rfl rfl) rfl ?_)
            | (refine op_skip rfl rfl (by simp [undef]) rfl ?_)
          first
            | (refine op_want rfl rfl ?_
               refine op_v (v_lens Try.underlying9 rfl) rfl ?_)
            | (refine op_skip rfl rfl (by simp [undef]) rfl ?_)
          first
            | (refine op_want rfl rfl ?_
               first | refine op_v (v_cmptA rfl rfl rfl) rfl ?_ | refine op_v (v_cmpfA rfl rfl rfl) rfl ?_ | refine op_v (v_cmp rfl rfl rfl) rfl ?_)
            | (refine op_skip rfl rfl (by simp [undef]) rfl ?_)
          first | refine op_v (v_pickt rfl rfl) rfl ?_ | refine op_v (v_pickf rfl rfl) rfl ?_ | refine op_v (v_pickb rfl rfl rfl) rfl ?_
          refine op_v (v_move rfl) rfl ?_
          first
            | (refine op_want rfl rfl ?_
               first | refine op_v (v_fieldB 1 Try.underlying71 rfl rfl fz3 rfl) rfl ?_ | refine op_v (v_fieldI 1 Try.underlying71 rfl rfl fz3 rfl (by assumption)) rfl ?_ | refine op_v (v_field Try.underlying71 rfl fz3 rfl rfl) rfl ?_)
            | (refine op_skip rfl rfl (by simp [undef]) rfl ?_)
          first
            | (refine op_want rfl rfl ?_
               refine op_v (v_loadA ty3 rfl rfl) rfl ?_)
            | (refine op_skip rfl rfl (by simp [undef]) rfl ?_)
          first
            | (refine op_want rfl rfl ?_
               first | refine op_v (v_cmptA rfl rfl rfl) rfl ?_ | refine op_v (v_cmpfA rfl rfl rfl) rfl ?_ | refine op_v (v_cmp rfl rfl rfl) rfl ?_)
            | (refine op_skip rfl rfl (by simp [undef]) rfl ?_)
          first | refine op_v (v_pickt rfl rfl) rfl ?_ | refine op_v (v_pickf rfl rfl) rfl ?_ | refine op_v (v_pickb rfl rfl rfl) rfl ?_
          refine op_v (v_move rfl) rfl ?_
          first
            | (refine op_want rfl rfl ?_
               first | refine op_v (v_fieldB 1 Try.underlying71 rfl rfl fz3 rfl) rfl ?_ | refine op_v (v_fieldI 1 Try.underlying71 rfl rfl fz3 rfl (by assumption)) rfl ?_ | refine op_v (v_field Try.underlying71 rfl fz3 rfl rfl) rfl ?_)
            | (refine op_skip rfl rfl (by simp [undef]) rfl ?_)
          first
            | (refine op_want rfl rfl ?_
               refine op_v (v_loadA ty3 rfl rfl) rfl ?_)
            | (refine op_skip rfl rfl (by simp [undef]) rfl ?_)
          first
            | (refine op_want rfl rfl ?_
               first | refine op_v (v_cmptA rfl rfl rfl) rfl ?_ | refine op_v (v_cmpfA rfl rfl rfl) rfl ?_ | refine op_v (v_cmp rfl rfl rfl) rfl ?_)
            | (refine op_skip rfl rfl (by simp [undef]) rfl ?_)
          first | refine op_v (v_pickt rfl rfl) rfl ?_ | refine op_v (v_pickf rfl rfl) rfl ?_ | refine op_v (v_pickb rfl rfl rfl) rfl ?_
          refine op_v (v_move rfl) rfl ?_
          first
            | (refine op_want rfl rfl ?_
               first | refine op_v (v_fieldB 2 Try.underlying71 rfl rfl fz3 rfl) rfl ?_ | refine op_v (v_fieldI 2 Try.underlying71 rfl rfl fz3 rfl (by assumption)) rfl ?_ | refine op_v (v_field Try.underlying71 rfl fz3 rfl rfl) rfl ?_)
            | (refine op_skip rfl rfl (by simp [undef]) rfl ?_)
          first
            | (refine op_want rfl rfl ?_
               refine op_v (v_loadA ty3 rfl rfl) rfl ?_)
            | (refine op_skip rfl rfl (by simp [undef]) rfl ?_)
          first
            | (refine op_want rfl rfl ?_
               first | refine op_v (v_cmptA rfl rfl rfl) rfl ?_ | refine op_v (v_cmpfA rfl rfl rfl) rfl ?_ | refine op_v (v_cmp rfl rfl rfl) rfl ?_)
            | (refine op_skip rfl rfl (by simp [undef]) rfl ?_)
          first | refine op_v (v_pickt rfl rfl) rfl ?_ | refine op_v (v_pickf rfl rfl) rfl ?_ | refine op_v (v_pickb rfl rfl rfl) rfl ?_
          refine op_v (v_move rfl) rfl ?_
          first
            | (refine op_want rfl rfl ?_
               first | refine op_v (v_fieldB 2 Try.underlying71 rfl rfl fz3 rfl) rfl ?_ | refine op_v (v_fieldI 2 Try.underlying71 rfl rfl fz3 rfl (by assumption)) rfl ?_ | refine op_v (v_field Try.underlying71 rfl fz3 rfl rfl) rfl ?_)
            | (refine op_skip rfl rfl (by simp [undef]) rfl ?_)
          first
            | (refine op_want rfl rfl ?_
               refine op_v (v_loadA ty3 rfl rfl) rfl ?_)
            | (refine op_skip rfl rfl (by simp [undef]) rfl ?_)
          first
            | (refine op_want rfl rfl ?_
               first | refine op_v (v_cmptA rfl rfl rfl) rfl ?_ | refine op_v (v_cmpfA rfl rfl rfl) rfl ?_ | refine op_v (v_cmp rfl rfl rfl) rfl ?_)
            | (refine op_skip rfl rfl (by simp [undef]) rfl ?_)
          first | refine op_v (v_pickt rfl rfl) rfl ?_ | refine op_v (v_pickf rfl rfl) rfl ?_ | refine op_v (v_pickb rfl rfl rfl) rfl ?_
          refine ops_nil ?_
          refine post_next ?_
          refine code_cond_t rfl ?_
          refine code_seq ?_
          refine code_region ?_
          refine op_v (v_assign rfl) rfl ?_
          refine ops_nil ?_
          refine post_next ?_
          refine code_ret ?_
          refine post_ret_then ?_
          refine post_ret_block ?_
          refine post_ret_then ?_
          refine post_ret_then ?_
          refine post_ret_block ?_
          refine post_ret_then ?_
          refine post_ret (rs := [.tmp 2]) rfl (List.Perm.refl _) (.cons (.tmp rfl) .nil) (List.nil_sublist _) ?_
          exact ⟨by rw [hbad k hlt (by unfold badS; rw [nmEq_nil.2 h27]; rfl)]; rfl, rfl⟩
        · first | refine op_v (v_cmptA rfl rfl rfl) rfl ?_ | refine op_v (v_cmpfA rfl rfl rfl) rfl ?_ | refine op_v (v_cmp rfl rfl rfl) rfl ?_
          refine op_v (v_move rfl) rfl ?_
          first
            | (refine op_want rfl rfl ?_
               first | refine op_v (v_fieldB 0 Try.underlying71 rfl rfl fz9 rfl) rfl ?_ | refine op_v (v_fieldI 0 Try.underlying71 rfl rfl fz9 rfl (by assumption)) rfl ?_ | refine op_v (v_field Try.underlying71 rfl fz9 rfl rfl) rfl ?_)
            | (refine op_skip rfl rfl (by simp [undef]) rfl ?_)
          first
            | (refine op_want rfl rfl ?_
               refine op_v (v_loadA ty9 rfl rfl) rfl ?_)
            | (refine op_skip rfl rfl (by simp [undef]) rfl ?_)
          first
            | (refine op_want rfl rfl ?_
               refine op_v (v_lens Try.underlying9 rfl) rfl ?_)
            | (refine op_skip rfl rfl (by simp [undef]) rfl ?_)
          by_cases h32 : 64 < gs[k].name.size
          · first
              | (refine op_want rfl rfl ?_
                 first | refine op_v (v_cmptA rfl rfl rfl) rfl ?_ | refine op_v (v_cmpfA rfl rfl rfl) rfl ?_ | refine op_v (v_cmp rfl rfl rfl) rfl ?_)
              | (refine op_skip rfl rfl (by simp [undef]) rfl ?_)
            first | refine op_v (v_pickt rfl rfl) rfl ?_ | refine op_v (v_pickf rfl rfl) rfl ?_ | refine op_v (v_pickb rfl rfl rfl) rfl ?_
            refine op_v (v_move rfl) rfl ?_
            first
              | (refine op_want rfl rfl ?_
                 first | refine op_v (v_fieldB 1 Try.underlying71 rfl rfl fz3 rfl) rfl ?_ | refine op_v (v_fieldI 1 Try.underlying71 rfl rfl fz3 rfl (by assumption)) rfl ?_ | refine op_v (v_field Try.underlying71 rfl fz3 rfl rfl) rfl ?_)
              | (refine op_skip rfl rfl (by simp [undef]) rfl ?_)
            first
              | (refine op_want rfl rfl ?_
                 refine op_v (v_loadA ty3 rfl rfl) rfl ?_)
              | (refine op_skip rfl rfl (by simp [undef]) rfl ?_)
            first
              | (refine op_want rfl rfl ?_
                 first | refine op_v (v_cmptA rfl rfl rfl) rfl ?_ | refine op_v (v_cmpfA rfl rfl rfl) rfl ?_ | refine op_v (v_cmp rfl rfl rfl) rfl ?_)
              | (refine op_skip rfl rfl (by simp [undef]) rfl ?_)
            first | refine op_v (v_pickt rfl rfl) rfl ?_ | refine op_v (v_pickf rfl rfl) rfl ?_ | refine op_v (v_pickb rfl rfl rfl) rfl ?_
            refine op_v (v_move rfl) rfl ?_
            first
              | (refine op_want rfl rfl ?_
                 first | refine op_v (v_fieldB 1 Try.underlying71 rfl rfl fz3 rfl) rfl ?_ | refine op_v (v_fieldI 1 Try.underlying71 rfl rfl fz3 rfl (by assumption)) rfl ?_ | refine op_v (v_field Try.underlying71 rfl fz3 rfl rfl) rfl ?_)
              | (refine op_skip rfl rfl (by simp [undef]) rfl ?_)
            first
              | (refine op_want rfl rfl ?_
                 refine op_v (v_loadA ty3 rfl rfl) rfl ?_)
              | (refine op_skip rfl rfl (by simp [undef]) rfl ?_)
            first
              | (refine op_want rfl rfl ?_
                 first | refine op_v (v_cmptA rfl rfl rfl) rfl ?_ | refine op_v (v_cmpfA rfl rfl rfl) rfl ?_ | refine op_v (v_cmp rfl rfl rfl) rfl ?_)
              | (refine op_skip rfl rfl (by simp [undef]) rfl ?_)
            first | refine op_v (v_pickt rfl rfl) rfl ?_ | refine op_v (v_pickf rfl rfl) rfl ?_ | refine op_v (v_pickb rfl rfl rfl) rfl ?_
            refine op_v (v_move rfl) rfl ?_
            first
              | (refine op_want rfl rfl ?_
                 first | refine op_v (v_fieldB 2 Try.underlying71 rfl rfl fz3 rfl) rfl ?_ | refine op_v (v_fieldI 2 Try.underlying71 rfl rfl fz3 rfl (by assumption)) rfl ?_ | refine op_v (v_field Try.underlying71 rfl fz3 rfl rfl) rfl ?_)
              | (refine op_skip rfl rfl (by simp [undef]) rfl ?_)
            first
              | (refine op_want rfl rfl ?_
                 refine op_v (v_loadA ty3 rfl rfl) rfl ?_)
              | (refine op_skip rfl rfl (by simp [undef]) rfl ?_)
            first
              | (refine op_want rfl rfl ?_
                 first | refine op_v (v_cmptA rfl rfl rfl) rfl ?_ | refine op_v (v_cmpfA rfl rfl rfl) rfl ?_ | refine op_v (v_cmp rfl rfl rfl) rfl ?_)
              | (refine op_skip rfl rfl (by simp [undef]) rfl ?_)
            first | refine op_v (v_pickt rfl rfl) rfl ?_ | refine op_v (v_pickf rfl rfl) rfl ?_ | refine op_v (v_pickb rfl rfl rfl) rfl ?_
            refine op_v (v_move rfl) rfl ?_
            first
              | (refine op_want rfl rfl ?_
                 first | refine op_v (v_fieldB 2 Try.underlying71 rfl rfl fz3 rfl) rfl ?_ | refine op_v (v_fieldI 2 Try.underlying71 rfl rfl fz3 rfl (by assumption)) rfl ?_ | refine op_v (v_field Try.underlying71 rfl fz3 rfl rfl) rfl ?_)
              | (refine op_skip rfl rfl (by simp [undef]) rfl ?_)
            first
              | (refine op_want rfl rfl ?_
                 refine op_v (v_loadA ty3 rfl rfl) rfl ?_)
              | (refine op_skip rfl rfl (by simp [undef]) rfl ?_)
            first
              | (refine op_want rfl rfl ?_
                 first | refine op_v (v_cmptA rfl rfl rfl) rfl ?_ | refine op_v (v_cmpfA rfl rfl rfl) rfl ?_ | refine op_v (v_cmp rfl rfl rfl) rfl ?_)
              | (refine op_skip rfl rfl (by simp [undef]) rfl ?_)
            first | refine op_v (v_pickt rfl rfl) rfl ?_ | refine op_v (v_pickf rfl rfl) rfl ?_ | refine op_v (v_pickb rfl rfl rfl) rfl ?_
            refine ops_nil ?_
            refine post_next ?_
            refine code_cond_t rfl ?_
            refine code_seq ?_
            refine code_region ?_
            refine op_v (v_assign rfl) rfl ?_
            refine ops_nil ?_
            refine post_next ?_
            refine code_ret ?_
            refine post_ret_then ?_
            refine post_ret_block ?_
            refine post_ret_then ?_
            refine post_ret_then ?_
            refine post_ret_block ?_
            refine post_ret_then ?_
            refine post_ret (rs := [.tmp 2]) rfl (List.Perm.refl _) (.cons (.tmp rfl) .nil) (List.nil_sublist _) ?_
            exact ⟨by rw [hbad k hlt (by simp [badS, h32])]; rfl, rfl⟩
          · first
              | (refine op_want rfl rfl ?_
                 first | refine op_v (v_cmptA rfl rfl rfl) rfl ?_ | refine op_v (v_cmpfA rfl rfl rfl) rfl ?_ | refine op_v (v_cmp rfl rfl rfl) rfl ?_)
              | (refine op_skip rfl rfl (by simp [undef]) rfl ?_)
            first | refine op_v (v_pickt rfl rfl) rfl ?_ | refine op_v (v_pickf rfl rfl) rfl ?_ | refine op_v (v_pickb rfl rfl rfl) rfl ?_
            refine op_v (v_move rfl) rfl ?_
            first
              | (refine op_want rfl rfl ?_
                 first | refine op_v (v_fieldB 1 Try.underlying71 rfl rfl fz3 rfl) rfl ?_ | refine op_v (v_fieldI 1 Try.underlying71 rfl rfl fz3 rfl (by assumption)) rfl ?_ | refine op_v (v_field Try.underlying71 rfl fz3 rfl rfl) rfl ?_)
              | (refine op_skip rfl rfl (by simp [undef]) rfl ?_)
            first
              | (refine op_want rfl rfl ?_
                 refine op_v (v_loadA ty3 rfl rfl) rfl ?_)
              | (refine op_skip rfl rfl (by simp [undef]) rfl ?_)
            by_cases h37 : gs[k].ar < 0
            · first
                | (refine op_want rfl rfl ?_
                   first | refine op_v (v_cmptA rfl rfl rfl) rfl ?_ | refine op_v (v_cmpfA rfl rfl rfl) rfl ?_ | refine op_v (v_cmp rfl rfl rfl) rfl ?_)
                | (refine op_skip rfl rfl (by simp [undef]) rfl ?_)
              first | refine op_v (v_pickt rfl rfl) rfl ?_ | refine op_v (v_pickf rfl rfl) rfl ?_ | refine op_v (v_pickb rfl rfl rfl) rfl ?_
              refine op_v (v_move rfl) rfl ?_
              first
                | (refine op_want rfl rfl ?_
                   first | refine op_v (v_fieldB 1 Try.underlying71 rfl rfl fz3 rfl) rfl ?_ | refine op_v (v_fieldI 1 Try.underlying71 rfl rfl fz3 rfl (by assumption)) rfl ?_ | refine op_v (v_field Try.underlying71 rfl fz3 rfl rfl) rfl ?_)
                | (refine op_skip rfl rfl (by simp [undef]) rfl ?_)
              first
                | (refine op_want rfl rfl ?_
                   refine op_v (v_loadA ty3 rfl rfl) rfl ?_)
                | (refine op_skip rfl rfl (by simp [undef]) rfl ?_)
              first
                | (refine op_want rfl rfl ?_
                   first | refine op_v (v_cmptA rfl rfl rfl) rfl ?_ | refine op_v (v_cmpfA rfl rfl rfl) rfl ?_ | refine op_v (v_cmp rfl rfl rfl) rfl ?_)
                | (refine op_skip rfl rfl (by simp [undef]) rfl ?_)
              first | refine op_v (v_pickt rfl rfl) rfl ?_ | refine op_v (v_pickf rfl rfl) rfl ?_ | refine op_v (v_pickb rfl rfl rfl) rfl ?_
              refine op_v (v_move rfl) rfl ?_
              first
                | (refine op_want rfl rfl ?_
                   first | refine op_v (v_fieldB 2 Try.underlying71 rfl rfl fz3 rfl) rfl ?_ | refine op_v (v_fieldI 2 Try.underlying71 rfl rfl fz3 rfl (by assumption)) rfl ?_ | refine op_v (v_field Try.underlying71 rfl fz3 rfl rfl) rfl ?_)
                | (refine op_skip rfl rfl (by simp [undef]) rfl ?_)
              first
                | (refine op_want rfl rfl ?_
                   refine op_v (v_loadA ty3 rfl rfl) rfl ?_)
                | (refine op_skip rfl rfl (by simp [undef]) rfl ?_)
              first
                | (refine op_want rfl rfl ?_
                   first | refine op_v (v_cmptA rfl rfl rfl) rfl ?_ | refine op_v (v_cmpfA rfl rfl rfl) rfl ?_ | refine op_v (v_cmp rfl rfl rfl) rfl ?_)
                | (refine op_skip rfl rfl (by simp [undef]) rfl ?_)
              first | refine op_v (v_pickt rfl rfl) rfl ?_ | refine op_v (v_pickf rfl rfl) rfl ?_ | refine op_v (v_pickb rfl rfl rfl) rfl ?_
              refine op_v (v_move rfl) rfl ?_
              first
                | (refine op_want rfl rfl ?_
                   first | refine op_v (v_fieldB 2 Try.underlying71 rfl rfl fz3 rfl) rfl ?_ | refine op_v (v_fieldI 2 Try.underlying71 rfl rfl fz3 rfl (by assumption)) rfl ?_ | refine op_v (v_field Try.underlying71 rfl fz3 rfl rfl) rfl ?_)
                | (refine op_skip rfl rfl (by simp [undef]) rfl ?_)
              first
                | (refine op_want rfl rfl ?_
                   refine op_v (v_loadA ty3 rfl rfl) rfl ?_)
                | (refine op_skip rfl rfl (by simp [undef]) rfl ?_)
              first
                | (refine op_want rfl rfl ?_
                   first | refine op_v (v_cmptA rfl rfl rfl) rfl ?_ | refine op_v (v_cmpfA rfl rfl rfl) rfl ?_ | refine op_v (v_cmp rfl rfl rfl) rfl ?_)
                | (refine op_skip rfl rfl (by simp [undef]) rfl ?_)
              first | refine op_v (v_pickt rfl rfl) rfl ?_ | refine op_v (v_pickf rfl rfl) rfl ?_ | refine op_v (v_pickb rfl rfl rfl) rfl ?_
              refine ops_nil ?_
              refine post_next ?_
              refine code_cond_t rfl ?_
              refine code_seq ?_
              refine code_region ?_
              refine op_v (v_assign rfl) rfl ?_
              refine ops_nil ?_
              refine post_next ?_
              refine code_ret ?_
              refine post_ret_then ?_
              refine post_ret_block ?_
              refine post_ret_then ?_
              refine post_ret_then ?_
              refine post_ret_block ?_
              refine post_ret_then ?_
              refine post_ret (rs := [.tmp 2]) rfl (List.Perm.refl _) (.cons (.tmp rfl) .nil) (List.nil_sublist _) ?_
              exact ⟨by rw [hbad k hlt (by simp [badS, h37])]; rfl, rfl⟩
            · first
                | (refine op_want rfl rfl ?_
                   first | refine op_v (v_cmptA rfl rfl rfl) rfl ?_ | refine op_v (v_cmpfA rfl rfl rfl) rfl ?_ | refine op_v (v_cmp rfl rfl rfl) rfl ?_)
                | (refine op_skip rfl rfl (by simp [undef]) rfl ?_)
              first | refine op_v (v_pickt rfl rfl) rfl ?_ | refine op_v (v_pickf rfl rfl) rfl ?_ | refine op_v (v_pickb rfl rfl rfl) rfl ?_
              refine op_v (v_move rfl) rfl ?_
              first
                | (refine op_want rfl rfl ?_
                   first | refine op_v (v_fieldB 1 Try.underlying71 rfl rfl fz3 rfl) rfl ?_ | refine op_v (v_fieldI 1 Try.underlying71 rfl rfl fz3 rfl (by assumption)) rfl ?_ | refine op_v (v_field Try.underlying71 rfl fz3 rfl rfl) rfl ?_)
                | (refine op_skip rfl rfl (by simp [undef]) rfl ?_)
              first
                | (refine op_want rfl rfl ?_
                   refine op_v (v_loadA ty3 rfl rfl) rfl ?_)
                | (refine op_skip rfl rfl (by simp [undef]) rfl ?_)
              by_cases h42 : 8 < gs[k].ar
              · first
                  | (refine op_want rfl rfl ?_
                     first | refine op_v (v_cmptA rfl rfl rfl) rfl ?_ | refine op_v (v_cmpfA rfl rfl rfl) rfl ?_ | refine op_v (v_cmp rfl rfl rfl) rfl ?_)
                  | (refine op_skip rfl rfl (by simp [undef]) rfl ?_)
                first | refine op_v (v_pickt rfl rfl) rfl ?_ | refine op_v (v_pickf rfl rfl) rfl ?_ | refine op_v (v_pickb rfl rfl rfl) rfl ?_
                refine op_v (v_move rfl) rfl ?_
                first
                  | (refine op_want rfl rfl ?_
                     first | refine op_v (v_fieldB 2 Try.underlying71 rfl rfl fz3 rfl) rfl ?_ | refine op_v (v_fieldI 2 Try.underlying71 rfl rfl fz3 rfl (by assumption)) rfl ?_ | refine op_v (v_field Try.underlying71 rfl fz3 rfl rfl) rfl ?_)
                  | (refine op_skip rfl rfl (by simp [undef]) rfl ?_)
                first
                  | (refine op_want rfl rfl ?_
                     refine op_v (v_loadA ty3 rfl rfl) rfl ?_)
                  | (refine op_skip rfl rfl (by simp [undef]) rfl ?_)
                first
                  | (refine op_want rfl rfl ?_
                     first | refine op_v (v_cmptA rfl rfl rfl) rfl ?_ | refine op_v (v_cmpfA rfl rfl rfl) rfl ?_ | refine op_v (v_cmp rfl rfl rfl) rfl ?_)
                  | (refine op_skip rfl rfl (by simp [undef]) rfl ?_)
                first | refine op_v (v_pickt rfl rfl) rfl ?_ | refine op_v (v_pickf rfl rfl) rfl ?_ | refine op_v (v_pickb rfl rfl rfl) rfl ?_
                refine op_v (v_move rfl) rfl ?_
                first
                  | (refine op_want rfl rfl ?_
                     first | refine op_v (v_fieldB 2 Try.underlying71 rfl rfl fz3 rfl) rfl ?_ | refine op_v (v_fieldI 2 Try.underlying71 rfl rfl fz3 rfl (by assumption)) rfl ?_ | refine op_v (v_field Try.underlying71 rfl fz3 rfl rfl) rfl ?_)
                  | (refine op_skip rfl rfl (by simp [undef]) rfl ?_)
                first
                  | (refine op_want rfl rfl ?_
                     refine op_v (v_loadA ty3 rfl rfl) rfl ?_)
                  | (refine op_skip rfl rfl (by simp [undef]) rfl ?_)
                first
                  | (refine op_want rfl rfl ?_
                     first | refine op_v (v_cmptA rfl rfl rfl) rfl ?_ | refine op_v (v_cmpfA rfl rfl rfl) rfl ?_ | refine op_v (v_cmp rfl rfl rfl) rfl ?_)
                  | (refine op_skip rfl rfl (by simp [undef]) rfl ?_)
                first | refine op_v (v_pickt rfl rfl) rfl ?_ | refine op_v (v_pickf rfl rfl) rfl ?_ | refine op_v (v_pickb rfl rfl rfl) rfl ?_
                refine ops_nil ?_
                refine post_next ?_
                refine code_cond_t rfl ?_
                refine code_seq ?_
                refine code_region ?_
                refine op_v (v_assign rfl) rfl ?_
                refine ops_nil ?_
                refine post_next ?_
                refine code_ret ?_
                refine post_ret_then ?_
                refine post_ret_block ?_
                refine post_ret_then ?_
                refine post_ret_then ?_
                refine post_ret_block ?_
                refine post_ret_then ?_
                refine post_ret (rs := [.tmp 2]) rfl (List.Perm.refl _) (.cons (.tmp rfl) .nil) (List.nil_sublist _) ?_
                exact ⟨by rw [hbad k hlt (by simp [badS, h42])]; rfl, rfl⟩
              · first
                  | (refine op_want rfl rfl ?_
                     first | refine op_v (v_cmptA rfl rfl rfl) rfl ?_ | refine op_v (v_cmpfA rfl rfl rfl) rfl ?_ | refine op_v (v_cmp rfl rfl rfl) rfl ?_)
                  | (refine op_skip rfl rfl (by simp [undef]) rfl ?_)
                first | refine op_v (v_pickt rfl rfl) rfl ?_ | refine op_v (v_pickf rfl rfl) rfl ?_ | refine op_v (v_pickb rfl rfl rfl) rfl ?_
                refine op_v (v_move rfl) rfl ?_
                first
                  | (refine op_want rfl rfl ?_
                     first | refine op_v (v_fieldB 2 Try.underlying71 rfl rfl fz3 rfl) rfl ?_ | refine op_v (v_fieldI 2 Try.underlying71 rfl rfl fz3 rfl (by assumption)) rfl ?_ | refine op_v (v_field Try.underlying71 rfl fz3 rfl rfl) rfl ?_)
                  | (refine op_skip rfl rfl (by simp [undef]) rfl ?_)
                first
                  | (refine op_want rfl rfl ?_
                     refine op_v (v_loadA ty3 rfl rfl) rfl ?_)
                  | (refine op_skip rfl rfl (by simp [undef]) rfl ?_)
                by_cases h47 : gs[k].wt < 1
                · first
                    | (refine op_want rfl rfl ?_
                       first | refine op_v (v_cmptA rfl rfl rfl) rfl ?_ | refine op_v (v_cmpfA rfl rfl rfl) rfl ?_ | refine op_v (v_cmp rfl rfl rfl) rfl ?_)
                    | (refine op_skip rfl rfl (by simp [undef]) rfl ?_)
                  first | refine op_v (v_pickt rfl rfl) rfl ?_ | refine op_v (v_pickf rfl rfl) rfl ?_ | refine op_v (v_pickb rfl rfl rfl) rfl ?_
                  refine op_v (v_move rfl) rfl ?_
                  first
                    | (refine op_want rfl rfl ?_
                       first | refine op_v (v_fieldB 2 Try.underlying71 rfl rfl fz3 rfl) rfl ?_ | refine op_v (v_fieldI 2 Try.underlying71 rfl rfl fz3 rfl (by assumption)) rfl ?_ | refine op_v (v_field Try.underlying71 rfl fz3 rfl rfl) rfl ?_)
                    | (refine op_skip rfl rfl (by simp [undef]) rfl ?_)
                  first
                    | (refine op_want rfl rfl ?_
                       refine op_v (v_loadA ty3 rfl rfl) rfl ?_)
                    | (refine op_skip rfl rfl (by simp [undef]) rfl ?_)
                  first
                    | (refine op_want rfl rfl ?_
                       first | refine op_v (v_cmptA rfl rfl rfl) rfl ?_ | refine op_v (v_cmpfA rfl rfl rfl) rfl ?_ | refine op_v (v_cmp rfl rfl rfl) rfl ?_)
                    | (refine op_skip rfl rfl (by simp [undef]) rfl ?_)
                  first | refine op_v (v_pickt rfl rfl) rfl ?_ | refine op_v (v_pickf rfl rfl) rfl ?_ | refine op_v (v_pickb rfl rfl rfl) rfl ?_
                  refine ops_nil ?_
                  refine post_next ?_
                  refine code_cond_t rfl ?_
                  refine code_seq ?_
                  refine code_region ?_
                  refine op_v (v_assign rfl) rfl ?_
                  refine ops_nil ?_
                  refine post_next ?_
                  refine code_ret ?_
                  refine post_ret_then ?_
                  refine post_ret_block ?_
                  refine post_ret_then ?_
                  refine post_ret_then ?_
                  refine post_ret_block ?_
                  refine post_ret_then ?_
                  refine post_ret (rs := [.tmp 2]) rfl (List.Perm.refl _) (.cons (.tmp rfl) .nil) (List.nil_sublist _) ?_
                  exact ⟨by rw [hbad k hlt (by simp [badS, h47])]; rfl, rfl⟩
                · first
                    | (refine op_want rfl rfl ?_
                       first | refine op_v (v_cmptA rfl rfl rfl) rfl ?_ | refine op_v (v_cmpfA rfl rfl rfl) rfl ?_ | refine op_v (v_cmp rfl rfl rfl) rfl ?_)
                    | (refine op_skip rfl rfl (by simp [undef]) rfl ?_)
                  first | refine op_v (v_pickt rfl rfl) rfl ?_ | refine op_v (v_pickf rfl rfl) rfl ?_ | refine op_v (v_pickb rfl rfl rfl) rfl ?_
                  refine op_v (v_move rfl) rfl ?_
                  first
                    | (refine op_want rfl rfl ?_
                       first | refine op_v (v_fieldB 2 Try.underlying71 rfl rfl fz3 rfl) rfl ?_ | refine op_v (v_fieldI 2 Try.underlying71 rfl rfl fz3 rfl (by assumption)) rfl ?_ | refine op_v (v_field Try.underlying71 rfl fz3 rfl rfl) rfl ?_)
                    | (refine op_skip rfl rfl (by simp [undef]) rfl ?_)
                  first
                    | (refine op_want rfl rfl ?_
                       refine op_v (v_loadA ty3 rfl rfl) rfl ?_)
                    | (refine op_skip rfl rfl (by simp [undef]) rfl ?_)
                  by_cases h52 : 1000 < gs[k].wt
                  · first
                      | (refine op_want rfl rfl ?_
                         first | refine op_v (v_cmptA rfl rfl rfl) rfl ?_ | refine op_v (v_cmpfA rfl rfl rfl) rfl ?_ | refine op_v (v_cmp rfl rfl rfl) rfl ?_)
                      | (refine op_skip rfl rfl (by simp [undef]) rfl ?_)
                    first | refine op_v (v_pickt rfl rfl) rfl ?_ | refine op_v (v_pickf rfl rfl) rfl ?_ | refine op_v (v_pickb rfl rfl rfl) rfl ?_
                    refine ops_nil ?_
                    refine post_next ?_
                    refine code_cond_t rfl ?_
                    refine code_seq ?_
                    refine code_region ?_
                    refine op_v (v_assign rfl) rfl ?_
                    refine ops_nil ?_
                    refine post_next ?_
                    refine code_ret ?_
                    refine post_ret_then ?_
                    refine post_ret_block ?_
                    refine post_ret_then ?_
                    refine post_ret_then ?_
                    refine post_ret_block ?_
                    refine post_ret_then ?_
                    refine post_ret (rs := [.tmp 2]) rfl (List.Perm.refl _) (.cons (.tmp rfl) .nil) (List.nil_sublist _) ?_
                    exact ⟨by rw [hbad k hlt (by simp [badS, h52])]; rfl, rfl⟩
                  · first
                      | (refine op_want rfl rfl ?_
                         first | refine op_v (v_cmptA rfl rfl rfl) rfl ?_ | refine op_v (v_cmpfA rfl rfl rfl) rfl ?_ | refine op_v (v_cmp rfl rfl rfl) rfl ?_)
                      | (refine op_skip rfl rfl (by simp [undef]) rfl ?_)
                    first | refine op_v (v_pickt rfl rfl) rfl ?_ | refine op_v (v_pickf rfl rfl) rfl ?_ | refine op_v (v_pickb rfl rfl rfl) rfl ?_
                    refine ops_nil ?_
                    refine post_next ?_
                    refine code_cond_f rfl ?_
                    refine code_skip ?_
                    refine post_next ?_
                    refine code_seq ?_
                    refine code_region ?_
                    refine op_v (v_assign rfl) rfl ?_
                    refine ops_nil ?_
                    refine post_next ?_
                    refine code_block ?_
                    refine code_loop (fun m σ' I' δ' => ∃ j : Nat, m = k - j ∧ j ≤ k ∧ σ' = [(0, .slice ad gs.length c), (3, .int .i64 k), (4, .pointer (some ⟨b4, 0, none⟩)), (5, .int .i64 j)] ∧ I = I' ∧ δ' = [.box b4 71 gs[k].cs] ∧ ∀ i (h : i < gs.length), i < j → nmEq gs[i].name gs[k].name = false) k [(0, .slice ad gs.length c), (3, .int .i64 k), (4, .pointer (some ⟨b4, 0, none⟩)), (5, .int .i64 (0 : Nat))] ⟨0, rfl, Nat.zero_le _, rfl, rfl, rfl, fun i _ h => by omega⟩ ⟨rfl, rfl, rfl, rfl, trivial⟩ ?_
                    rintro m _ _ _ ⟨j, rfl, hj, rfl, rfl, rfl, hq⟩
                    refine code_seq ?_
                    refine code_seq ?_
                    refine code_region ?_
                    refine op_v (v_move rfl) rfl ?_
                    refine op_v (v_move rfl) rfl ?_
                    first | refine op_v (v_cmptA rfl rfl rfl) rfl ?_ | refine op_v (v_cmpfA rfl rfl rfl) rfl ?_ | refine op_v (v_cmp rfl rfl rfl) rfl ?_
                    refine ops_nil ?_
                    refine post_next ?_
                    refine code_cond rfl (fun hc3 => ?_) (fun hc3 => ?_)
                    · have hltj : j < k := by simpa using hc3
                      have hltj2 : j < gs.length := by omega
                      have hs2 := (hat j hltj2).isSome
                      refine code_skip ?_
                      refine post_next ?_
                      refine code_seq ?_
                      refine code_block ?_
                      refine code_seq ?_
                      refine code_draw (.fl 0 (.fl 1 (.fl 2 (.fl 3 (.fl 4 (.fl 5 (.fl 6 (.fl 7 .done)))))))) (fun _ => _) mixed (by kernel_rfl) (by kernel_rfl) (fun _ => (List.Sublist.refl _)) ?_
                      refine e_fl rfl rfl (fun hs_ => PF.mk rfl (v_move rfl) hs_) ?_
                      refine e_fl rfl rfl (fun hs_ => PF.mk rfl (v_move rfl) hs_) ?_
                      first | refine e_fl rfl rfl (fun hs_ => PF.mk rfl (v_indexA Try.underlying22 sz71 rfl rfl) hs_) ?_ | refine e_fl rfl rfl (fun hs_ => PF.mk rfl (v_indexIA Try.underlying22 sz71 rfl rfl) hs_) ?_
                      first | refine e_fl rfl rfl (fun hs_ => PF.mk rfl (v_fieldB 0 Try.underlying71 rfl rfl fz9 rfl) hs_) ?_ | refine e_fl rfl rfl (fun hs_ => PF.mk rfl (v_fieldI 0 Try.underlying71 rfl rfl fz9 rfl (by assumption)) hs_) ?_ | refine e_fl rfl rfl (fun hs_ => PF.mk rfl (v_field Try.underlying71 rfl fz9 rfl rfl) hs_) ?_
                      first | refine e_fl rfl rfl (fun hs_ => PF.mk rfl (v_loadI0 ty9 (hat j hltj2) rfl rfl rfl) hs_) ?_ | refine e_fl rfl rfl (fun hs_ => PF.mk rfl (v_loadI ty9 (hat j hltj2) rfl rfl rfl) hs_) ?_
                      first | refine e_fl rfl rfl (fun hs_ => PF.mk rfl (v_fieldB 0 Try.underlying71 rfl rfl fz9 rfl) hs_) ?_ | refine e_fl rfl rfl (fun hs_ => PF.mk rfl (v_fieldI 0 Try.underlying71 rfl rfl fz9 rfl (by assumption)) hs_) ?_ | refine e_fl rfl rfl (fun hs_ => PF.mk rfl (v_field Try.underlying71 rfl fz9 rfl rfl) hs_) ?_
                      refine e_fl rfl rfl (fun hs_ => PF.mk rfl (v_loadA ty9 rfl rfl) hs_) ?_
                      refine e_fl rfl rfl (fun hs_ => PF.mk rfl (v_eqs (z := nmEq gs[j].name gs[k].name) rfl rfl rfl) hs_) ?_
                      refine e_done ?_
                      refine post_next ?_
                      refine code_cond rfl (fun hc4 => ?_) (fun hc4 => ?_)
                      · have h66 : nmEq gs[j].name gs[k].name = true := hc4
                        refine code_seq ?_
                        refine code_region ?_
                        refine op_v (v_assign rfl) rfl ?_
                        refine ops_nil ?_
                        refine post_next ?_
                        refine code_ret ?_
                        refine post_ret_block ?_
                        refine post_ret_then ?_
                        refine post_ret_then ?_
                        refine post_ret_block ?_
                        refine post_ret_block ?_
                        refine post_ret_then ?_
                        refine post_ret_then ?_
                        refine post_ret_block ?_
                        refine post_ret_then ?_
                        refine post_ret (rs := [.tmp 2]) rfl (List.Perm.refl _) (.cons (.tmp rfl) .nil) (List.nil_sublist _) ?_
                        exact ⟨by rw [hbad k hlt (by have hx := any_take_true (p := fun s => nmEq s.name gs[k].name) (l := gs) j k hltj (by omega) h66; unfold badS; rw [hx]; simp)]; rfl, rfl⟩
                      · have h66 : nmEq gs[j].name gs[k].name = false := hc4
                        refine code_skip ?_
                        refine post_out ?_
                        refine post_next ?_
                        refine code_region ?_
                        refine op_v (v_move rfl) rfl ?_
                        first | refine op_v (v_addb rfl rfl rfl (by omega)) rfl ?_ | refine op_v (v_add rfl rfl) rfl ?_
                        refine op_v (v_assign rfl) rfl ?_
                        refine ops_nil ?_
                        refine post_again (k - (j + 1)) [(0, .slice ad gs.length c), (3, .int .i64 k), (4, .pointer (some ⟨b4, 0, none⟩)), (5, .int .i64 (j + 1 : Nat))] (by omega) ⟨j + 1, rfl, hltj, rfl, rfl, rfl, ?_⟩ ⟨rfl, rfl, rfl, rfl, trivial⟩
                        intro i h hi
                        rcases Nat.lt_or_ge i j with hik | hik
                        · exact hq i h hik
                        have hik2 : i = j := by omega
                        subst hik2
                        exact h66
                    · have hgej : j = k := by simp at hc3; omega
                      refine code_exit ?_
                      refine post_exit_then ?_
                      refine post_exit_then ?_
                      refine post_exit ?_
                      refine post_out ?_
                      refine post_next ?_
                      refine code_region ?_
                      refine op_v (v_move rfl) rfl ?_
                      first | refine op_v (v_addb rfl rfl rfl (by omega)) rfl ?_ | refine op_v (v_add rfl rfl) rfl ?_
                      refine op_v (v_assign rfl) rfl ?_
                      refine ops_nil ?_
                      refine PostJ.view View.nil ?_
                      refine post_again (gs.length - (k + 1)) [(0, .slice ad gs.length c), (3, .int .i64 (k + 1 : Nat))] (by omega) ⟨k + 1, rfl, hlt, rfl, rfl, rfl, ?_⟩ ⟨rfl, rfl, trivial⟩
                      intro i h hi
                      rcases Nat.lt_or_ge i k with hik | hik
                      · exact hp i h hik
                      have hik2 : i = k := by omega
                      subst hik2
                      have h35 : nmEq gs[i].name ⟨#[]⟩ = false := by { cases hn : nmEq gs[i].name ⟨#[]⟩; rfl; exact absurd (nmEq_nil.1 hn) h27 }
                      have h43 := any_take_false (p := fun s => nmEq s.name gs[i].name) (k := i) (fun i2 h2 h3 => hq i2 h2 (by omega)) (by omega)
                      unfold badS
                      rw [h35, h43]
                      simp; omega
      · have hge : k = gs.length := by simp at hc1; omega
        refine code_exit ?_
        refine post_exit_then ?_
        refine post_exit_then ?_
        refine post_exit ?_
        refine post_next ?_
        refine code_seq ?_
        refine code_region ?_
        refine op_v (v_move rfl) rfl ?_
        first | refine op_v (v_indexA Try.underlying22 sz71 rfl rfl) rfl ?_ | refine op_v (v_indexIA Try.underlying22 sz71 rfl rfl) rfl ?_
        refine op_v (v_loadI0 (m := 0) ty71 (by have := hat 0 h0; simpa using this) rfl rfl rfl) rfl ?_
        refine op_v (v_build bl71 rfl rfl) rfl ?_
        refine op_v (v_eqSy (a := gs[0]'h0) (b := truthS) (z := syEq (gs[0]'h0) truthS) syTy rfl rfl rfl) rfl ?_
        refine op_v (v_assign rfl) rfl ?_
        refine ops_nil ?_
        refine post_next ?_
        refine code_ret ?_
        refine post_ret (rs := [.tmp 2]) rfl (List.Perm.refl _) (.cons (.tmp rfl) .nil) (List.nil_sublist _) ?_
        have hall : ∀ i (h : i < gs.length), badS (gs.take i) gs[i] = false := fun i h => hp i h (by omega)
        have : rightG gs = syEq (gs[0]'h0) truthS := by
          cases hq : syEq (gs[0]'h0) truthS with
          | true => exact rightG_of h0 (by omega) hq hall
          | false =>
            cases hr : rightG gs with
            | false => rfl
            | true =>
              have h1 := chkG_head h0 (by rw [hq]; simp)
              simp [chkG, hr] at h1
        exact ⟨by rw [this]; rfl, rfl⟩

theorem Depth_does : ∀ (n : Nat) (t : T), t.size ≤ n → t.size ≤ 1000000000 → ∀ (I : Imm) (v : Value), RepT I v t →
    Does Try.prog 124 [v] I [] (fun v I' δ' => v = .int .i64 (depT t) ∧ δ' = []) := by
  intro n
  induction n with
  | zero => intro t ht; have := t.size_pos; omega
  | succ n ih =>
    intro t ht hbig I v hv
    obtain ⟨h, ts⟩ := t
    obtain ⟨ad, c, ss, rfl, hr, hc, hb, hat, hsub⟩ := hv.elim
    have hsz : (T.mk h ts).size = 1 + sizeL ts := by simp [T.size]
    have hds := depT_size (.mk h ts)
    refine Does.intro Try.func124 rfl Try.ntmps124 rfl fun w0 => ?_
    refine code_seq ?_
    refine code_region ?_
    refine o_box rfl rfl rfl (fun b1 => ?_)
    refine op_v (v_assign rfl) rfl ?_
    refine ops_nil ?_
    refine post_next ?_
    refine code_seq ?_
    refine code_region ?_
    refine op_v (v_assign rfl) rfl ?_
    refine ops_nil ?_
    refine post_next ?_
    refine code_seq ?_
    refine code_seq ?_
    refine code_region ?_
    refine op_v (v_assign rfl) rfl ?_
    refine ops_nil ?_
    refine post_next ?_
    refine code_block ?_
    refine code_loop (fun m σ' I' δ' => ∃ k : Nat, m = ts.length - k ∧ k ≤ ts.length ∧ σ' = [(1, .pointer (some ⟨b1, 0, none⟩)), (3, .int .i64 (depL (ts.take k) : Nat)), (4, .int .i64 k)] ∧ I.le I' ∧ δ' = [.box b1 25 [.int .i64 h, .slice ad ts.length c]]) ts.length [(1, .pointer (some ⟨b1, 0, none⟩)), (3, .int .i64 (0 : Nat)), (4, .int .i64 (0 : Nat))] ⟨0, rfl, Nat.zero_le _, rfl, Imm.le_refl _, rfl⟩ ⟨rfl, rfl, rfl, trivial⟩ ?_
    rintro m _ I0 _ ⟨k, rfl, hk, rfl, hI0, rfl⟩
    refine code_seq ?_
    refine code_seq ?_
    refine code_region ?_
    refine op_v (v_move rfl) rfl ?_
    first | refine op_v (v_fieldB 1 Try.underlying25 rfl rfl fz23 rfl) rfl ?_ | refine op_v (v_fieldI 1 Try.underlying25 rfl rfl fz23 rfl (by assumption)) rfl ?_ | refine op_v (v_field Try.underlying25 rfl fz23 rfl rfl) rfl ?_
    refine op_v (v_loadA ty23 rfl rfl) rfl ?_
    refine op_v (v_len Try.underlying23 rfl) rfl ?_
    first | refine op_v (v_cmptA rfl rfl rfl) rfl ?_ | refine op_v (v_cmpfA rfl rfl rfl) rfl ?_ | refine op_v (v_cmp rfl rfl rfl) rfl ?_
    refine ops_nil ?_
    refine post_next ?_
    refine code_cond rfl (fun hc0 => ?_) (fun hc0 => ?_)
    · have hlt : k < ts.length := by simpa using hc0
      have hs1 := (hat k hlt).isSome
      have hm := sizeL_mem ts k hlt
      refine code_skip ?_
      refine post_next ?_
      refine code_seq ?_
      refine code_block ?_
      refine code_region ?_
      refine op_v (v_move rfl) rfl ?_
      first | refine op_v (v_fieldB 1 Try.underlying25 rfl rfl fz23 rfl) rfl ?_ | refine op_v (v_fieldI 1 Try.underlying25 rfl rfl fz23 rfl (by assumption)) rfl ?_ | refine op_v (v_field Try.underlying25 rfl fz23 rfl rfl) rfl ?_
      refine op_v (v_loadA ty23 rfl rfl) rfl ?_
      refine op_v (v_move rfl) rfl ?_
      first | refine op_v (v_indexA Try.underlying23 sz25 rfl rfl) rfl ?_ | refine op_v (v_indexIA Try.underlying23 sz25 rfl rfl) rfl ?_
      first | refine op_v (v_loadI0 ty25 ((hat k hlt).mono hI0) rfl rfl rfl) rfl ?_ | refine op_v (v_loadI ty25 ((hat k hlt).mono hI0) rfl rfl rfl) rfl ?_
      refine op_call pl124 rfl rfl ((ih ts[k] (by omega) (by omega) _ _ ((hsub k hlt).mono hI0))) Parts.none ?_
      rintro _ I18 _ hI18 ⟨rfl, rfl⟩
      refine op_v (v_max rfl rfl) rfl ?_
      refine op_v (v_assign rfl) rfl ?_
      refine ops_nil ?_
      refine post_out ?_
      refine post_next ?_
      refine code_region ?_
      refine op_v (v_move rfl) rfl ?_
      first | refine op_v (v_addb rfl rfl rfl (by omega)) rfl ?_ | refine op_v (v_add rfl rfl) rfl ?_
      refine op_v (v_assign rfl) rfl ?_
      refine ops_nil ?_
      refine post_again (ts.length - (k + 1)) [(1, .pointer (some ⟨b1, 0, none⟩)), (3, .int .i64 (max (depL (ts.take k) : Nat) (depT ts[k] : Nat))), (4, .int .i64 ((k + 1 : Nat) : Int))] (by omega) ⟨k + 1, rfl, hlt, by rw [depL_take ts k hlt]; congr 4; omega, Imm.le_trans hI0 hI18, rfl⟩ ⟨rfl, rfl, rfl, trivial⟩
    · have hge : k = ts.length := by simp at hc0; omega
      refine code_exit ?_
      refine post_exit_then ?_
      refine post_exit_then ?_
      refine post_exit ?_
      refine post_next ?_
      refine code_seq ?_
      refine code_region ?_
      rw [hge, List.take_length]
      have h2 : depT (T.mk h ts) = 1 + depL ts := by simp [depT]
      have hdl : depL ts ≤ 1000000000 := by omega
      refine op_v (v_move rfl) rfl ?_
      first | refine op_v (v_addb rfl rfl rfl (by omega)) rfl ?_ | refine op_v (v_add rfl rfl) rfl ?_
      refine op_v (v_assign rfl) rfl ?_
      refine ops_nil ?_
      refine post_next ?_
      refine code_ret ?_
      refine post_ret (rs := [.tmp 2]) rfl (List.Perm.refl _) (.cons (.tmp rfl) .nil) (List.nil_sublist _) ?_
      exact ⟨by simp only [outV, depT]; congr 2; omega, rfl⟩
end Go.Proofs.Ytegceppoioeeaaa
