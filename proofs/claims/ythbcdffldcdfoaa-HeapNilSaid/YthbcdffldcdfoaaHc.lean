/- Walks: an item rises, and sinks. -/
import Derived.Test.YthbcdffldcdfoaaHb
set_option linter.unusedVariables false
set_option linter.unusedSimpArgs false
set_option linter.unnecessarySimpa false
/- short -/
namespace Go.Proofs.Ythbcdffldcdfoaa
open Go Lg

theorem up_does {I : Imm} {hb mb c : Nat} {A : Option Addr} {xs : List It} {mp : Mp} {i : Nat} (hi : i < xs.length) (hl : xs.length ≤ 1000000) (hat : AtOK xs mp) (hu : UpInv xs i i) :
    Does Try.prog 54 [.pointer (some ⟨hb, 0, none⟩), .int .i64 i] I (HeapE hb mb A c xs mp) (fun v _ δ' => ∃ xs' mp', xs'.Perm xs ∧ DownInv xs' i ∧ AtOK xs' mp' ∧ δ' = HeapE hb mb A c xs' mp') := by
  refine Does.intro Try.func54 rfl Try.ntmps54 rfl fun w0 => ?_
  refine code_block ?_
  refine code_loop (fun m σ' I' δ' => ∃ (cur : Nat) (ys : List It) (mq : Mp), m = cur ∧ σ' = [(0, .pointer (some ⟨hb, 0, none⟩)), (1, .int .i64 cur)] ∧ I.le I' ∧ δ' = HeapE hb mb A c ys mq ∧ cur ≤ i ∧ ys.Perm xs ∧ UpInv ys cur i ∧ AtOK ys mq) i [(0, .pointer (some ⟨hb, 0, none⟩)), (1, .int .i64 i)] ⟨i, xs, mp, rfl, rfl, Imm.le_refl _, rfl, Nat.le_refl _, List.Perm.refl _, hu, hat⟩ ⟨rfl, rfl, trivial⟩ ?_
  rintro cur _ I0 _ ⟨_, ys, mq, rfl, rfl, hI0, rfl, hcur, hperm, hinv, hok⟩
  have hyl := hperm.length_eq
  refine code_seq ?_
  refine code_seq ?_
  refine code_region ?_
  refine op_v (v_move rfl) rfl ?_
  by_cases h5 : 0 < cur
  · have hdv : ((cur - 1 : Nat) : Int).tdiv 2 = (((cur - 1) / 2 : Nat) : Int) := rfl
    first | refine op_v (v_cmptA rfl rfl rfl) rfl ?_ | refine op_v (v_cmpfA rfl rfl rfl) rfl ?_ | refine op_v (v_cmp rfl rfl rfl) rfl ?_
    refine op_v (v_move rfl) rfl ?_
    first
      | (refine op_want rfl rfl ?_
         refine op_v (v_move rfl) rfl ?_)
      | (refine op_skip rfl rfl (by simp [undef]) rfl ?_)
    first
      | (refine op_want rfl rfl ?_
         refine op_v (v_move rfl) rfl ?_)
      | (refine op_skip rfl rfl (by simp [undef]) rfl ?_)
    first
      | (refine op_want rfl rfl ?_
         refine op_v (v_move rfl) rfl ?_)
      | (refine op_skip rfl rfl (by simp [undef]) rfl ?_)
    first
      | (refine op_want rfl rfl ?_
         refine op_v (v_subb (c := ((cur - 1 : Nat) : Int)) rfl rfl (by omega) (by omega)) rfl ?_)
      | (refine op_skip rfl rfl (by simp [undef]) rfl ?_)
    first
      | (refine op_want rfl rfl ?_
         refine op_v (v_quob (c := (((cur - 1) / 2 : Nat) : Int)) rfl rfl (by decide) hdv (by omega)) rfl ?_)
      | (refine op_skip rfl rfl (by simp [undef]) rfl ?_)
    first
      | (refine op_want rfl rfl ?_
         refine op_call pl63 rfl rfl ((less_does (by omega) (by omega) (by omega))) Parts.all ?_
         rintro v12 I12 _ hI12 ⟨rfl, rfl⟩
         rw [List.append_nil])
      | (refine op_skip rfl rfl (by simp [undef]) rfl ?_)
    by_cases h13 : ltB (gt ys cur) (gt ys ((cur - 1) / 2)) = true
    · rw [h13]
      first | refine op_v (v_pickt rfl rfl) rfl ?_ | refine op_v (v_pickf rfl rfl) rfl ?_ | refine op_v (v_pickb rfl rfl rfl) rfl ?_
      refine ops_nil ?_
      refine post_next ?_
      refine code_cond_t rfl ?_
      refine code_skip ?_
      refine post_next ?_
      refine code_block ?_
      refine code_seq ?_
      refine code_region ?_
      refine op_v (v_move rfl) rfl ?_
      refine op_v (v_move rfl) rfl ?_
      refine op_v (v_move rfl) rfl ?_
      refine op_v (v_subb (c := ((cur - 1 : Nat) : Int)) rfl rfl (by omega) (by omega)) rfl ?_
      refine op_v (v_quob (c := (((cur - 1) / 2 : Nat) : Int)) rfl rfl (by decide) hdv (by omega)) rfl ?_
      refine op_call pl56 rfl rfl ((swap_does (i := cur) (k := (cur - 1) / 2) (by omega) (by omega) (by omega) hok)) Parts.all ?_
      rintro v19 I19 _ hI19 ⟨mq', hok', rfl⟩
      rw [List.append_nil]
      refine ops_nil ?_
      refine post_next ?_
      refine code_region ?_
      refine op_v (v_move rfl) rfl ?_
      refine op_v (v_subb (c := ((cur - 1 : Nat) : Int)) rfl rfl (by omega) (by omega)) rfl ?_
      refine op_v (v_quob (c := (((cur - 1) / 2 : Nat) : Int)) rfl rfl (by decide) hdv (by omega)) rfl ?_
      refine op_v (v_assign rfl) rfl ?_
      refine ops_nil ?_
      refine post_out ?_
      refine post_again ((cur - 1) / 2) [(0, .pointer (some ⟨hb, 0, none⟩)), (1, .int .i64 ((cur - 1) / 2 : Nat))] (by omega) ⟨(cur - 1) / 2, _, mq', rfl, rfl, Imm.leA, rfl, by omega, (swapL_perm (by omega) (by omega)).trans hperm, up_step hinv h5 (by omega) hcur (leI_lt h13), hok'⟩ ⟨rfl, rfl, trivial⟩
    · have h13' : ltB (gt ys cur) (gt ys ((cur - 1) / 2)) = false := by simpa using h13
      rw [h13']
      first | refine op_v (v_pickt rfl rfl) rfl ?_ | refine op_v (v_pickf rfl rfl) rfl ?_ | refine op_v (v_pickb rfl rfl rfl) rfl ?_
      refine ops_nil ?_
      refine post_next ?_
      refine code_cond_f rfl ?_
      refine code_exit ?_
      refine post_exit_then ?_
      refine post_exit_then ?_
      refine post_exit ?_
      exact post_end (rs := []) rfl (List.Perm.refl _) .nil (List.Sublist.refl _) ⟨ys, mq, hperm, up_end hinv (.inr (leI_of h13')), hok, rfl⟩
  · first | refine op_v (v_cmptA rfl rfl rfl) rfl ?_ | refine op_v (v_cmpfA rfl rfl rfl) rfl ?_ | refine op_v (v_cmp rfl rfl rfl) rfl ?_
    refine op_v (v_move rfl) rfl ?_
    first
      | (refine op_want rfl rfl ?_
         refine op_v (v_move rfl) rfl ?_)
      | (refine op_skip rfl rfl (by simp [undef]) rfl ?_)
    first
      | (refine op_want rfl rfl ?_
         refine op_v (v_move rfl) rfl ?_)
      | (refine op_skip rfl rfl (by simp [undef]) rfl ?_)
    first
      | (refine op_want rfl rfl ?_
         refine op_v (v_move rfl) rfl ?_)
      | (refine op_skip rfl rfl (by simp [undef]) rfl ?_)
    first
      | (refine op_want rfl rfl ?_
         refine op_v (v_subb (c := ((cur - 1 : Nat) : Int)) rfl rfl (by omega) (by omega)) rfl ?_)
      | (refine op_skip rfl rfl (by simp [undef]) rfl ?_)
    first
      | (refine op_want rfl rfl ?_
         refine op_v (v_quob (c := (((cur - 1) / 2 : Nat) : Int)) rfl rfl (by decide) hdv (by omega)) rfl ?_)
      | (refine op_skip rfl rfl (by simp [undef]) rfl ?_)
    first
      | (refine op_want rfl rfl ?_
         refine op_call pl63 rfl rfl ((less_does (by omega) (by omega) (by omega))) Parts.all ?_
         rintro v12 I12 _ hI12 ⟨rfl, rfl⟩
         rw [List.append_nil])
      | (refine op_skip rfl rfl (by simp [undef]) rfl ?_)
    first | refine op_v (v_pickt rfl rfl) rfl ?_ | refine op_v (v_pickf rfl rfl) rfl ?_ | refine op_v (v_pickb rfl rfl rfl) rfl ?_
    refine ops_nil ?_
    refine post_next ?_
    refine code_cond_f rfl ?_
    refine code_exit ?_
    refine post_exit_then ?_
    refine post_exit_then ?_
    refine post_exit ?_
    exact post_end (rs := []) rfl (List.Perm.refl _) .nil (List.Sublist.refl _) ⟨ys, mq, hperm, up_end hinv (.inl (by omega)), hok, rfl⟩
theorem down_does {I : Imm} {hb mb c : Nat} {A : Option Addr} {xs : List It} {mp : Mp} {i : Nat} (hi : i < xs.length) (hl : xs.length ≤ 1000000) (hat : AtOK xs mp) (hu : DownInv xs i) :
    Does Try.prog 57 [.pointer (some ⟨hb, 0, none⟩), .int .i64 i] I (HeapE hb mb A c xs mp) (fun v _ δ' => ∃ xs' mp', xs'.Perm xs ∧ IsHeap xs' ∧ AtOK xs' mp' ∧ δ' = HeapE hb mb A c xs' mp') := by
  refine Does.intro Try.func57 rfl Try.ntmps57 rfl fun w0 => ?_
  refine code_block ?_
  refine code_loop (fun m σ' I' δ' => ∃ (cur : Nat) (ys : List It) (mq : Mp), m = xs.length - cur ∧ σ' = [(0, .pointer (some ⟨hb, 0, none⟩)), (1, .int .i64 cur)] ∧ I.le I' ∧ δ' = HeapE hb mb A c ys mq ∧ cur < xs.length ∧ ys.Perm xs ∧ DownInv ys cur ∧ AtOK ys mq) (xs.length - i) [(0, .pointer (some ⟨hb, 0, none⟩)), (1, .int .i64 i)] ⟨i, xs, mp, rfl, rfl, Imm.le_refl _, rfl, hi, List.Perm.refl _, hu, hat⟩ ⟨rfl, rfl, trivial⟩ ?_
  rintro m _ I0 _ ⟨cur, ys, mq, rfl, rfl, hI0, rfl, hcur, hperm, hinv, hok⟩
  have hyl := hperm.length_eq
  refine code_block ?_
  refine code_seq ?_
  refine code_region ?_
  refine op_v (v_move rfl) rfl ?_
  refine op_v (v_assign rfl) rfl ?_
  refine ops_nil ?_
  refine post_next ?_
  refine code_seq ?_
  refine code_seq ?_
  refine code_region ?_
  refine op_v (v_move rfl) rfl ?_
  refine op_v (v_mulb (c := ((2 * cur : Nat) : Int)) rfl rfl (by omega) (by omega)) rfl ?_
  refine op_v (v_addb (c := ((2 * cur + 1 + 0 : Nat) : Int)) rfl rfl (by omega) (by omega)) rfl ?_
  refine op_v (v_move rfl) rfl ?_
  refine op_v (v_mulb (c := ((2 * cur : Nat) : Int)) rfl rfl (by omega) (by omega)) rfl ?_
  refine op_v (v_addb (c := ((2 * cur + 1 + 1 : Nat) : Int)) rfl rfl (by omega) (by omega)) rfl ?_
  refine o_buildSlice (xs := [(Go.Operand.tmp 10), (Go.Operand.tmp 13)]) Try.underlying28 bs3 rfl rfl rfl rfl rfl (fun b14 => ?_)
  refine OpsJ.freezeRow Del.here ?_
  rintro I14 a14 c14 hI14 hq hc14 hl14 hcells14
  cases hq
  have hel : ∀ n, n < 2 → At I14 (some ⟨b14, 0, none⟩) (n * 1) [.int .i64 ((2 * cur + 1 + n : Nat) : Int)] := fun n hn => hcells14.at _ fun j u hj => by
    rcases j with _ | j
    · simp at hj; subst hj
      rcases n with _ | _ | n
      · rfl
      · rfl
      · omega
    · simp at hj
  refine op_v (v_len Try.underlying28 rfl) rfl ?_
  refine op_v (v_move rfl) rfl ?_
  refine ops_nil ?_
  refine post_next ?_
  refine code_block ?_
  refine code_loop (fun m σ' I' δ' => ∃ (n b : Nat), m = 2 - n ∧ n ≤ 2 ∧ σ' = [(0, .pointer (some ⟨hb, 0, none⟩)), (1, .int .i64 cur), (4, .int .i64 b), (14, .slice (some ⟨b14, 0, none⟩) 2 2), (15, .int .i64 2), (16, .int .i64 n)] ∧ I14.le I' ∧ δ' = HeapE hb mb A c ys mq ∧ (b = cur ∨ (0 < b ∧ (b - 1) / 2 = cur)) ∧ b < ys.length ∧ leI (gt ys b) (gt ys cur) ∧ ∀ j, (j = 2 * cur + 1 ∧ 0 < n) ∨ (j = 2 * cur + 2 ∧ 1 < n) → j < ys.length → leI (gt ys b) (gt ys j)) 2 [(0, .pointer (some ⟨hb, 0, none⟩)), (1, .int .i64 cur), (4, .int .i64 cur), (14, .slice (some ⟨b14, 0, none⟩) 2 2), (15, .int .i64 2), (16, .int .i64 (0 : Nat))] ⟨0, cur, rfl, by omega, rfl, Imm.leA, rfl, .inl rfl, by omega, leI_refl _, fun j hj _ => by omega⟩ ⟨rfl, rfl, rfl, rfl, rfl, rfl, trivial⟩ ?_
  rintro m _ I1 _ ⟨n, b, rfl, hn, rfl, hI1, rfl, hb1, hb2, hb3, hb4⟩
  refine code_seq ?_
  refine code_region ?_
  first | refine op_v (v_cmptA rfl rfl rfl) rfl ?_ | refine op_v (v_cmpfA rfl rfl rfl) rfl ?_ | refine op_v (v_cmp rfl rfl rfl) rfl ?_
  refine ops_nil ?_
  refine post_next ?_
  refine code_seq ?_
  refine code_cond rfl (fun hc0 => ?_) (fun hc0 => ?_)
  · have hlt : n < 2 := by have h := hc0; simp at h; omega
    have hs1 := (hel n hlt).isSome
    refine code_skip ?_
    refine post_next ?_
    refine code_seq ?_
    refine code_block ?_
    refine code_seq ?_
    refine code_region ?_
    first | refine op_v (v_indexA Try.underlying28 sz3 rfl rfl) rfl ?_ | refine op_v (v_indexIA Try.underlying28 sz3 rfl rfl) rfl ?_
    first | refine op_v (v_loadI0 ty3 ((hel n hlt).mono hI1) rfl rfl rfl) rfl ?_ | refine op_v (v_loadI ty3 ((hel n hlt).mono hI1) rfl rfl rfl) rfl ?_
    refine op_v (v_assign rfl) rfl ?_
    refine ops_nil ?_
    refine post_next ?_
    refine code_seq ?_
    refine code_region ?_
    refine op_v (v_move rfl) rfl ?_
    refine op_v (v_move rfl) rfl ?_
    refine op_v (v_nilCheck rfl) rfl ?_
    first | refine op_v (v_fieldB 0 Try.underlying97 rfl rfl fz51 rfl) rfl ?_ | refine op_v (v_fieldI 0 Try.underlying97 rfl rfl fz51 rfl (by assumption)) rfl ?_ | refine op_v (v_field Try.underlying97 rfl fz51 rfl rfl) rfl ?_
    refine op_v (v_loadA ty51 rfl rfl) rfl ?_
    refine op_v (v_len Try.underlying51 rfl) rfl ?_
    by_cases h26 : 2 * cur + 1 + n < ys.length
    · first | refine op_v (v_cmptA rfl rfl rfl) rfl ?_ | refine op_v (v_cmpfA rfl rfl rfl) rfl ?_ | refine op_v (v_cmp rfl rfl rfl) rfl ?_
      refine op_v (v_move rfl) rfl ?_
      first
        | (refine op_want rfl rfl ?_
           refine op_v (v_move rfl) rfl ?_)
        | (refine op_skip rfl rfl (by simp [undef]) rfl ?_)
      first
        | (refine op_want rfl rfl ?_
           refine op_v (v_move rfl) rfl ?_)
        | (refine op_skip rfl rfl (by simp [undef]) rfl ?_)
      first
        | (refine op_want rfl rfl ?_
           refine op_v (v_move rfl) rfl ?_)
        | (refine op_skip rfl rfl (by simp [undef]) rfl ?_)
      first
        | (refine op_want rfl rfl ?_
           refine op_call pl63 rfl rfl ((less_does (i := 2 * cur + 1 + n) (k := b) h26 hb2 (by omega))) Parts.all ?_
           rintro v31 I31 _ hI31 ⟨rfl, rfl⟩
           rw [List.append_nil])
        | (refine op_skip rfl rfl (by simp [undef]) rfl ?_)
      by_cases h32 : ltB (gt ys (2 * cur + 1 + n)) (gt ys b) = true
      · rw [h32]
        first | refine op_v (v_pickt rfl rfl) rfl ?_ | refine op_v (v_pickf rfl rfl) rfl ?_ | refine op_v (v_pickb rfl rfl rfl) rfl ?_
        refine ops_nil ?_
        refine post_next ?_
        refine code_cond_t rfl ?_
        refine code_region ?_
        refine op_v (v_move rfl) rfl ?_
        refine op_v (v_assign rfl) rfl ?_
        refine ops_nil ?_
        refine post_out ?_
        refine post_next ?_
        refine code_region ?_
        first | refine op_v (v_addb rfl rfl rfl (by omega)) rfl ?_ | refine op_v (v_add rfl rfl) rfl ?_
        refine op_v (v_move rfl) rfl ?_
        refine ops_nil ?_
        refine post_again (2 - (n + 1)) [(0, .pointer (some ⟨hb, 0, none⟩)), (1, .int .i64 cur), (4, .int .i64 (2 * cur + 1 + n : Nat)), (14, .slice (some ⟨b14, 0, none⟩) 2 2), (15, .int .i64 2), (16, .int .i64 (n + 1 : Nat))] (by omega) ⟨n + 1, 2 * cur + 1 + n, rfl, hlt, rfl, Imm.leA, rfl, .inr ⟨by omega, by omega⟩, h26, leI_trans (leI_lt h32) hb3, fun j hj hjl => ?_⟩ ⟨rfl, rfl, rfl, rfl, rfl, rfl, trivial⟩
        by_cases e : j = 2 * cur + 1 + n
        · rw [e]; exact leI_refl _
        · exact leI_trans (leI_lt h32) (hb4 j (by omega) hjl)
      · have h32' : ltB (gt ys (2 * cur + 1 + n)) (gt ys b) = false := by simpa using h32
        rw [h32']
        first | refine op_v (v_pickt rfl rfl) rfl ?_ | refine op_v (v_pickf rfl rfl) rfl ?_ | refine op_v (v_pickb rfl rfl rfl) rfl ?_
        refine ops_nil ?_
        refine post_next ?_
        refine code_cond_f rfl ?_
        refine code_skip ?_
        refine post_out ?_
        refine post_next ?_
        refine code_region ?_
        first | refine op_v (v_addb rfl rfl rfl (by omega)) rfl ?_ | refine op_v (v_add rfl rfl) rfl ?_
        refine op_v (v_move rfl) rfl ?_
        refine ops_nil ?_
        refine post_again (2 - (n + 1)) [(0, .pointer (some ⟨hb, 0, none⟩)), (1, .int .i64 cur), (4, .int .i64 b), (14, .slice (some ⟨b14, 0, none⟩) 2 2), (15, .int .i64 2), (16, .int .i64 (n + 1 : Nat))] (by omega) ⟨n + 1, b, rfl, hlt, rfl, Imm.leA, rfl, hb1, hb2, hb3, fun j hj hjl => ?_⟩ ⟨rfl, rfl, rfl, rfl, rfl, rfl, trivial⟩
        by_cases e : j = 2 * cur + 1 + n
        · rw [e]; exact leI_of h32'
        · exact hb4 j (by omega) hjl
    · first | refine op_v (v_cmptA rfl rfl rfl) rfl ?_ | refine op_v (v_cmpfA rfl rfl rfl) rfl ?_ | refine op_v (v_cmp rfl rfl rfl) rfl ?_
      refine op_v (v_move rfl) rfl ?_
      first
        | (refine op_want rfl rfl ?_
           refine op_v (v_move rfl) rfl ?_)
        | (refine op_skip rfl rfl (by simp [undef]) rfl ?_)
      first
        | (refine op_want rfl rfl ?_
           refine op_v (v_move rfl) rfl ?_)
        | (refine op_skip rfl rfl (by simp [undef]) rfl ?_)
      first
        | (refine op_want rfl rfl ?_
           refine op_v (v_move rfl) rfl ?_)
        | (refine op_skip rfl rfl (by simp [undef]) rfl ?_)
      first
        | (refine op_want rfl rfl ?_
           refine op_call pl63 rfl rfl ((less_does (i := 2 * cur + 1 + n) (k := b) h26 hb2 (by omega))) Parts.all ?_
           rintro v31 I31 _ hI31 ⟨rfl, rfl⟩
           rw [List.append_nil])
        | (refine op_skip rfl rfl (by simp [undef]) rfl ?_)
      first | refine op_v (v_pickt rfl rfl) rfl ?_ | refine op_v (v_pickf rfl rfl) rfl ?_ | refine op_v (v_pickb rfl rfl rfl) rfl ?_
      refine ops_nil ?_
      refine post_next ?_
      refine code_cond_f rfl ?_
      refine code_skip ?_
      refine post_out ?_
      refine post_next ?_
      refine code_region ?_
      first | refine op_v (v_addb rfl rfl rfl (by omega)) rfl ?_ | refine op_v (v_add rfl rfl) rfl ?_
      refine op_v (v_move rfl) rfl ?_
      refine ops_nil ?_
      refine post_again (2 - (n + 1)) [(0, .pointer (some ⟨hb, 0, none⟩)), (1, .int .i64 cur), (4, .int .i64 b), (14, .slice (some ⟨b14, 0, none⟩) 2 2), (15, .int .i64 2), (16, .int .i64 (n + 1 : Nat))] (by omega) ⟨n + 1, b, rfl, hlt, rfl, Imm.leA, rfl, hb1, hb2, hb3, fun j hj hjl => hb4 j (by omega) hjl⟩ ⟨rfl, rfl, rfl, rfl, rfl, rfl, trivial⟩
  · have hge : n = 2 := by have h := hc0; simp at h; omega
    subst hge
    refine code_exit ?_
    refine post_exit_then ?_
    refine post_exit_then ?_
    refine post_exit ?_
    refine post_next ?_
    refine code_seq ?_
    refine code_seq ?_
    refine code_region ?_
    refine op_v (v_move rfl) rfl ?_
    refine op_v (v_move rfl) rfl ?_
    by_cases h37 : b = cur
    · first | refine op_v (v_cmptA rfl rfl rfl) rfl ?_ | refine op_v (v_cmpfA rfl rfl rfl) rfl ?_ | refine op_v (v_cmp rfl rfl rfl) rfl ?_
      refine ops_nil ?_
      refine post_next ?_
      refine code_cond_t rfl ?_
      refine code_ret ?_
      refine post_ret_then ?_
      refine post_ret_block ?_
      refine post_ret_then ?_
      refine post_ret_block ?_
      exact post_ret (rs := []) rfl (List.Perm.refl _) .nil (List.Sublist.refl _) ⟨ys, mq, hperm, down_end hinv (fun j h0 h1 h2 => h37 ▸ hb4 j (by omega) h1), hok, rfl⟩
    · have hbc : 0 < b ∧ (b - 1) / 2 = cur := by rcases hb1 with h | h; exact absurd h h37; exact h
      first | refine op_v (v_cmptA rfl rfl rfl) rfl ?_ | refine op_v (v_cmpfA rfl rfl rfl) rfl ?_ | refine op_v (v_cmp rfl rfl rfl) rfl ?_
      refine ops_nil ?_
      refine post_next ?_
      refine code_cond_f rfl ?_
      refine code_skip ?_
      refine post_next ?_
      refine code_seq ?_
      refine code_region ?_
      refine op_v (v_move rfl) rfl ?_
      refine op_v (v_move rfl) rfl ?_
      refine op_v (v_move rfl) rfl ?_
      refine op_call pl56 rfl rfl ((swap_does (i := cur) (k := b) (by omega) hb2 (by omega) hok)) Parts.all ?_
      rintro v41 I41 _ hI41 ⟨mq', hok', rfl⟩
      rw [List.append_nil]
      refine ops_nil ?_
      refine post_next ?_
      refine code_region ?_
      refine op_v (v_move rfl) rfl ?_
      refine op_v (v_assign rfl) rfl ?_
      refine ops_nil ?_
      refine post_out ?_
      refine post_again (xs.length - b) [(0, .pointer (some ⟨hb, 0, none⟩)), (1, .int .i64 b)] (by omega) ⟨b, _, mq', rfl, rfl, Imm.leA, rfl, by omega, (swapL_perm (by omega) hb2).trans hperm, down_step hinv hbc.2 hbc.1 hb2 hb3 (fun j h0 h1 h2 => hb4 j (by omega) h1), hok'⟩ ⟨rfl, rfl, trivial⟩
end Go.Proofs.Ythbcdffldcdfoaa
