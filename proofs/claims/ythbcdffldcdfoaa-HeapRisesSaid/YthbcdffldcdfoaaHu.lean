/- Walks: what is taken out rises. -/
import Derived.Test.YthbcdffldcdfoaaZ3
set_option linter.unusedVariables false
set_option linter.unusedSimpArgs false
set_option linter.unnecessarySimpa false
/- short -/
namespace Go.Proofs.Ythbcdffldcdfoaa
open Go Lg

/-- behind each one taken out: those that are left come behind it -/
def After (i : Nat) (last : It) (zs : List It) : Prop := 0 < i → ∀ z ∈ zs, ltB last z = true
theorem DropH.min {zs ys : List It} {mp : Mp} {b : Bool} (h : DropH zs (gt zs 0).2 b ys) (ho : AtOK zs mp) (hh : IsHeap zs) (hl : 0 < zs.length) : b = true ∧ zs.Perm (gt zs 0 :: ys) ∧ ∀ z ∈ ys, ltB (gt zs 0) z = true := by
  have hm := gt_mem (xs := zs) hl
  rcases h with ⟨h1, _, _⟩ | ⟨x, hx, rfl, hp⟩
  · exact absurd (List.mem_map_of_mem (f := fun x : It => x.2) hm) h1
  · have hxm : x ∈ zs := hp.mem_iff.2 (List.mem_cons_self ..)
    have e : x = gt zs 0 := id_inj ho hxm hm hx
    subst e
    refine ⟨rfl, hp, fun z hz => ?_⟩
    have hzm : z ∈ zs := hp.mem_iff.2 (List.mem_cons_of_mem _ hz)
    have h1 := min_mem hh hzm
    have hnd := ((hp.map (fun x : It => x.2)).nodup_iff.1 (nodup_ids ho))
    rw [List.map_cons, List.nodup_cons] at hnd
    have h2 : (gt zs 0).2 ≠ z.2 := fun q => hnd.1 (q ▸ List.mem_map_of_mem (f := fun x : It => x.2) hz)
    rw [ltB_iff]
    unfold leI at h1
    omega
theorem HeapRises_does {I : Imm} {v : Value} {rs : List (List Int)} (hv : RepN I v 2 rs) :
    Does Try.prog 7 [v] I [] (fun v I' δ' => v = .bool true ∧ δ' = []) := by
  obtain ⟨xs, A, c, rfl, hc, hb, hat⟩ := hv.items
  refine Does.intro Try.func7 rfl Try.ntmps7 rfl fun w0 => ?_
  refine code_seq ?_
  refine code_region ?_
  refine op_v (v_assign rfl) rfl ?_
  refine ops_nil ?_
  refine post_next ?_
  refine code_seq ?_
  refine code_seq ?_
  refine code_region ?_
  refine op_v (v_move rfl) rfl ?_
  refine op_v (v_len Try.underlying51 rfl) rfl ?_
  by_cases h17 : 300 < xs.length
  · first | refine op_v (v_cmptA rfl rfl rfl) rfl ?_ | refine op_v (v_cmpfA rfl rfl rfl) rfl ?_ | refine op_v (v_cmp rfl rfl rfl) rfl ?_
    refine ops_nil ?_
    refine post_next ?_
    refine code_cond_t rfl ?_
    refine code_seq ?_
    refine code_region ?_
    refine op_v (v_assign rfl) rfl ?_
    refine ops_nil ?_
    refine post_next ?_
    refine code_ret ?_
    refine post_ret_then ?_
    refine post_ret (rs := [.tmp 2]) rfl (List.Perm.refl _) (.cons (.tmp rfl) .nil) (List.nil_sublist _) ?_
    exact ⟨rfl, rfl⟩
  · first | refine op_v (v_cmptA rfl rfl rfl) rfl ?_ | refine op_v (v_cmpfA rfl rfl rfl) rfl ?_ | refine op_v (v_cmp rfl rfl rfl) rfl ?_
    refine ops_nil ?_
    refine post_next ?_
    refine code_cond_f rfl ?_
    refine code_skip ?_
    refine post_next ?_
    refine code_seq ?_
    refine code_region ?_
    refine op_call pl23 rfl rfl ((HNew_does _)) Parts.none ?_
    rintro v18 I18 _ hI18 ⟨hb, mb, rfl, rfl⟩
    refine op_v (v_assign rfl) rfl ?_
    refine ops_nil ?_
    refine post_next ?_
    refine code_seq ?_
    refine code_seq ?_
    refine code_region ?_
    refine op_v (v_move rfl) rfl ?_
    refine op_v (v_ptrq (z := false) Try.underlying48 rfl rfl rfl) rfl ?_
    refine ops_nil ?_
    refine post_next ?_
    refine code_cond_f rfl ?_
    refine code_skip ?_
    refine post_next ?_
    refine code_seq ?_
    refine code_region ?_
    refine op_v (v_assign rfl) rfl ?_
    refine ops_nil ?_
    refine post_next ?_
    refine code_seq ?_
    refine code_seq ?_
    refine code_region ?_
    refine op_v (v_assign rfl) rfl ?_
    refine ops_nil ?_
    refine post_next ?_
    refine code_block ?_
    refine code_loop (fun m σ' I' δ' => ∃ (k : Nat) (Ah : Option Addr) (ch : Nat) (ys : List It) (mq : Mp) (e6 : Value), m = xs.length - k ∧ k ≤ xs.length ∧ σ' = [(0, .slice A xs.length c), (3, .pointer (some ⟨hb, 0, none⟩)), (4, .int .i64 ys.length), (5, .int .i64 k)] ∧ I18.le I' ∧ δ' = HeapE hb mb Ah ch ys mq ∧ ys.length ≤ k ∧ AtOK ys mq ∧ IsHeap ys ∧ ∀ y ∈ ys, y ∈ xs) xs.length [(0, .slice A xs.length c), (3, .pointer (some ⟨hb, 0, none⟩)), (4, .int .i64 (0 : Nat)), (5, .int .i64 (0 : Nat))] ⟨0, none, 0, [], [], undef, rfl, by omega, rfl, Imm.le_refl _, rfl, by simp, ⟨(fun j h => absurd h (by simp)), fun _ _ => rfl⟩, (fun j _ h => absurd h (by simp)), by simp⟩ ⟨rfl, rfl, rfl, rfl, trivial⟩ ?_
    rintro m _ I1 _ ⟨k, Ah, ch, ys, mq, e6, rfl, hk, rfl, hI1, rfl, hyl, hok, hhp, hin⟩
    refine code_seq ?_
    refine code_seq ?_
    refine code_region ?_
    refine op_v (v_move rfl) rfl ?_
    refine op_v (v_move rfl) rfl ?_
    refine op_v (v_len Try.underlying51 rfl) rfl ?_
    first | refine op_v (v_cmptA rfl rfl rfl) rfl ?_ | refine op_v (v_cmpfA rfl rfl rfl) rfl ?_ | refine op_v (v_cmp rfl rfl rfl) rfl ?_
    refine ops_nil ?_
    refine post_next ?_
    refine code_cond rfl (fun hc2 => ?_) (fun hc2 => ?_)
    · have hlt : k < xs.length := by have h := hc2; simp at h; omega
      have hs1 := (hat k hlt).isSome
      refine code_skip ?_
      refine post_next ?_
      refine code_seq ?_
      refine code_block ?_
      refine code_seq ?_
      refine code_region ?_
      refine op_v (v_move rfl) rfl ?_
      refine op_v (v_move rfl) rfl ?_
      refine op_v (v_move rfl) rfl ?_
      first | refine op_v (v_indexA Try.underlying51 sz57 rfl rfl) rfl ?_ | refine op_v (v_indexIA Try.underlying51 sz57 rfl rfl) rfl ?_
      first | refine op_v (v_loadI0 ty57 ((hat k hlt).mono (Imm.le_trans hI18 hI1)) rfl rfl rfl) rfl ?_ | refine op_v (v_loadI ty57 ((hat k hlt).mono (Imm.le_trans hI18 hI1)) rfl rfl rfl) rfl ?_
      refine op_call pl24 rfl rfl ((HPut_does (x := xs[k]) (by omega) hok hhp)) Parts.all ?_
      rintro v32 I32 _ hI32 ⟨e32, A32, c32, zs, m32, rfl, hr32, hl32, ho32, hh32, rfl⟩
      rw [List.append_nil]
      refine op_v (v_assign rfl) rfl ?_
      refine ops_nil ?_
      refine post_next ?_
      refine code_seq ?_
      refine code_region ?_
      refine op_v (v_move rfl) rfl ?_
      by_cases h34 : e32 = 0
      · have hz : zs.Perm (ys ++ [xs[k]]) := by rcases hr32 with ⟨_, h, _⟩ | ⟨_, _, h, _⟩ | ⟨_, _, _, h⟩; omega; omega; exact h
        have hzl := hz.length_eq
        simp only [List.length_append, List.length_cons, List.length_nil] at hzl
        first | refine op_v (v_cmptA rfl rfl rfl) rfl ?_ | refine op_v (v_cmpfA rfl rfl rfl) rfl ?_ | refine op_v (v_cmp rfl rfl rfl) rfl ?_
        refine ops_nil ?_
        refine post_next ?_
        refine code_cond_t rfl ?_
        refine code_region ?_
        refine op_v (v_move rfl) rfl ?_
        refine op_v (v_addb (c := ((zs.length : Nat) : Int)) rfl rfl (by omega) (by omega)) rfl ?_
        refine op_v (v_assign rfl) rfl ?_
        refine ops_nil ?_
        refine post_out ?_
        refine post_next ?_
        refine code_region ?_
        refine op_v (v_move rfl) rfl ?_
        first | refine op_v (v_addb rfl rfl rfl (by omega)) rfl ?_ | refine op_v (v_add rfl rfl) rfl ?_
        refine op_v (v_assign rfl) rfl ?_
        refine ops_nil ?_
        refine post_again (xs.length - (k + 1)) [(0, .slice A xs.length c), (3, .pointer (some ⟨hb, 0, none⟩)), (4, .int .i64 zs.length), (5, .int .i64 (k + 1 : Nat))] (by omega) ⟨k + 1, A32, c32, zs, m32, undef, rfl, hlt, rfl, Imm.leA, rfl, by omega, ho32, hh32, ?_⟩ ⟨rfl, rfl, rfl, rfl, trivial⟩
        intro z hzm
        rcases List.mem_append.1 (hz.mem_iff.1 hzm) with h | h
        · exact hin z h
        · simp at h; subst h; exact List.getElem_mem _
      · have hz : zs = ys := by rcases hr32 with ⟨_, _, h⟩ | ⟨_, _, _, h⟩ | ⟨_, _, h, _⟩; exact h; exact h; omega
        subst hz
        first | refine op_v (v_cmptA rfl rfl rfl) rfl ?_ | refine op_v (v_cmpfA rfl rfl rfl) rfl ?_ | refine op_v (v_cmp rfl rfl rfl) rfl ?_
        refine ops_nil ?_
        refine post_next ?_
        refine code_cond_f rfl ?_
        refine code_skip ?_
        refine post_out ?_
        refine post_next ?_
        refine code_region ?_
        refine op_v (v_move rfl) rfl ?_
        first | refine op_v (v_addb rfl rfl rfl (by omega)) rfl ?_ | refine op_v (v_add rfl rfl) rfl ?_
        refine op_v (v_assign rfl) rfl ?_
        refine ops_nil ?_
        refine post_again (xs.length - (k + 1)) [(0, .slice A xs.length c), (3, .pointer (some ⟨hb, 0, none⟩)), (4, .int .i64 zs.length), (5, .int .i64 (k + 1 : Nat))] (by omega) ⟨k + 1, A32, c32, zs, m32, undef, rfl, hlt, rfl, Imm.leA, rfl, by omega, ho32, hh32, hin⟩ ⟨rfl, rfl, rfl, rfl, trivial⟩
    · have hge : k = xs.length := by have h := hc2; simp at h; omega
      subst hge
      refine code_exit ?_
      refine post_exit_then ?_
      refine post_exit_then ?_
      refine post_exit ?_
      refine post_next ?_
      refine code_seq ?_
      refine code_region ?_
      refine op_v (v_build bl57 rfl rfl) rfl ?_
      refine o_alloc z57 rfl rfl (fun b7 => ?_)
      refine o_store ty57 rfl rfl rfl rfl rfl (by repeat (first | exact Swap.here | apply Swap.there)) rfl ?_
      refine ops_nil ?_
      refine post_next ?_
      refine code_seq ?_
      refine code_seq ?_
      refine code_region ?_
      refine op_v (v_assign rfl) rfl ?_
      refine ops_nil ?_
      refine post_next ?_
      refine code_block ?_
      refine code_loop (fun m σ' I' δ' => ∃ (i : Nat) (zs : List It) (mz : Mp) (last : It), m = ys.length - i ∧ i ≤ ys.length ∧ σ' = [(0, .slice A xs.length c), (3, .pointer (some ⟨hb, 0, none⟩)), (4, .int .i64 ys.length), (7, .pointer (some ⟨b7, 0, none⟩)), (8, .int .i64 i)] ∧ I1.le I' ∧ δ' = .box b7 57 [.int .i64 last.1, .int .i64 last.2] :: HeapE hb mb Ah ch zs mz ∧ zs.length = ys.length - i ∧ AtOK zs mz ∧ IsHeap zs ∧ (∀ z ∈ zs, z ∈ xs) ∧ After i last zs) ys.length [(0, .slice A xs.length c), (3, .pointer (some ⟨hb, 0, none⟩)), (4, .int .i64 ys.length), (7, .pointer (some ⟨b7, 0, none⟩)), (8, .int .i64 (0 : Nat))] ⟨0, ys, mq, (0, 0), rfl, by omega, rfl, Imm.le_refl _, rfl, rfl, hok, hhp, hin, fun h => by omega⟩ ⟨rfl, rfl, rfl, rfl, rfl, trivial⟩ ?_
      rintro m _ I2 _ ⟨i, zs, mz, last, rfl, hi, rfl, hI2, rfl, hzl, hzo, hzh, hzx, haft⟩
      refine code_seq ?_
      refine code_seq ?_
      refine code_region ?_
      refine op_v (v_move rfl) rfl ?_
      refine op_v (v_move rfl) rfl ?_
      first | refine op_v (v_cmptA rfl rfl rfl) rfl ?_ | refine op_v (v_cmpfA rfl rfl rfl) rfl ?_ | refine op_v (v_cmp rfl rfl rfl) rfl ?_
      refine ops_nil ?_
      refine post_next ?_
      refine code_cond rfl (fun hc4 => ?_) (fun hc4 => ?_)
      · have hlt : i < ys.length := by have h := hc4; simp at h; omega
        have hpos : 0 < zs.length := by omega
        refine code_skip ?_
        refine post_next ?_
        refine code_seq ?_
        refine code_block ?_
        refine code_seq ?_
        refine code_region ?_
        refine op_v (v_move rfl) rfl ?_
        refine op_call pl28 rfl rfl ((HMin_does (by omega))) (List.perm_append_comm (l₁ := [_])) ?_
        rintro v45 I45 _ hI45 ⟨rfl, rfl⟩
        refine OpsJ.view (View.perm (List.perm_append_comm (l₂ := [_]))) ?_
        rw [show decide (0 < zs.length) = true from decide_eq_true hpos]
        refine op_v (v_move rfl) rfl ?_
        refine op_v (v_extract rfl rfl) rfl ?_
        refine op_v (v_extract rfl rfl) rfl ?_
        refine o_alloc z57 rfl rfl (fun b9 => ?_)
        refine o_store ty57 rfl rfl rfl rfl rfl (by repeat (first | exact Swap.here | apply Swap.there)) rfl ?_
        refine op_v (v_assign rfl) rfl ?_
        refine ops_nil ?_
        refine post_next ?_
        refine code_seq ?_
        refine code_seq ?_
        refine code_region ?_
        refine op_v (v_move rfl) rfl ?_
        refine op_v (v_not rfl) rfl ?_
        refine op_v (v_move rfl) rfl ?_
        first
          | (refine op_want rfl rfl ?_
             refine op_v (v_move rfl) rfl ?_)
          | (refine op_skip rfl rfl (by simp [undef]) rfl ?_)
        by_cases h52 : 0 < i
        · have h3 := ltB_iff.1 (haft h52 _ (gt_mem (xs := zs) hpos))
          first
            | (refine op_want rfl rfl ?_
               first | refine op_v (v_cmptA rfl rfl rfl) rfl ?_ | refine op_v (v_cmpfA rfl rfl rfl) rfl ?_ | refine op_v (v_cmp rfl rfl rfl) rfl ?_)
            | (refine op_skip rfl rfl (by simp [undef]) rfl ?_)
          first
            | (refine op_want rfl rfl ?_
               refine op_v (v_move rfl) rfl ?_)
            | (refine op_skip rfl rfl (by simp [undef]) rfl ?_)
          first
            | (refine op_want rfl rfl ?_
               first | refine op_v (v_fieldB 0 Try.underlying57 rfl rfl fz3 rfl) rfl ?_ | refine op_v (v_fieldI 0 Try.underlying57 rfl rfl fz3 rfl (by assumption)) rfl ?_ | refine op_v (v_field Try.underlying57 rfl fz3 rfl rfl) rfl ?_)
            | (refine op_skip rfl rfl (by simp [undef]) rfl ?_)
          first
            | (refine op_want rfl rfl ?_
               refine op_v (v_loadA ty3 rfl rfl) rfl ?_)
            | (refine op_skip rfl rfl (by simp [undef]) rfl ?_)
          first
            | (refine op_want rfl rfl ?_
               first | refine op_v (v_fieldB 0 Try.underlying57 rfl rfl fz3 rfl) rfl ?_ | refine op_v (v_fieldI 0 Try.underlying57 rfl rfl fz3 rfl (by assumption)) rfl ?_ | refine op_v (v_field Try.underlying57 rfl fz3 rfl rfl) rfl ?_)
            | (refine op_skip rfl rfl (by simp [undef]) rfl ?_)
          first
            | (refine op_want rfl rfl ?_
               refine op_v (v_loadA ty3 rfl rfl) rfl ?_)
            | (refine op_skip rfl rfl (by simp [undef]) rfl ?_)
          first
            | (refine op_want rfl rfl ?_
               first | refine op_v (v_cmptA rfl rfl rfl) rfl ?_ | refine op_v (v_cmpfA rfl rfl rfl) rfl ?_ | refine op_v (v_cmp rfl rfl rfl) rfl ?_)
            | (refine op_skip rfl rfl (by simp [undef]) rfl ?_)
          first
            | (refine op_want rfl rfl ?_
               refine op_v (v_move rfl) rfl ?_)
            | (refine op_skip rfl rfl (by simp [undef]) rfl ?_)
          first
            | (refine op_want rfl rfl ?_
               first | refine op_v (v_fieldB 0 Try.underlying57 rfl rfl fz3 rfl) rfl ?_ | refine op_v (v_fieldI 0 Try.underlying57 rfl rfl fz3 rfl (by assumption)) rfl ?_ | refine op_v (v_field Try.underlying57 rfl fz3 rfl rfl) rfl ?_)
            | (refine op_skip rfl rfl (by simp [undef]) rfl ?_)
          first
            | (refine op_want rfl rfl ?_
               refine op_v (v_loadA ty3 rfl rfl) rfl ?_)
            | (refine op_skip rfl rfl (by simp [undef]) rfl ?_)
          first
            | (refine op_want rfl rfl ?_
               first | refine op_v (v_fieldB 0 Try.underlying57 rfl rfl fz3 rfl) rfl ?_ | refine op_v (v_fieldI 0 Try.underlying57 rfl rfl fz3 rfl (by assumption)) rfl ?_ | refine op_v (v_field Try.underlying57 rfl fz3 rfl rfl) rfl ?_)
            | (refine op_skip rfl rfl (by simp [undef]) rfl ?_)
          first
            | (refine op_want rfl rfl ?_
               refine op_v (v_loadA ty3 rfl rfl) rfl ?_)
            | (refine op_skip rfl rfl (by simp [undef]) rfl ?_)
          by_cases h64 : (gt zs 0).1 = last.1
          · first
              | (refine op_want rfl rfl ?_
                 first | refine op_v (v_cmptA rfl rfl rfl) rfl ?_ | refine op_v (v_cmpfA rfl rfl rfl) rfl ?_ | refine op_v (v_cmp rfl rfl rfl) rfl ?_)
              | (refine op_skip rfl rfl (by simp [undef]) rfl ?_)
            first
              | (refine op_want rfl rfl ?_
                 refine op_v (v_move rfl) rfl ?_)
              | (refine op_skip rfl rfl (by simp [undef]) rfl ?_)
            first
              | (refine op_want rfl rfl ?_
                 first | refine op_v (v_fieldB 1 Try.underlying57 rfl rfl fz3 rfl) rfl ?_ | refine op_v (v_fieldI 1 Try.underlying57 rfl rfl fz3 rfl (by assumption)) rfl ?_ | refine op_v (v_field Try.underlying57 rfl fz3 rfl rfl) rfl ?_)
              | (refine op_skip rfl rfl (by simp [undef]) rfl ?_)
            first
              | (refine op_want rfl rfl ?_
                 refine op_v (v_loadA ty3 rfl rfl) rfl ?_)
              | (refine op_skip rfl rfl (by simp [undef]) rfl ?_)
            first
              | (refine op_want rfl rfl ?_
                 first | refine op_v (v_fieldB 1 Try.underlying57 rfl rfl fz3 rfl) rfl ?_ | refine op_v (v_fieldI 1 Try.underlying57 rfl rfl fz3 rfl (by assumption)) rfl ?_ | refine op_v (v_field Try.underlying57 rfl fz3 rfl rfl) rfl ?_)
              | (refine op_skip rfl rfl (by simp [undef]) rfl ?_)
            first
              | (refine op_want rfl rfl ?_
                 refine op_v (v_loadA ty3 rfl rfl) rfl ?_)
              | (refine op_skip rfl rfl (by simp [undef]) rfl ?_)
            first
              | (refine op_want rfl rfl ?_
                 first | refine op_v (v_cmptA rfl rfl rfl) rfl ?_ | refine op_v (v_cmpfA rfl rfl rfl) rfl ?_ | refine op_v (v_cmp rfl rfl rfl) rfl ?_)
              | (refine op_skip rfl rfl (by simp [undef]) rfl ?_)
            first
              | (refine op_want rfl rfl ?_
                 first | refine op_v (v_pickt rfl rfl) rfl ?_ | refine op_v (v_pickf rfl rfl) rfl ?_ | refine op_v (v_pickb rfl rfl rfl) rfl ?_)
              | (refine op_skip rfl rfl (by simp [undef]) rfl ?_)
            first
              | (refine op_want rfl rfl ?_
                 first | refine op_v (v_pickt rfl rfl) rfl ?_ | refine op_v (v_pickf rfl rfl) rfl ?_ | refine op_v (v_pickb rfl rfl rfl) rfl ?_)
              | (refine op_skip rfl rfl (by simp [undef]) rfl ?_)
            first
              | (refine op_want rfl rfl ?_
                 first | refine op_v (v_pickt rfl rfl) rfl ?_ | refine op_v (v_pickf rfl rfl) rfl ?_ | refine op_v (v_pickb rfl rfl rfl) rfl ?_)
              | (refine op_skip rfl rfl (by simp [undef]) rfl ?_)
            first | refine op_v (v_pickt rfl rfl) rfl ?_ | refine op_v (v_pickf rfl rfl) rfl ?_ | refine op_v (v_pickb rfl rfl rfl) rfl ?_
            refine op_v (v_move rfl) rfl ?_
            first
              | (refine op_want rfl rfl ?_
                 refine op_v (v_move rfl) rfl ?_)
              | (refine op_skip rfl rfl (by simp [undef]) rfl ?_)
            first
              | (refine op_want rfl rfl ?_
                 first | refine op_v (v_fieldB 1 Try.underlying57 rfl rfl fz3 rfl) rfl ?_ | refine op_v (v_fieldI 1 Try.underlying57 rfl rfl fz3 rfl (by assumption)) rfl ?_ | refine op_v (v_field Try.underlying57 rfl fz3 rfl rfl) rfl ?_)
              | (refine op_skip rfl rfl (by simp [undef]) rfl ?_)
            first
              | (refine op_want rfl rfl ?_
                 refine op_v (v_loadA ty3 rfl rfl) rfl ?_)
              | (refine op_skip rfl rfl (by simp [undef]) rfl ?_)
            first
              | (refine op_want rfl rfl ?_
                 refine op_call pl26 rfl rfl ((HDrop_does (id := (gt zs 0).2) (by omega) hzo hzh)) (List.perm_append_comm (l₁ := [_, _])) ?_
                 rintro v79 I79 _ hI79 ⟨b79, us, mu, rfl, hr79, hul, huo, huh, rfl⟩
                 refine OpsJ.view (View.perm (List.perm_append_comm (l₂ := [_, _]))) ?_
                 obtain ⟨rfl, hup, hulast⟩ := hr79.min hzo hzh hpos
                 have hul1 := hup.length_eq
                 simp only [List.length_cons] at hul1)
              | (refine op_skip rfl rfl (by simp [undef]) rfl ?_)
            first
              | (refine op_want rfl rfl ?_
                 refine op_v (v_not rfl) rfl ?_)
              | (refine op_skip rfl rfl (by simp [undef]) rfl ?_)
            first | refine op_v (v_pickt rfl rfl) rfl ?_ | refine op_v (v_pickf rfl rfl) rfl ?_ | refine op_v (v_pickb rfl rfl rfl) rfl ?_
            refine op_v (v_move rfl) rfl ?_
            first
              | (refine op_want rfl rfl ?_
                 refine op_v (v_move rfl) rfl ?_)
              | (refine op_skip rfl rfl (by simp [undef]) rfl ?_)
            first
              | (refine op_want rfl rfl ?_
                 refine op_call pl30 rfl rfl ((HSize_does)) (List.perm_append_comm (l₁ := [_, _])) ?_
                 rintro v84 I84 _ hI84 ⟨rfl, rfl⟩
                 refine OpsJ.view (View.perm (List.perm_append_comm (l₂ := [_, _]))) ?_)
              | (refine op_skip rfl rfl (by simp [undef]) rfl ?_)
            first
              | (refine op_want rfl rfl ?_
                 refine op_v (v_move rfl) rfl ?_)
              | (refine op_skip rfl rfl (by simp [undef]) rfl ?_)
            first
              | (refine op_want rfl rfl ?_
                 refine op_v (v_move rfl) rfl ?_)
              | (refine op_skip rfl rfl (by simp [undef]) rfl ?_)
            first
              | (refine op_want rfl rfl ?_
                 first | refine op_v (v_subb rfl rfl rfl (by omega)) rfl ?_ | refine op_v (v_sub rfl rfl) rfl ?_)
              | (refine op_skip rfl rfl (by simp [undef]) rfl ?_)
            first
              | (refine op_want rfl rfl ?_
                 first | refine op_v (v_subb rfl rfl rfl (by omega)) rfl ?_ | refine op_v (v_sub rfl rfl) rfl ?_)
              | (refine op_skip rfl rfl (by simp [undef]) rfl ?_)
            first
              | (refine op_want rfl rfl ?_
                 first | refine op_v (v_cmptA rfl rfl rfl) rfl ?_ | refine op_v (v_cmpfA rfl rfl rfl) rfl ?_ | refine op_v (v_cmp rfl rfl rfl) rfl ?_)
              | (refine op_skip rfl rfl (by simp [undef]) rfl ?_)
            first | refine op_v (v_pickt rfl rfl) rfl ?_ | refine op_v (v_pickf rfl rfl) rfl ?_ | refine op_v (v_pickb rfl rfl rfl) rfl ?_
            refine ops_nil ?_
            refine post_next ?_
            refine code_cond_f rfl ?_
            refine code_skip ?_
            refine post_next ?_
            refine code_seq ?_
            refine code_region ?_
            refine op_v (v_assign rfl) rfl ?_
            refine ops_nil ?_
            refine post_next ?_
            refine code_seq ?_
            refine code_seq ?_
            refine code_region ?_
            refine op_v (v_assign rfl) rfl ?_
            refine ops_nil ?_
            refine post_next ?_
            refine code_block ?_
            refine code_loop (fun m σ' I' δ' => ∃ k : Nat, m = xs.length - k ∧ k ≤ xs.length ∧ σ' = [(0, .slice A xs.length c), (3, .pointer (some ⟨hb, 0, none⟩)), (4, .int .i64 ys.length), (7, .pointer (some ⟨b7, 0, none⟩)), (8, .int .i64 i), (9, .pointer (some ⟨b9, 0, none⟩)), (11, .bool ((xs.take k).any fun z => itEq z (gt zs 0))), (12, .int .i64 k)] ∧ I84.le I' ∧ δ' = .box b9 57 [.int .i64 (gt zs 0).1, .int .i64 (gt zs 0).2] :: .box b7 57 [.int .i64 last.1, .int .i64 last.2] :: HeapE hb mb Ah ch us mu) xs.length [(0, .slice A xs.length c), (3, .pointer (some ⟨hb, 0, none⟩)), (4, .int .i64 ys.length), (7, .pointer (some ⟨b7, 0, none⟩)), (8, .int .i64 i), (9, .pointer (some ⟨b9, 0, none⟩)), (11, .bool false), (12, .int .i64 (0 : Nat))] ⟨0, rfl, by omega, rfl, Imm.le_refl _, rfl⟩ ⟨rfl, rfl, rfl, rfl, rfl, rfl, rfl, rfl, trivial⟩ ?_
            rintro m _ I3 _ ⟨k, rfl, hk, rfl, hI3, rfl⟩
            refine code_seq ?_
            refine code_seq ?_
            refine code_region ?_
            refine op_v (v_move rfl) rfl ?_
            refine op_v (v_move rfl) rfl ?_
            refine op_v (v_len Try.underlying51 rfl) rfl ?_
            first | refine op_v (v_cmptA rfl rfl rfl) rfl ?_ | refine op_v (v_cmpfA rfl rfl rfl) rfl ?_ | refine op_v (v_cmp rfl rfl rfl) rfl ?_
            refine ops_nil ?_
            refine post_next ?_
            refine code_cond rfl (fun hc6 => ?_) (fun hc6 => ?_)
            · have hkl : k < xs.length := by have h := hc6; simp at h; omega
              have hs1 := (hat k hkl).isSome
              have hle3 : I.le I3 := Imm.leA
              have htk := List.take_concat_get hkl
              refine code_skip ?_
              refine post_next ?_
              refine code_seq ?_
              refine code_block ?_
              refine code_draw (.fl 0 (.fl 1 (.fl 2 (.fl 3 (.fl 4 (.fl 5 (.fl 6 (.fl 7 (.fl 8 (.ef 9 .done)))))))))) (fun _ => _) mixed (by kernel_rfl) (by kernel_rfl) (fun _ => (List.Sublist.refl _)) ?_
              by_cases hq : ((xs.take k).any fun z => itEq z (gt zs 0)) = true
              · rw [hq]
                refine e_fl rfl rfl (fun hs_ => PF.mk rfl (v_move rfl) hs_) ?_
                refine e_fl rfl rfl (fun hs_ => PF.mk rfl (v_move rfl) hs_) ?_
                first | refine e_fl rfl rfl (fun hs_ => PF.mkg rfl rfl rfl (v_move rfl) hs_) ?_ | refine e_fl rfl rfl (fun hs_ => PF.mks rfl (by intro c hc; cases hc) rfl rfl (by simp [undef]) hs_) ?_
                first | refine e_fl rfl rfl (fun hs_ => PF.mkg rfl rfl rfl (v_move rfl) hs_) ?_ | refine e_fl rfl rfl (fun hs_ => PF.mks rfl (by intro c hc; cases hc) rfl rfl (by simp [undef]) hs_) ?_
                first | refine e_fl rfl rfl (fun hs_ => PF.mkg rfl rfl rfl (v_indexA Try.underlying51 sz57 rfl rfl) hs_) ?_ | refine e_fl rfl rfl (fun hs_ => PF.mkg rfl rfl rfl (v_indexIA Try.underlying51 sz57 rfl rfl) hs_) ?_ | refine e_fl rfl rfl (fun hs_ => PF.mks rfl (by intro c hc; cases hc) rfl rfl (by simp [undef]) hs_) ?_
                first | refine e_fl rfl rfl (fun hs_ => PF.mkg rfl rfl rfl (v_loadI0 ty57 ((hat k hkl).mono hle3) rfl rfl rfl) hs_) ?_ | refine e_fl rfl rfl (fun hs_ => PF.mkg rfl rfl rfl (v_loadI ty57 ((hat k hkl).mono hle3) rfl rfl rfl) hs_) ?_ | refine e_fl rfl rfl (fun hs_ => PF.mks rfl (by intro c hc; cases hc) rfl rfl (by simp [undef]) hs_) ?_
                first | refine e_fl rfl rfl (fun hs_ => PF.mkg rfl rfl rfl (v_loadA ty57 rfl rfl) hs_) ?_ | refine e_fl rfl rfl (fun hs_ => PF.mks rfl (by intro c hc; cases hc) rfl rfl (by simp [undef]) hs_) ?_
                first | refine e_fl rfl rfl (fun hs_ => PF.mkg rfl rfl rfl (v_eqIt itTy rfl rfl rfl) hs_) ?_ | refine e_fl rfl rfl (fun hs_ => PF.mks rfl (by intro c hc; cases hc) rfl rfl (by simp [undef]) hs_) ?_
                first | refine e_fl rfl rfl (fun hs_ => PF.mk rfl (v_pickt rfl rfl) hs_) ?_ | refine e_fl rfl rfl (fun hs_ => PF.mk rfl (v_pickf rfl rfl) hs_) ?_ | refine e_fl rfl rfl (fun hs_ => PF.mk rfl (v_pickb rfl rfl rfl) hs_) ?_
                refine e_eff rfl (by intro cs b hc; cases hc) (by intro c hc; cases hc) ?_
                refine op_v (v_assign rfl) rfl ?_
                refine ops_nil ?_
                refine e_next rfl (side_nil (by kernel_rfl)) ?_
                refine e_done ?_
                refine post_out ?_
                refine post_next ?_
                refine code_region ?_
                refine op_v (v_move rfl) rfl ?_
                first | refine op_v (v_addb rfl rfl rfl (by omega)) rfl ?_ | refine op_v (v_add rfl rfl) rfl ?_
                refine op_v (v_assign rfl) rfl ?_
                refine ops_nil ?_
                refine post_again (xs.length - (k + 1)) [(0, .slice A xs.length c), (3, .pointer (some ⟨hb, 0, none⟩)), (4, .int .i64 ys.length), (7, .pointer (some ⟨b7, 0, none⟩)), (8, .int .i64 i), (9, .pointer (some ⟨b9, 0, none⟩)), (11, .bool ((xs.take (k + 1)).any fun z => itEq z (gt zs 0))), (12, .int .i64 (k + 1 : Nat))] (by omega) ⟨k + 1, rfl, hkl, rfl, Imm.leA, rfl⟩ ⟨rfl, rfl, rfl, rfl, rfl, rfl, by rw [← htk, List.concat_eq_append, List.any_append, hq]; rfl, rfl, trivial⟩
              · have hq' : ((xs.take k).any fun z => itEq z (gt zs 0)) = false := by simpa using hq
                rw [hq']
                refine e_fl rfl rfl (fun hs_ => PF.mk rfl (v_move rfl) hs_) ?_
                refine e_fl rfl rfl (fun hs_ => PF.mk rfl (v_move rfl) hs_) ?_
                first | refine e_fl rfl rfl (fun hs_ => PF.mkg rfl rfl rfl (v_move rfl) hs_) ?_ | refine e_fl rfl rfl (fun hs_ => PF.mks rfl (by intro c hc; cases hc) rfl rfl (by simp [undef]) hs_) ?_
                first | refine e_fl rfl rfl (fun hs_ => PF.mkg rfl rfl rfl (v_move rfl) hs_) ?_ | refine e_fl rfl rfl (fun hs_ => PF.mks rfl (by intro c hc; cases hc) rfl rfl (by simp [undef]) hs_) ?_
                first | refine e_fl rfl rfl (fun hs_ => PF.mkg rfl rfl rfl (v_indexA Try.underlying51 sz57 rfl rfl) hs_) ?_ | refine e_fl rfl rfl (fun hs_ => PF.mkg rfl rfl rfl (v_indexIA Try.underlying51 sz57 rfl rfl) hs_) ?_ | refine e_fl rfl rfl (fun hs_ => PF.mks rfl (by intro c hc; cases hc) rfl rfl (by simp [undef]) hs_) ?_
                first | refine e_fl rfl rfl (fun hs_ => PF.mkg rfl rfl rfl (v_loadI0 ty57 ((hat k hkl).mono hle3) rfl rfl rfl) hs_) ?_ | refine e_fl rfl rfl (fun hs_ => PF.mkg rfl rfl rfl (v_loadI ty57 ((hat k hkl).mono hle3) rfl rfl rfl) hs_) ?_ | refine e_fl rfl rfl (fun hs_ => PF.mks rfl (by intro c hc; cases hc) rfl rfl (by simp [undef]) hs_) ?_
                first | refine e_fl rfl rfl (fun hs_ => PF.mkg rfl rfl rfl (v_loadA ty57 rfl rfl) hs_) ?_ | refine e_fl rfl rfl (fun hs_ => PF.mks rfl (by intro c hc; cases hc) rfl rfl (by simp [undef]) hs_) ?_
                first | refine e_fl rfl rfl (fun hs_ => PF.mkg rfl rfl rfl (v_eqIt itTy rfl rfl rfl) hs_) ?_ | refine e_fl rfl rfl (fun hs_ => PF.mks rfl (by intro c hc; cases hc) rfl rfl (by simp [undef]) hs_) ?_
                first | refine e_fl rfl rfl (fun hs_ => PF.mk rfl (v_pickt rfl rfl) hs_) ?_ | refine e_fl rfl rfl (fun hs_ => PF.mk rfl (v_pickf rfl rfl) hs_) ?_ | refine e_fl rfl rfl (fun hs_ => PF.mk rfl (v_pickb rfl rfl rfl) hs_) ?_
                refine e_eff rfl (by intro cs b hc; cases hc) (by intro c hc; cases hc) ?_
                refine op_v (v_assign rfl) rfl ?_
                refine ops_nil ?_
                refine e_next rfl (side_nil (by kernel_rfl)) ?_
                refine e_done ?_
                refine post_out ?_
                refine post_next ?_
                refine code_region ?_
                refine op_v (v_move rfl) rfl ?_
                first | refine op_v (v_addb rfl rfl rfl (by omega)) rfl ?_ | refine op_v (v_add rfl rfl) rfl ?_
                refine op_v (v_assign rfl) rfl ?_
                refine ops_nil ?_
                refine post_again (xs.length - (k + 1)) [(0, .slice A xs.length c), (3, .pointer (some ⟨hb, 0, none⟩)), (4, .int .i64 ys.length), (7, .pointer (some ⟨b7, 0, none⟩)), (8, .int .i64 i), (9, .pointer (some ⟨b9, 0, none⟩)), (11, .bool ((xs.take (k + 1)).any fun z => itEq z (gt zs 0))), (12, .int .i64 (k + 1 : Nat))] (by omega) ⟨k + 1, rfl, hkl, rfl, Imm.leA, rfl⟩ ⟨rfl, rfl, rfl, rfl, rfl, rfl, by rw [← htk, List.concat_eq_append, List.any_append, hq']; simp only [List.any_cons, List.any_nil, Bool.or_false, Bool.false_or]; rfl, rfl, trivial⟩
            · have hkg : k = xs.length := by have h := hc6; simp at h; omega
              subst hkg
              have hany : ((xs.take xs.length).any fun z => itEq z (gt zs 0)) = true := by
                rw [List.take_length, List.any_eq_true]
                exact ⟨gt zs 0, hzx _ (gt_mem hpos), itEq_iff.2 rfl⟩
              rw [hany]
              refine code_exit ?_
              refine post_exit_then ?_
              refine post_exit_then ?_
              refine post_exit ?_
              refine post_next ?_
              refine code_seq ?_
              refine code_seq ?_
              refine code_region ?_
              refine op_v (v_move rfl) rfl ?_
              refine op_v (v_not rfl) rfl ?_
              refine ops_nil ?_
              refine post_next ?_
              refine code_cond_f rfl ?_
              refine code_skip ?_
              refine post_next ?_
              refine code_region ?_
              refine op_v (v_loadA ty57 rfl rfl) rfl ?_
              refine o_store ty57 rfl rfl rfl rfl rfl (by repeat (first | exact Swap.here | apply Swap.there)) rfl ?_
              refine ops_nil ?_
              refine post_out ?_
              refine post_next ?_
              refine code_region ?_
              refine op_v (v_move rfl) rfl ?_
              first | refine op_v (v_addb rfl rfl rfl (by omega)) rfl ?_ | refine op_v (v_add rfl rfl) rfl ?_
              refine op_v (v_assign rfl) rfl ?_
              refine ops_nil ?_
              refine PostJ.view (View.drop Del.here) ?_
              refine post_again (ys.length - (i + 1)) [(0, .slice A xs.length c), (3, .pointer (some ⟨hb, 0, none⟩)), (4, .int .i64 ys.length), (7, .pointer (some ⟨b7, 0, none⟩)), (8, .int .i64 (i + 1 : Nat))] (by omega) ⟨i + 1, us, mu, gt zs 0, rfl, by omega, rfl, Imm.leA, rfl, by omega, huo, huh, fun z hz => hzx z (hup.mem_iff.2 (List.mem_cons_of_mem _ hz)), fun _ => hulast⟩ ⟨rfl, rfl, rfl, rfl, rfl, trivial⟩
          · first
              | (refine op_want rfl rfl ?_
                 first | refine op_v (v_cmptA rfl rfl rfl) rfl ?_ | refine op_v (v_cmpfA rfl rfl rfl) rfl ?_ | refine op_v (v_cmp rfl rfl rfl) rfl ?_)
              | (refine op_skip rfl rfl (by simp [undef]) rfl ?_)
            first
              | (refine op_want rfl rfl ?_
                 refine op_v (v_move rfl) rfl ?_)
              | (refine op_skip rfl rfl (by simp [undef]) rfl ?_)
            first
              | (refine op_want rfl rfl ?_
                 first | refine op_v (v_fieldB 1 Try.underlying57 rfl rfl fz3 rfl) rfl ?_ | refine op_v (v_fieldI 1 Try.underlying57 rfl rfl fz3 rfl (by assumption)) rfl ?_ | refine op_v (v_field Try.underlying57 rfl fz3 rfl rfl) rfl ?_)
              | (refine op_skip rfl rfl (by simp [undef]) rfl ?_)
            first
              | (refine op_want rfl rfl ?_
                 refine op_v (v_loadA ty3 rfl rfl) rfl ?_)
              | (refine op_skip rfl rfl (by simp [undef]) rfl ?_)
            first
              | (refine op_want rfl rfl ?_
                 first | refine op_v (v_fieldB 1 Try.underlying57 rfl rfl fz3 rfl) rfl ?_ | refine op_v (v_fieldI 1 Try.underlying57 rfl rfl fz3 rfl (by assumption)) rfl ?_ | refine op_v (v_field Try.underlying57 rfl fz3 rfl rfl) rfl ?_)
              | (refine op_skip rfl rfl (by simp [undef]) rfl ?_)
            first
              | (refine op_want rfl rfl ?_
                 refine op_v (v_loadA ty3 rfl rfl) rfl ?_)
              | (refine op_skip rfl rfl (by simp [undef]) rfl ?_)
            first
              | (refine op_want rfl rfl ?_
                 first | refine op_v (v_cmptA rfl rfl rfl) rfl ?_ | refine op_v (v_cmpfA rfl rfl rfl) rfl ?_ | refine op_v (v_cmp rfl rfl rfl) rfl ?_)
              | (refine op_skip rfl rfl (by simp [undef]) rfl ?_)
            first
              | (refine op_want rfl rfl ?_
                 first | refine op_v (v_pickt rfl rfl) rfl ?_ | refine op_v (v_pickf rfl rfl) rfl ?_ | refine op_v (v_pickb rfl rfl rfl) rfl ?_)
              | (refine op_skip rfl rfl (by simp [undef]) rfl ?_)
            first
              | (refine op_want rfl rfl ?_
                 first | refine op_v (v_pickt rfl rfl) rfl ?_ | refine op_v (v_pickf rfl rfl) rfl ?_ | refine op_v (v_pickb rfl rfl rfl) rfl ?_)
              | (refine op_skip rfl rfl (by simp [undef]) rfl ?_)
            first
              | (refine op_want rfl rfl ?_
                 first | refine op_v (v_pickt rfl rfl) rfl ?_ | refine op_v (v_pickf rfl rfl) rfl ?_ | refine op_v (v_pickb rfl rfl rfl) rfl ?_)
              | (refine op_skip rfl rfl (by simp [undef]) rfl ?_)
            first | refine op_v (v_pickt rfl rfl) rfl ?_ | refine op_v (v_pickf rfl rfl) rfl ?_ | refine op_v (v_pickb rfl rfl rfl) rfl ?_
            refine op_v (v_move rfl) rfl ?_
            first
              | (refine op_want rfl rfl ?_
                 refine op_v (v_move rfl) rfl ?_)
              | (refine op_skip rfl rfl (by simp [undef]) rfl ?_)
            first
              | (refine op_want rfl rfl ?_
                 first | refine op_v (v_fieldB 1 Try.underlying57 rfl rfl fz3 rfl) rfl ?_ | refine op_v (v_fieldI 1 Try.underlying57 rfl rfl fz3 rfl (by assumption)) rfl ?_ | refine op_v (v_field Try.underlying57 rfl fz3 rfl rfl) rfl ?_)
              | (refine op_skip rfl rfl (by simp [undef]) rfl ?_)
            first
              | (refine op_want rfl rfl ?_
                 refine op_v (v_loadA ty3 rfl rfl) rfl ?_)
              | (refine op_skip rfl rfl (by simp [undef]) rfl ?_)
            first
              | (refine op_want rfl rfl ?_
                 refine op_call pl26 rfl rfl ((HDrop_does (id := (gt zs 0).2) (by omega) hzo hzh)) (List.perm_append_comm (l₁ := [_, _])) ?_
                 rintro v79 I79 _ hI79 ⟨b79, us, mu, rfl, hr79, hul, huo, huh, rfl⟩
                 refine OpsJ.view (View.perm (List.perm_append_comm (l₂ := [_, _]))) ?_
                 obtain ⟨rfl, hup, hulast⟩ := hr79.min hzo hzh hpos
                 have hul1 := hup.length_eq
                 simp only [List.length_cons] at hul1)
              | (refine op_skip rfl rfl (by simp [undef]) rfl ?_)
            first
              | (refine op_want rfl rfl ?_
                 refine op_v (v_not rfl) rfl ?_)
              | (refine op_skip rfl rfl (by simp [undef]) rfl ?_)
            first | refine op_v (v_pickt rfl rfl) rfl ?_ | refine op_v (v_pickf rfl rfl) rfl ?_ | refine op_v (v_pickb rfl rfl rfl) rfl ?_
            refine op_v (v_move rfl) rfl ?_
            first
              | (refine op_want rfl rfl ?_
                 refine op_v (v_move rfl) rfl ?_)
              | (refine op_skip rfl rfl (by simp [undef]) rfl ?_)
            first
              | (refine op_want rfl rfl ?_
                 refine op_call pl30 rfl rfl ((HSize_does)) (List.perm_append_comm (l₁ := [_, _])) ?_
                 rintro v84 I84 _ hI84 ⟨rfl, rfl⟩
                 refine OpsJ.view (View.perm (List.perm_append_comm (l₂ := [_, _]))) ?_)
              | (refine op_skip rfl rfl (by simp [undef]) rfl ?_)
            first
              | (refine op_want rfl rfl ?_
                 refine op_v (v_move rfl) rfl ?_)
              | (refine op_skip rfl rfl (by simp [undef]) rfl ?_)
            first
              | (refine op_want rfl rfl ?_
                 refine op_v (v_move rfl) rfl ?_)
              | (refine op_skip rfl rfl (by simp [undef]) rfl ?_)
            first
              | (refine op_want rfl rfl ?_
                 first | refine op_v (v_subb rfl rfl rfl (by omega)) rfl ?_ | refine op_v (v_sub rfl rfl) rfl ?_)
              | (refine op_skip rfl rfl (by simp [undef]) rfl ?_)
            first
              | (refine op_want rfl rfl ?_
                 first | refine op_v (v_subb rfl rfl rfl (by omega)) rfl ?_ | refine op_v (v_sub rfl rfl) rfl ?_)
              | (refine op_skip rfl rfl (by simp [undef]) rfl ?_)
            first
              | (refine op_want rfl rfl ?_
                 first | refine op_v (v_cmptA rfl rfl rfl) rfl ?_ | refine op_v (v_cmpfA rfl rfl rfl) rfl ?_ | refine op_v (v_cmp rfl rfl rfl) rfl ?_)
              | (refine op_skip rfl rfl (by simp [undef]) rfl ?_)
            first | refine op_v (v_pickt rfl rfl) rfl ?_ | refine op_v (v_pickf rfl rfl) rfl ?_ | refine op_v (v_pickb rfl rfl rfl) rfl ?_
            refine ops_nil ?_
            refine post_next ?_
            refine code_cond_f rfl ?_
            refine code_skip ?_
            refine post_next ?_
            refine code_seq ?_
            refine code_region ?_
            refine op_v (v_assign rfl) rfl ?_
            refine ops_nil ?_
            refine post_next ?_
            refine code_seq ?_
            refine code_seq ?_
            refine code_region ?_
            refine op_v (v_assign rfl) rfl ?_
            refine ops_nil ?_
            refine post_next ?_
            refine code_block ?_
            refine code_loop (fun m σ' I' δ' => ∃ k : Nat, m = xs.length - k ∧ k ≤ xs.length ∧ σ' = [(0, .slice A xs.length c), (3, .pointer (some ⟨hb, 0, none⟩)), (4, .int .i64 ys.length), (7, .pointer (some ⟨b7, 0, none⟩)), (8, .int .i64 i), (9, .pointer (some ⟨b9, 0, none⟩)), (11, .bool ((xs.take k).any fun z => itEq z (gt zs 0))), (12, .int .i64 k)] ∧ I84.le I' ∧ δ' = .box b9 57 [.int .i64 (gt zs 0).1, .int .i64 (gt zs 0).2] :: .box b7 57 [.int .i64 last.1, .int .i64 last.2] :: HeapE hb mb Ah ch us mu) xs.length [(0, .slice A xs.length c), (3, .pointer (some ⟨hb, 0, none⟩)), (4, .int .i64 ys.length), (7, .pointer (some ⟨b7, 0, none⟩)), (8, .int .i64 i), (9, .pointer (some ⟨b9, 0, none⟩)), (11, .bool false), (12, .int .i64 (0 : Nat))] ⟨0, rfl, by omega, rfl, Imm.le_refl _, rfl⟩ ⟨rfl, rfl, rfl, rfl, rfl, rfl, rfl, rfl, trivial⟩ ?_
            rintro m _ I3 _ ⟨k, rfl, hk, rfl, hI3, rfl⟩
            refine code_seq ?_
            refine code_seq ?_
            refine code_region ?_
            refine op_v (v_move rfl) rfl ?_
            refine op_v (v_move rfl) rfl ?_
            refine op_v (v_len Try.underlying51 rfl) rfl ?_
            first | refine op_v (v_cmptA rfl rfl rfl) rfl ?_ | refine op_v (v_cmpfA rfl rfl rfl) rfl ?_ | refine op_v (v_cmp rfl rfl rfl) rfl ?_
            refine ops_nil ?_
            refine post_next ?_
            refine code_cond rfl (fun hc6 => ?_) (fun hc6 => ?_)
            · have hkl : k < xs.length := by have h := hc6; simp at h; omega
              have hs1 := (hat k hkl).isSome
              have hle3 : I.le I3 := Imm.leA
              have htk := List.take_concat_get hkl
              refine code_skip ?_
              refine post_next ?_
              refine code_seq ?_
              refine code_block ?_
              refine code_draw (.fl 0 (.fl 1 (.fl 2 (.fl 3 (.fl 4 (.fl 5 (.fl 6 (.fl 7 (.fl 8 (.ef 9 .done)))))))))) (fun _ => _) mixed (by kernel_rfl) (by kernel_rfl) (fun _ => (List.Sublist.refl _)) ?_
              by_cases hq : ((xs.take k).any fun z => itEq z (gt zs 0)) = true
              · rw [hq]
                refine e_fl rfl rfl (fun hs_ => PF.mk rfl (v_move rfl) hs_) ?_
                refine e_fl rfl rfl (fun hs_ => PF.mk rfl (v_move rfl) hs_) ?_
                first | refine e_fl rfl rfl (fun hs_ => PF.mkg rfl rfl rfl (v_move rfl) hs_) ?_ | refine e_fl rfl rfl (fun hs_ => PF.mks rfl (by intro c hc; cases hc) rfl rfl (by simp [undef]) hs_) ?_
                first | refine e_fl rfl rfl (fun hs_ => PF.mkg rfl rfl rfl (v_move rfl) hs_) ?_ | refine e_fl rfl rfl (fun hs_ => PF.mks rfl (by intro c hc; cases hc) rfl rfl (by simp [undef]) hs_) ?_
                first | refine e_fl rfl rfl (fun hs_ => PF.mkg rfl rfl rfl (v_indexA Try.underlying51 sz57 rfl rfl) hs_) ?_ | refine e_fl rfl rfl (fun hs_ => PF.mkg rfl rfl rfl (v_indexIA Try.underlying51 sz57 rfl rfl) hs_) ?_ | refine e_fl rfl rfl (fun hs_ => PF.mks rfl (by intro c hc; cases hc) rfl rfl (by simp [undef]) hs_) ?_
                first | refine e_fl rfl rfl (fun hs_ => PF.mkg rfl rfl rfl (v_loadI0 ty57 ((hat k hkl).mono hle3) rfl rfl rfl) hs_) ?_ | refine e_fl rfl rfl (fun hs_ => PF.mkg rfl rfl rfl (v_loadI ty57 ((hat k hkl).mono hle3) rfl rfl rfl) hs_) ?_ | refine e_fl rfl rfl (fun hs_ => PF.mks rfl (by intro c hc; cases hc) rfl rfl (by simp [undef]) hs_) ?_
                first | refine e_fl rfl rfl (fun hs_ => PF.mkg rfl rfl rfl (v_loadA ty57 rfl rfl) hs_) ?_ | refine e_fl rfl rfl (fun hs_ => PF.mks rfl (by intro c hc; cases hc) rfl rfl (by simp [undef]) hs_) ?_
                first | refine e_fl rfl rfl (fun hs_ => PF.mkg rfl rfl rfl (v_eqIt itTy rfl rfl rfl) hs_) ?_ | refine e_fl rfl rfl (fun hs_ => PF.mks rfl (by intro c hc; cases hc) rfl rfl (by simp [undef]) hs_) ?_
                first | refine e_fl rfl rfl (fun hs_ => PF.mk rfl (v_pickt rfl rfl) hs_) ?_ | refine e_fl rfl rfl (fun hs_ => PF.mk rfl (v_pickf rfl rfl) hs_) ?_ | refine e_fl rfl rfl (fun hs_ => PF.mk rfl (v_pickb rfl rfl rfl) hs_) ?_
                refine e_eff rfl (by intro cs b hc; cases hc) (by intro c hc; cases hc) ?_
                refine op_v (v_assign rfl) rfl ?_
                refine ops_nil ?_
                refine e_next rfl (side_nil (by kernel_rfl)) ?_
                refine e_done ?_
                refine post_out ?_
                refine post_next ?_
                refine code_region ?_
                refine op_v (v_move rfl) rfl ?_
                first | refine op_v (v_addb rfl rfl rfl (by omega)) rfl ?_ | refine op_v (v_add rfl rfl) rfl ?_
                refine op_v (v_assign rfl) rfl ?_
                refine ops_nil ?_
                refine post_again (xs.length - (k + 1)) [(0, .slice A xs.length c), (3, .pointer (some ⟨hb, 0, none⟩)), (4, .int .i64 ys.length), (7, .pointer (some ⟨b7, 0, none⟩)), (8, .int .i64 i), (9, .pointer (some ⟨b9, 0, none⟩)), (11, .bool ((xs.take (k + 1)).any fun z => itEq z (gt zs 0))), (12, .int .i64 (k + 1 : Nat))] (by omega) ⟨k + 1, rfl, hkl, rfl, Imm.leA, rfl⟩ ⟨rfl, rfl, rfl, rfl, rfl, rfl, by rw [← htk, List.concat_eq_append, List.any_append, hq]; rfl, rfl, trivial⟩
              · have hq' : ((xs.take k).any fun z => itEq z (gt zs 0)) = false := by simpa using hq
                rw [hq']
                refine e_fl rfl rfl (fun hs_ => PF.mk rfl (v_move rfl) hs_) ?_
                refine e_fl rfl rfl (fun hs_ => PF.mk rfl (v_move rfl) hs_) ?_
                first | refine e_fl rfl rfl (fun hs_ => PF.mkg rfl rfl rfl (v_move rfl) hs_) ?_ | refine e_fl rfl rfl (fun hs_ => PF.mks rfl (by intro c hc; cases hc) rfl rfl (by simp [undef]) hs_) ?_
                first | refine e_fl rfl rfl (fun hs_ => PF.mkg rfl rfl rfl (v_move rfl) hs_) ?_ | refine e_fl rfl rfl (fun hs_ => PF.mks rfl (by intro c hc; cases hc) rfl rfl (by simp [undef]) hs_) ?_
                first | refine e_fl rfl rfl (fun hs_ => PF.mkg rfl rfl rfl (v_indexA Try.underlying51 sz57 rfl rfl) hs_) ?_ | refine e_fl rfl rfl (fun hs_ => PF.mkg rfl rfl rfl (v_indexIA Try.underlying51 sz57 rfl rfl) hs_) ?_ | refine e_fl rfl rfl (fun hs_ => PF.mks rfl (by intro c hc; cases hc) rfl rfl (by simp [undef]) hs_) ?_
                first | refine e_fl rfl rfl (fun hs_ => PF.mkg rfl rfl rfl (v_loadI0 ty57 ((hat k hkl).mono hle3) rfl rfl rfl) hs_) ?_ | refine e_fl rfl rfl (fun hs_ => PF.mkg rfl rfl rfl (v_loadI ty57 ((hat k hkl).mono hle3) rfl rfl rfl) hs_) ?_ | refine e_fl rfl rfl (fun hs_ => PF.mks rfl (by intro c hc; cases hc) rfl rfl (by simp [undef]) hs_) ?_
                first | refine e_fl rfl rfl (fun hs_ => PF.mkg rfl rfl rfl (v_loadA ty57 rfl rfl) hs_) ?_ | refine e_fl rfl rfl (fun hs_ => PF.mks rfl (by intro c hc; cases hc) rfl rfl (by simp [undef]) hs_) ?_
                first | refine e_fl rfl rfl (fun hs_ => PF.mkg rfl rfl rfl (v_eqIt itTy rfl rfl rfl) hs_) ?_ | refine e_fl rfl rfl (fun hs_ => PF.mks rfl (by intro c hc; cases hc) rfl rfl (by simp [undef]) hs_) ?_
                first | refine e_fl rfl rfl (fun hs_ => PF.mk rfl (v_pickt rfl rfl) hs_) ?_ | refine e_fl rfl rfl (fun hs_ => PF.mk rfl (v_pickf rfl rfl) hs_) ?_ | refine e_fl rfl rfl (fun hs_ => PF.mk rfl (v_pickb rfl rfl rfl) hs_) ?_
                refine e_eff rfl (by intro cs b hc; cases hc) (by intro c hc; cases hc) ?_
                refine op_v (v_assign rfl) rfl ?_
                refine ops_nil ?_
                refine e_next rfl (side_nil (by kernel_rfl)) ?_
                refine e_done ?_
                refine post_out ?_
                refine post_next ?_
                refine code_region ?_
                refine op_v (v_move rfl) rfl ?_
                first | refine op_v (v_addb rfl rfl rfl (by omega)) rfl ?_ | refine op_v (v_add rfl rfl) rfl ?_
                refine op_v (v_assign rfl) rfl ?_
                refine ops_nil ?_
                refine post_again (xs.length - (k + 1)) [(0, .slice A xs.length c), (3, .pointer (some ⟨hb, 0, none⟩)), (4, .int .i64 ys.length), (7, .pointer (some ⟨b7, 0, none⟩)), (8, .int .i64 i), (9, .pointer (some ⟨b9, 0, none⟩)), (11, .bool ((xs.take (k + 1)).any fun z => itEq z (gt zs 0))), (12, .int .i64 (k + 1 : Nat))] (by omega) ⟨k + 1, rfl, hkl, rfl, Imm.leA, rfl⟩ ⟨rfl, rfl, rfl, rfl, rfl, rfl, by rw [← htk, List.concat_eq_append, List.any_append, hq']; simp only [List.any_cons, List.any_nil, Bool.or_false, Bool.false_or]; rfl, rfl, trivial⟩
            · have hkg : k = xs.length := by have h := hc6; simp at h; omega
              subst hkg
              have hany : ((xs.take xs.length).any fun z => itEq z (gt zs 0)) = true := by
                rw [List.take_length, List.any_eq_true]
                exact ⟨gt zs 0, hzx _ (gt_mem hpos), itEq_iff.2 rfl⟩
              rw [hany]
              refine code_exit ?_
              refine post_exit_then ?_
              refine post_exit_then ?_
              refine post_exit ?_
              refine post_next ?_
              refine code_seq ?_
              refine code_seq ?_
              refine code_region ?_
              refine op_v (v_move rfl) rfl ?_
              refine op_v (v_not rfl) rfl ?_
              refine ops_nil ?_
              refine post_next ?_
              refine code_cond_f rfl ?_
              refine code_skip ?_
              refine post_next ?_
              refine code_region ?_
              refine op_v (v_loadA ty57 rfl rfl) rfl ?_
              refine o_store ty57 rfl rfl rfl rfl rfl (by repeat (first | exact Swap.here | apply Swap.there)) rfl ?_
              refine ops_nil ?_
              refine post_out ?_
              refine post_next ?_
              refine code_region ?_
              refine op_v (v_move rfl) rfl ?_
              first | refine op_v (v_addb rfl rfl rfl (by omega)) rfl ?_ | refine op_v (v_add rfl rfl) rfl ?_
              refine op_v (v_assign rfl) rfl ?_
              refine ops_nil ?_
              refine PostJ.view (View.drop Del.here) ?_
              refine post_again (ys.length - (i + 1)) [(0, .slice A xs.length c), (3, .pointer (some ⟨hb, 0, none⟩)), (4, .int .i64 ys.length), (7, .pointer (some ⟨b7, 0, none⟩)), (8, .int .i64 (i + 1 : Nat))] (by omega) ⟨i + 1, us, mu, gt zs 0, rfl, by omega, rfl, Imm.leA, rfl, by omega, huo, huh, fun z hz => hzx z (hup.mem_iff.2 (List.mem_cons_of_mem _ hz)), fun _ => hulast⟩ ⟨rfl, rfl, rfl, rfl, rfl, trivial⟩
        · first
            | (refine op_want rfl rfl ?_
               first | refine op_v (v_cmptA rfl rfl rfl) rfl ?_ | refine op_v (v_cmpfA rfl rfl rfl) rfl ?_ | refine op_v (v_cmp rfl rfl rfl) rfl ?_)
            | (refine op_skip rfl rfl (by simp [undef]) rfl ?_)
          first
            | (refine op_want rfl rfl ?_
               refine op_v (v_move rfl) rfl ?_)
            | (refine op_skip rfl rfl (by simp [undef]) rfl ?_)
          first
            | (refine op_want rfl rfl ?_
               first | refine op_v (v_fieldB 0 Try.underlying57 rfl rfl fz3 rfl) rfl ?_ | refine op_v (v_fieldI 0 Try.underlying57 rfl rfl fz3 rfl (by assumption)) rfl ?_ | refine op_v (v_field Try.underlying57 rfl fz3 rfl rfl) rfl ?_)
            | (refine op_skip rfl rfl (by simp [undef]) rfl ?_)
          first
            | (refine op_want rfl rfl ?_
               refine op_v (v_loadA ty3 rfl rfl) rfl ?_)
            | (refine op_skip rfl rfl (by simp [undef]) rfl ?_)
          first
            | (refine op_want rfl rfl ?_
               first | refine op_v (v_fieldB 0 Try.underlying57 rfl rfl fz3 rfl) rfl ?_ | refine op_v (v_fieldI 0 Try.underlying57 rfl rfl fz3 rfl (by assumption)) rfl ?_ | refine op_v (v_field Try.underlying57 rfl fz3 rfl rfl) rfl ?_)
            | (refine op_skip rfl rfl (by simp [undef]) rfl ?_)
          first
            | (refine op_want rfl rfl ?_
               refine op_v (v_loadA ty3 rfl rfl) rfl ?_)
            | (refine op_skip rfl rfl (by simp [undef]) rfl ?_)
          first
            | (refine op_want rfl rfl ?_
               first | refine op_v (v_cmptA rfl rfl rfl) rfl ?_ | refine op_v (v_cmpfA rfl rfl rfl) rfl ?_ | refine op_v (v_cmp rfl rfl rfl) rfl ?_)
            | (refine op_skip rfl rfl (by simp [undef]) rfl ?_)
          first
            | (refine op_want rfl rfl ?_
               refine op_v (v_move rfl) rfl ?_)
            | (refine op_skip rfl rfl (by simp [undef]) rfl ?_)
          first
            | (refine op_want rfl rfl ?_
               first | refine op_v (v_fieldB 0 Try.underlying57 rfl rfl fz3 rfl) rfl ?_ | refine op_v (v_fieldI 0 Try.underlying57 rfl rfl fz3 rfl (by assumption)) rfl ?_ | refine op_v (v_field Try.underlying57 rfl fz3 rfl rfl) rfl ?_)
            | (refine op_skip rfl rfl (by simp [undef]) rfl ?_)
          first
            | (refine op_want rfl rfl ?_
               refine op_v (v_loadA ty3 rfl rfl) rfl ?_)
            | (refine op_skip rfl rfl (by simp [undef]) rfl ?_)
          first
            | (refine op_want rfl rfl ?_
               first | refine op_v (v_fieldB 0 Try.underlying57 rfl rfl fz3 rfl) rfl ?_ | refine op_v (v_fieldI 0 Try.underlying57 rfl rfl fz3 rfl (by assumption)) rfl ?_ | refine op_v (v_field Try.underlying57 rfl fz3 rfl rfl) rfl ?_)
            | (refine op_skip rfl rfl (by simp [undef]) rfl ?_)
          first
            | (refine op_want rfl rfl ?_
               refine op_v (v_loadA ty3 rfl rfl) rfl ?_)
            | (refine op_skip rfl rfl (by simp [undef]) rfl ?_)
          first
            | (refine op_want rfl rfl ?_
               first | refine op_v (v_cmptA rfl rfl rfl) rfl ?_ | refine op_v (v_cmpfA rfl rfl rfl) rfl ?_ | refine op_v (v_cmp rfl rfl rfl) rfl ?_)
            | (refine op_skip rfl rfl (by simp [undef]) rfl ?_)
          first
            | (refine op_want rfl rfl ?_
               refine op_v (v_move rfl) rfl ?_)
            | (refine op_skip rfl rfl (by simp [undef]) rfl ?_)
          first
            | (refine op_want rfl rfl ?_
               first | refine op_v (v_fieldB 1 Try.underlying57 rfl rfl fz3 rfl) rfl ?_ | refine op_v (v_fieldI 1 Try.underlying57 rfl rfl fz3 rfl (by assumption)) rfl ?_ | refine op_v (v_field Try.underlying57 rfl fz3 rfl rfl) rfl ?_)
            | (refine op_skip rfl rfl (by simp [undef]) rfl ?_)
          first
            | (refine op_want rfl rfl ?_
               refine op_v (v_loadA ty3 rfl rfl) rfl ?_)
            | (refine op_skip rfl rfl (by simp [undef]) rfl ?_)
          first
            | (refine op_want rfl rfl ?_
               first | refine op_v (v_fieldB 1 Try.underlying57 rfl rfl fz3 rfl) rfl ?_ | refine op_v (v_fieldI 1 Try.underlying57 rfl rfl fz3 rfl (by assumption)) rfl ?_ | refine op_v (v_field Try.underlying57 rfl fz3 rfl rfl) rfl ?_)
            | (refine op_skip rfl rfl (by simp [undef]) rfl ?_)
          first
            | (refine op_want rfl rfl ?_
               refine op_v (v_loadA ty3 rfl rfl) rfl ?_)
            | (refine op_skip rfl rfl (by simp [undef]) rfl ?_)
          first
            | (refine op_want rfl rfl ?_
               first | refine op_v (v_cmptA rfl rfl rfl) rfl ?_ | refine op_v (v_cmpfA rfl rfl rfl) rfl ?_ | refine op_v (v_cmp rfl rfl rfl) rfl ?_)
            | (refine op_skip rfl rfl (by simp [undef]) rfl ?_)
          first
            | (refine op_want rfl rfl ?_
               first | refine op_v (v_pickt rfl rfl) rfl ?_ | refine op_v (v_pickf rfl rfl) rfl ?_ | refine op_v (v_pickb rfl rfl rfl) rfl ?_)
            | (refine op_skip rfl rfl (by simp [undef]) rfl ?_)
          first
            | (refine op_want rfl rfl ?_
               first | refine op_v (v_pickt rfl rfl) rfl ?_ | refine op_v (v_pickf rfl rfl) rfl ?_ | refine op_v (v_pickb rfl rfl rfl) rfl ?_)
            | (refine op_skip rfl rfl (by simp [undef]) rfl ?_)
          first
            | (refine op_want rfl rfl ?_
               first | refine op_v (v_pickt rfl rfl) rfl ?_ | refine op_v (v_pickf rfl rfl) rfl ?_ | refine op_v (v_pickb rfl rfl rfl) rfl ?_)
            | (refine op_skip rfl rfl (by simp [undef]) rfl ?_)
          first | refine op_v (v_pickt rfl rfl) rfl ?_ | refine op_v (v_pickf rfl rfl) rfl ?_ | refine op_v (v_pickb rfl rfl rfl) rfl ?_
          refine op_v (v_move rfl) rfl ?_
          first
            | (refine op_want rfl rfl ?_
               refine op_v (v_move rfl) rfl ?_)
            | (refine op_skip rfl rfl (by simp [undef]) rfl ?_)
          first
            | (refine op_want rfl rfl ?_
               first | refine op_v (v_fieldB 1 Try.underlying57 rfl rfl fz3 rfl) rfl ?_ | refine op_v (v_fieldI 1 Try.underlying57 rfl rfl fz3 rfl (by assumption)) rfl ?_ | refine op_v (v_field Try.underlying57 rfl fz3 rfl rfl) rfl ?_)
            | (refine op_skip rfl rfl (by simp [undef]) rfl ?_)
          first
            | (refine op_want rfl rfl ?_
               refine op_v (v_loadA ty3 rfl rfl) rfl ?_)
            | (refine op_skip rfl rfl (by simp [undef]) rfl ?_)
          first
            | (refine op_want rfl rfl ?_
               refine op_call pl26 rfl rfl ((HDrop_does (id := (gt zs 0).2) (by omega) hzo hzh)) (List.perm_append_comm (l₁ := [_, _])) ?_
               rintro v79 I79 _ hI79 ⟨b79, us, mu, rfl, hr79, hul, huo, huh, rfl⟩
               refine OpsJ.view (View.perm (List.perm_append_comm (l₂ := [_, _]))) ?_
               obtain ⟨rfl, hup, hulast⟩ := hr79.min hzo hzh hpos
               have hul1 := hup.length_eq
               simp only [List.length_cons] at hul1)
            | (refine op_skip rfl rfl (by simp [undef]) rfl ?_)
          first
            | (refine op_want rfl rfl ?_
               refine op_v (v_not rfl) rfl ?_)
            | (refine op_skip rfl rfl (by simp [undef]) rfl ?_)
          first | refine op_v (v_pickt rfl rfl) rfl ?_ | refine op_v (v_pickf rfl rfl) rfl ?_ | refine op_v (v_pickb rfl rfl rfl) rfl ?_
          refine op_v (v_move rfl) rfl ?_
          first
            | (refine op_want rfl rfl ?_
               refine op_v (v_move rfl) rfl ?_)
            | (refine op_skip rfl rfl (by simp [undef]) rfl ?_)
          first
            | (refine op_want rfl rfl ?_
               refine op_call pl30 rfl rfl ((HSize_does)) (List.perm_append_comm (l₁ := [_, _])) ?_
               rintro v84 I84 _ hI84 ⟨rfl, rfl⟩
               refine OpsJ.view (View.perm (List.perm_append_comm (l₂ := [_, _]))) ?_)
            | (refine op_skip rfl rfl (by simp [undef]) rfl ?_)
          first
            | (refine op_want rfl rfl ?_
               refine op_v (v_move rfl) rfl ?_)
            | (refine op_skip rfl rfl (by simp [undef]) rfl ?_)
          first
            | (refine op_want rfl rfl ?_
               refine op_v (v_move rfl) rfl ?_)
            | (refine op_skip rfl rfl (by simp [undef]) rfl ?_)
          first
            | (refine op_want rfl rfl ?_
               first | refine op_v (v_subb rfl rfl rfl (by omega)) rfl ?_ | refine op_v (v_sub rfl rfl) rfl ?_)
            | (refine op_skip rfl rfl (by simp [undef]) rfl ?_)
          first
            | (refine op_want rfl rfl ?_
               first | refine op_v (v_subb rfl rfl rfl (by omega)) rfl ?_ | refine op_v (v_sub rfl rfl) rfl ?_)
            | (refine op_skip rfl rfl (by simp [undef]) rfl ?_)
          first
            | (refine op_want rfl rfl ?_
               first | refine op_v (v_cmptA rfl rfl rfl) rfl ?_ | refine op_v (v_cmpfA rfl rfl rfl) rfl ?_ | refine op_v (v_cmp rfl rfl rfl) rfl ?_)
            | (refine op_skip rfl rfl (by simp [undef]) rfl ?_)
          first | refine op_v (v_pickt rfl rfl) rfl ?_ | refine op_v (v_pickf rfl rfl) rfl ?_ | refine op_v (v_pickb rfl rfl rfl) rfl ?_
          refine ops_nil ?_
          refine post_next ?_
          refine code_cond_f rfl ?_
          refine code_skip ?_
          refine post_next ?_
          refine code_seq ?_
          refine code_region ?_
          refine op_v (v_assign rfl) rfl ?_
          refine ops_nil ?_
          refine post_next ?_
          refine code_seq ?_
          refine code_seq ?_
          refine code_region ?_
          refine op_v (v_assign rfl) rfl ?_
          refine ops_nil ?_
          refine post_next ?_
          refine code_block ?_
          refine code_loop (fun m σ' I' δ' => ∃ k : Nat, m = xs.length - k ∧ k ≤ xs.length ∧ σ' = [(0, .slice A xs.length c), (3, .pointer (some ⟨hb, 0, none⟩)), (4, .int .i64 ys.length), (7, .pointer (some ⟨b7, 0, none⟩)), (8, .int .i64 i), (9, .pointer (some ⟨b9, 0, none⟩)), (11, .bool ((xs.take k).any fun z => itEq z (gt zs 0))), (12, .int .i64 k)] ∧ I84.le I' ∧ δ' = .box b9 57 [.int .i64 (gt zs 0).1, .int .i64 (gt zs 0).2] :: .box b7 57 [.int .i64 last.1, .int .i64 last.2] :: HeapE hb mb Ah ch us mu) xs.length [(0, .slice A xs.length c), (3, .pointer (some ⟨hb, 0, none⟩)), (4, .int .i64 ys.length), (7, .pointer (some ⟨b7, 0, none⟩)), (8, .int .i64 i), (9, .pointer (some ⟨b9, 0, none⟩)), (11, .bool false), (12, .int .i64 (0 : Nat))] ⟨0, rfl, by omega, rfl, Imm.le_refl _, rfl⟩ ⟨rfl, rfl, rfl, rfl, rfl, rfl, rfl, rfl, trivial⟩ ?_
          rintro m _ I3 _ ⟨k, rfl, hk, rfl, hI3, rfl⟩
          refine code_seq ?_
          refine code_seq ?_
          refine code_region ?_
          refine op_v (v_move rfl) rfl ?_
          refine op_v (v_move rfl) rfl ?_
          refine op_v (v_len Try.underlying51 rfl) rfl ?_
          first | refine op_v (v_cmptA rfl rfl rfl) rfl ?_ | refine op_v (v_cmpfA rfl rfl rfl) rfl ?_ | refine op_v (v_cmp rfl rfl rfl) rfl ?_
          refine ops_nil ?_
          refine post_next ?_
          refine code_cond rfl (fun hc6 => ?_) (fun hc6 => ?_)
          · have hkl : k < xs.length := by have h := hc6; simp at h; omega
            have hs1 := (hat k hkl).isSome
            have hle3 : I.le I3 := Imm.leA
            have htk := List.take_concat_get hkl
            refine code_skip ?_
            refine post_next ?_
            refine code_seq ?_
            refine code_block ?_
            refine code_draw (.fl 0 (.fl 1 (.fl 2 (.fl 3 (.fl 4 (.fl 5 (.fl 6 (.fl 7 (.fl 8 (.ef 9 .done)))))))))) (fun _ => _) mixed (by kernel_rfl) (by kernel_rfl) (fun _ => (List.Sublist.refl _)) ?_
            by_cases hq : ((xs.take k).any fun z => itEq z (gt zs 0)) = true
            · rw [hq]
              refine e_fl rfl rfl (fun hs_ => PF.mk rfl (v_move rfl) hs_) ?_
              refine e_fl rfl rfl (fun hs_ => PF.mk rfl (v_move rfl) hs_) ?_
              first | refine e_fl rfl rfl (fun hs_ => PF.mkg rfl rfl rfl (v_move rfl) hs_) ?_ | refine e_fl rfl rfl (fun hs_ => PF.mks rfl (by intro c hc; cases hc) rfl rfl (by simp [undef]) hs_) ?_
              first | refine e_fl rfl rfl (fun hs_ => PF.mkg rfl rfl rfl (v_move rfl) hs_) ?_ | refine e_fl rfl rfl (fun hs_ => PF.mks rfl (by intro c hc; cases hc) rfl rfl (by simp [undef]) hs_) ?_
              first | refine e_fl rfl rfl (fun hs_ => PF.mkg rfl rfl rfl (v_indexA Try.underlying51 sz57 rfl rfl) hs_) ?_ | refine e_fl rfl rfl (fun hs_ => PF.mkg rfl rfl rfl (v_indexIA Try.underlying51 sz57 rfl rfl) hs_) ?_ | refine e_fl rfl rfl (fun hs_ => PF.mks rfl (by intro c hc; cases hc) rfl rfl (by simp [undef]) hs_) ?_
              first | refine e_fl rfl rfl (fun hs_ => PF.mkg rfl rfl rfl (v_loadI0 ty57 ((hat k hkl).mono hle3) rfl rfl rfl) hs_) ?_ | refine e_fl rfl rfl (fun hs_ => PF.mkg rfl rfl rfl (v_loadI ty57 ((hat k hkl).mono hle3) rfl rfl rfl) hs_) ?_ | refine e_fl rfl rfl (fun hs_ => PF.mks rfl (by intro c hc; cases hc) rfl rfl (by simp [undef]) hs_) ?_
              first | refine e_fl rfl rfl (fun hs_ => PF.mkg rfl rfl rfl (v_loadA ty57 rfl rfl) hs_) ?_ | refine e_fl rfl rfl (fun hs_ => PF.mks rfl (by intro c hc; cases hc) rfl rfl (by simp [undef]) hs_) ?_
              first | refine e_fl rfl rfl (fun hs_ => PF.mkg rfl rfl rfl (v_eqIt itTy rfl rfl rfl) hs_) ?_ | refine e_fl rfl rfl (fun hs_ => PF.mks rfl (by intro c hc; cases hc) rfl rfl (by simp [undef]) hs_) ?_
              first | refine e_fl rfl rfl (fun hs_ => PF.mk rfl (v_pickt rfl rfl) hs_) ?_ | refine e_fl rfl rfl (fun hs_ => PF.mk rfl (v_pickf rfl rfl) hs_) ?_ | refine e_fl rfl rfl (fun hs_ => PF.mk rfl (v_pickb rfl rfl rfl) hs_) ?_
              refine e_eff rfl (by intro cs b hc; cases hc) (by intro c hc; cases hc) ?_
              refine op_v (v_assign rfl) rfl ?_
              refine ops_nil ?_
              refine e_next rfl (side_nil (by kernel_rfl)) ?_
              refine e_done ?_
              refine post_out ?_
              refine post_next ?_
              refine code_region ?_
              refine op_v (v_move rfl) rfl ?_
              first | refine op_v (v_addb rfl rfl rfl (by omega)) rfl ?_ | refine op_v (v_add rfl rfl) rfl ?_
              refine op_v (v_assign rfl) rfl ?_
              refine ops_nil ?_
              refine post_again (xs.length - (k + 1)) [(0, .slice A xs.length c), (3, .pointer (some ⟨hb, 0, none⟩)), (4, .int .i64 ys.length), (7, .pointer (some ⟨b7, 0, none⟩)), (8, .int .i64 i), (9, .pointer (some ⟨b9, 0, none⟩)), (11, .bool ((xs.take (k + 1)).any fun z => itEq z (gt zs 0))), (12, .int .i64 (k + 1 : Nat))] (by omega) ⟨k + 1, rfl, hkl, rfl, Imm.leA, rfl⟩ ⟨rfl, rfl, rfl, rfl, rfl, rfl, by rw [← htk, List.concat_eq_append, List.any_append, hq]; rfl, rfl, trivial⟩
            · have hq' : ((xs.take k).any fun z => itEq z (gt zs 0)) = false := by simpa using hq
              rw [hq']
              refine e_fl rfl rfl (fun hs_ => PF.mk rfl (v_move rfl) hs_) ?_
              refine e_fl rfl rfl (fun hs_ => PF.mk rfl (v_move rfl) hs_) ?_
              first | refine e_fl rfl rfl (fun hs_ => PF.mkg rfl rfl rfl (v_move rfl) hs_) ?_ | refine e_fl rfl rfl (fun hs_ => PF.mks rfl (by intro c hc; cases hc) rfl rfl (by simp [undef]) hs_) ?_
              first | refine e_fl rfl rfl (fun hs_ => PF.mkg rfl rfl rfl (v_move rfl) hs_) ?_ | refine e_fl rfl rfl (fun hs_ => PF.mks rfl (by intro c hc; cases hc) rfl rfl (by simp [undef]) hs_) ?_
              first | refine e_fl rfl rfl (fun hs_ => PF.mkg rfl rfl rfl (v_indexA Try.underlying51 sz57 rfl rfl) hs_) ?_ | refine e_fl rfl rfl (fun hs_ => PF.mkg rfl rfl rfl (v_indexIA Try.underlying51 sz57 rfl rfl) hs_) ?_ | refine e_fl rfl rfl (fun hs_ => PF.mks rfl (by intro c hc; cases hc) rfl rfl (by simp [undef]) hs_) ?_
              first | refine e_fl rfl rfl (fun hs_ => PF.mkg rfl rfl rfl (v_loadI0 ty57 ((hat k hkl).mono hle3) rfl rfl rfl) hs_) ?_ | refine e_fl rfl rfl (fun hs_ => PF.mkg rfl rfl rfl (v_loadI ty57 ((hat k hkl).mono hle3) rfl rfl rfl) hs_) ?_ | refine e_fl rfl rfl (fun hs_ => PF.mks rfl (by intro c hc; cases hc) rfl rfl (by simp [undef]) hs_) ?_
              first | refine e_fl rfl rfl (fun hs_ => PF.mkg rfl rfl rfl (v_loadA ty57 rfl rfl) hs_) ?_ | refine e_fl rfl rfl (fun hs_ => PF.mks rfl (by intro c hc; cases hc) rfl rfl (by simp [undef]) hs_) ?_
              first | refine e_fl rfl rfl (fun hs_ => PF.mkg rfl rfl rfl (v_eqIt itTy rfl rfl rfl) hs_) ?_ | refine e_fl rfl rfl (fun hs_ => PF.mks rfl (by intro c hc; cases hc) rfl rfl (by simp [undef]) hs_) ?_
              first | refine e_fl rfl rfl (fun hs_ => PF.mk rfl (v_pickt rfl rfl) hs_) ?_ | refine e_fl rfl rfl (fun hs_ => PF.mk rfl (v_pickf rfl rfl) hs_) ?_ | refine e_fl rfl rfl (fun hs_ => PF.mk rfl (v_pickb rfl rfl rfl) hs_) ?_
              refine e_eff rfl (by intro cs b hc; cases hc) (by intro c hc; cases hc) ?_
              refine op_v (v_assign rfl) rfl ?_
              refine ops_nil ?_
              refine e_next rfl (side_nil (by kernel_rfl)) ?_
              refine e_done ?_
              refine post_out ?_
              refine post_next ?_
              refine code_region ?_
              refine op_v (v_move rfl) rfl ?_
              first | refine op_v (v_addb rfl rfl rfl (by omega)) rfl ?_ | refine op_v (v_add rfl rfl) rfl ?_
              refine op_v (v_assign rfl) rfl ?_
              refine ops_nil ?_
              refine post_again (xs.length - (k + 1)) [(0, .slice A xs.length c), (3, .pointer (some ⟨hb, 0, none⟩)), (4, .int .i64 ys.length), (7, .pointer (some ⟨b7, 0, none⟩)), (8, .int .i64 i), (9, .pointer (some ⟨b9, 0, none⟩)), (11, .bool ((xs.take (k + 1)).any fun z => itEq z (gt zs 0))), (12, .int .i64 (k + 1 : Nat))] (by omega) ⟨k + 1, rfl, hkl, rfl, Imm.leA, rfl⟩ ⟨rfl, rfl, rfl, rfl, rfl, rfl, by rw [← htk, List.concat_eq_append, List.any_append, hq']; simp only [List.any_cons, List.any_nil, Bool.or_false, Bool.false_or]; rfl, rfl, trivial⟩
          · have hkg : k = xs.length := by have h := hc6; simp at h; omega
            subst hkg
            have hany : ((xs.take xs.length).any fun z => itEq z (gt zs 0)) = true := by
              rw [List.take_length, List.any_eq_true]
              exact ⟨gt zs 0, hzx _ (gt_mem hpos), itEq_iff.2 rfl⟩
            rw [hany]
            refine code_exit ?_
            refine post_exit_then ?_
            refine post_exit_then ?_
            refine post_exit ?_
            refine post_next ?_
            refine code_seq ?_
            refine code_seq ?_
            refine code_region ?_
            refine op_v (v_move rfl) rfl ?_
            refine op_v (v_not rfl) rfl ?_
            refine ops_nil ?_
            refine post_next ?_
            refine code_cond_f rfl ?_
            refine code_skip ?_
            refine post_next ?_
            refine code_region ?_
            refine op_v (v_loadA ty57 rfl rfl) rfl ?_
            refine o_store ty57 rfl rfl rfl rfl rfl (by repeat (first | exact Swap.here | apply Swap.there)) rfl ?_
            refine ops_nil ?_
            refine post_out ?_
            refine post_next ?_
            refine code_region ?_
            refine op_v (v_move rfl) rfl ?_
            first | refine op_v (v_addb rfl rfl rfl (by omega)) rfl ?_ | refine op_v (v_add rfl rfl) rfl ?_
            refine op_v (v_assign rfl) rfl ?_
            refine ops_nil ?_
            refine PostJ.view (View.drop Del.here) ?_
            refine post_again (ys.length - (i + 1)) [(0, .slice A xs.length c), (3, .pointer (some ⟨hb, 0, none⟩)), (4, .int .i64 ys.length), (7, .pointer (some ⟨b7, 0, none⟩)), (8, .int .i64 (i + 1 : Nat))] (by omega) ⟨i + 1, us, mu, gt zs 0, rfl, by omega, rfl, Imm.leA, rfl, by omega, huo, huh, fun z hz => hzx z (hup.mem_iff.2 (List.mem_cons_of_mem _ hz)), fun _ => hulast⟩ ⟨rfl, rfl, rfl, rfl, rfl, trivial⟩
      · have hge : i = ys.length := by have h := hc4; simp at h; omega
        have hnil : zs.length = 0 := by omega
        refine code_exit ?_
        refine post_exit_then ?_
        refine post_exit_then ?_
        refine post_exit ?_
        refine post_next ?_
        refine code_seq ?_
        refine code_region ?_
        refine op_v (v_move rfl) rfl ?_
        refine op_call pl28 rfl rfl ((HMin_does (by omega))) (List.perm_append_comm (l₁ := [_])) ?_
        rintro v111 I111 _ hI111 ⟨rfl, rfl⟩
        refine OpsJ.view (View.perm (List.perm_append_comm (l₂ := [_]))) ?_
        rw [show decide (0 < zs.length) = false from decide_eq_false (by omega)]
        refine op_v (v_move rfl) rfl ?_
        refine op_v (v_extract rfl rfl) rfl ?_
        refine op_v (v_extract rfl rfl) rfl ?_
        refine o_alloc z57 rfl rfl (fun b13 => ?_)
        refine o_store ty57 rfl rfl rfl rfl rfl (by repeat (first | exact Swap.here | apply Swap.there)) rfl ?_
        refine op_v (v_assign rfl) rfl ?_
        refine ops_nil ?_
        refine post_next ?_
        refine code_seq ?_
        refine code_region ?_
        refine op_call pl31 rfl rfl ((awake18_does _)) Parts.none ?_
        rintro v114 I114 _ hI114 ⟨rfl, rfl⟩
        refine op_v (v_move rfl) rfl ?_
        first
          | (refine op_want rfl rfl ?_
             refine op_v (v_move rfl) rfl ?_)
          | (refine op_skip rfl rfl (by simp [undef]) rfl ?_)
        first
          | (refine op_want rfl rfl ?_
             refine op_v (v_not rfl) rfl ?_)
          | (refine op_skip rfl rfl (by simp [undef]) rfl ?_)
        first | refine op_v (v_pickt rfl rfl) rfl ?_ | refine op_v (v_pickf rfl rfl) rfl ?_ | refine op_v (v_pickb rfl rfl rfl) rfl ?_
        refine op_v (v_assign rfl) rfl ?_
        refine ops_nil ?_
        refine post_next ?_
        refine code_ret ?_
        refine post_ret (rs := [.tmp 2]) rfl (List.Perm.refl _) (.cons (.tmp rfl) .nil) (List.nil_sublist _) ?_
        exact ⟨rfl, rfl⟩
end Go.Proofs.Ythbcdffldcdfoaa
