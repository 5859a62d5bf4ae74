/- Walk: a clause subsumes itself with terms put, in another order, with more literals; its Norm is a variant of it: the statement. -/
import Derived.Test.YtdbadicpbmndbaaZ4
set_option linter.unusedVariables false
set_option linter.unusedSimpArgs false
set_option linter.unnecessarySimpa false
/- short -/
namespace Go.Proofs.Ytdbadicpbmndbaa
open Go Lg

theorem turnR_take (ys : List Li) {n j : Nat} (hn : n < ys.length) (hj : j = ys.length - 1 - n) : (turnR ys).take (n + 1) = (turnR ys).take n ++ [⟨(ys[j]'(by omega)).neg, (ys[j]'(by omega)).r, (ys[j]'(by omega)).l⟩] := by
  subst hj
  rw [List.take_succ_eq_append_getElem (by simpa [turnR] using hn)]
  simp only [turnR, List.getElem_map, List.getElem_reverse]
theorem sides_app (a b : List Li) : (sidesL (a ++ b)).any badT = ((sidesL a).any badT || (sidesL b).any badT) := by
  unfold sidesL; rw [List.flatMap_append, List.any_append]
theorem turnR_right {ys : List Li} (h : ∀ y ∈ ys, RiL y) : (sidesL (turnR ys)).any badT = false := by
  refine RiL_any fun x hx => ?_
  obtain ⟨y, hy, rfl⟩ := List.mem_map.1 hx
  have := h y (List.mem_reverse.1 hy)
  exact ⟨this.2, this.1⟩
theorem RiL.sm {x : Li} (h : RiL x) : x.l.size ≤ 1000000 ∧ x.r.size ≤ 1000000 := by
  have h1 := chkT_size h.1
  have h2 := chkT_size h.2
  omega
theorem SubsumePuts_does {I : Imm} {va vs vm : Value} {c more : List Li} {bs : List Bi} (ha : RepC I va c) (hs : RepB I vs bs) (hm : RepC I vm more) :
    Does Try.prog 7 [va, vs, vm] I [] (fun v I' δ' => v = .bool true ∧ δ' = []) := by
  obtain ⟨aA, aC, hsh⟩ := RepE.shape ha
  subst hsh
  obtain ⟨mA, mC, xm, hsh, hcm, hbm, hcellm, hrowm⟩ := id hm
  subst hsh
  obtain ⟨sA, sC, hsh⟩ := hs.shape
  subst hsh
  obtain ⟨_, hcs, hbs0, hrs, ss, hat, hsub⟩ := hs.open
  have hba := ha.small
  refine Does.intro Try.func7 rfl Try.ntmps7 rfl fun w0 => ?_
  refine code_seq ?_
  refine code_region ?_
  refine op_v (v_assign rfl) rfl ?_
  refine ops_nil ?_
  refine post_next ?_
  refine code_seq ?_
  refine code_seq ?_
  refine code_region ?_
  refine op_v (v_move rfl) rfl ?_
  refine op_v (v_move rfl) rfl ?_
  refine op_call pl13 rfl rfl ((few15_does ha hm)) Parts.none ?_
  rintro v20 I20 _ hI20 ⟨⟨b20, rfl, hb20⟩, rfl⟩
  by_cases h21 : b20 = true
  · subst h21
    have hfa := (hb20 rfl).1
    have hfm := (hb20 rfl).2
    have hsa := hfa.smM
    have hsm := hfm.smM
    have hfa2 := hfa.2
    refine op_v (v_not rfl) rfl ?_
    refine op_v (v_move rfl) rfl ?_
    first
      | (refine op_want rfl rfl ?_
         refine op_v (v_move rfl) rfl ?_)
      | (refine op_skip rfl rfl (by simp [undef]) rfl ?_)
    first
      | (refine op_want rfl rfl ?_
         refine op_call pl35 rfl rfl ((FewB_does (hs.mono Imm.leA))) Parts.none ?_
         rintro v24 I24 _ hI24 ⟨⟨b24, rfl, hb24⟩, rfl⟩)
      | (refine op_skip rfl rfl (by simp [undef]) rfl ?_)
    by_cases h25 : b24 = true
    · subst h25
      have hbs := hb24 rfl
      first
        | (refine op_want rfl rfl ?_
           refine op_v (v_not rfl) rfl ?_)
        | (refine op_skip rfl rfl (by simp [undef]) rfl ?_)
      first | refine op_v (v_pickt rfl rfl) rfl ?_ | refine op_v (v_pickf rfl rfl) rfl ?_ | refine op_v (v_pickb rfl rfl rfl) rfl ?_
      refine op_v (v_move rfl) rfl ?_
      first
        | (refine op_want rfl rfl ?_
           refine op_v (v_move rfl) rfl ?_)
        | (refine op_skip rfl rfl (by simp [undef]) rfl ?_)
      first
        | (refine op_want rfl rfl ?_
           refine op_v (v_len Try.underlying26 rfl) rfl ?_)
        | (refine op_skip rfl rfl (by simp [undef]) rfl ?_)
      first
        | (refine op_want rfl rfl ?_
           refine op_v (v_move rfl) rfl ?_)
        | (refine op_skip rfl rfl (by simp [undef]) rfl ?_)
      first
        | (refine op_want rfl rfl ?_
           refine op_v (v_len Try.underlying26 rfl) rfl ?_)
        | (refine op_skip rfl rfl (by simp [undef]) rfl ?_)
      first
        | (refine op_want rfl rfl ?_
           refine op_v (v_addb (c := ((c.length + more.length : Nat) : Int)) rfl rfl (by omega) (by omega)) rfl ?_)
        | (refine op_skip rfl rfl (by simp [undef]) rfl ?_)
      by_cases h33 : 8 < c.length + more.length
      · first
          | (refine op_want rfl rfl ?_
             refine op_v (v_cmpt rfl rfl rfl (by omega)) rfl ?_)
          | (refine op_skip rfl rfl (by simp [undef]) rfl ?_)
        first | refine op_v (v_pickt rfl rfl) rfl ?_ | refine op_v (v_pickf rfl rfl) rfl ?_ | refine op_v (v_pickb rfl rfl rfl) rfl ?_
        refine ops_nil ?_
        refine post_next ?_
        refine code_cond_t rfl ?_
        refine code_seq ?_
        refine code_region ?_
        refine op_v (v_assign rfl) rfl ?_
        refine ops_nil ?_
        refine post_next ?_
        refine code_ret ?_
        refine post_ret_then ?_
        refine post_ret (rs := [.tmp 6]) rfl (List.Perm.refl _) (.cons (.tmp rfl) .nil) (List.nil_sublist _) ?_
        exact ⟨rfl, rfl⟩
      · first
          | (refine op_want rfl rfl ?_
             refine op_v (v_cmpf rfl rfl rfl (by omega)) rfl ?_)
          | (refine op_skip rfl rfl (by simp [undef]) rfl ?_)
        first | refine op_v (v_pickt rfl rfl) rfl ?_ | refine op_v (v_pickf rfl rfl) rfl ?_ | refine op_v (v_pickb rfl rfl rfl) rfl ?_
        refine ops_nil ?_
        refine post_next ?_
        refine code_cond_f rfl ?_
        refine code_skip ?_
        refine post_next ?_
        refine code_seq ?_
        refine code_seq ?_
        refine code_region ?_
        refine op_v (v_assign rfl) rfl ?_
        refine ops_nil ?_
        refine post_next ?_
        refine code_block ?_
        refine code_loop (fun m σ' I' δ' => ∃ k : Nat, m = bs.length - k ∧ k ≤ bs.length ∧ σ' = [(0, .slice aA c.length aC), (1, .slice sA bs.length sC), (2, .slice mA more.length mC), (7, .int .i64 k)] ∧ I24.le I' ∧ δ' = [] ∧ ∀ j (h : j < bs.length), j < k → bs[j].2.head ≠ 0) bs.length [(0, .slice aA c.length aC), (1, .slice sA bs.length sC), (2, .slice mA more.length mC), (7, .int .i64 (0 : Nat))] ⟨0, rfl, Nat.zero_le _, rfl, Imm.le_refl _, rfl, fun j _ h => by omega⟩ ⟨rfl, rfl, rfl, rfl, trivial⟩ ?_
        rintro m _ I0 _ ⟨k, rfl, hk, rfl, hI0, rfl, hno⟩
        refine code_seq ?_
        refine code_seq ?_
        refine code_region ?_
        refine op_v (v_move rfl) rfl ?_
        refine op_v (v_move rfl) rfl ?_
        refine op_v (v_len Try.underlying51 rfl) rfl ?_
        first | refine op_v (v_cmptA rfl rfl rfl) rfl ?_ | refine op_v (v_cmpfA rfl rfl rfl) rfl ?_ | refine op_v (v_cmp rfl rfl rfl) rfl ?_
        refine ops_nil ?_
        refine post_next ?_
        refine code_cond rfl (fun hc1 => ?_) (fun hc1 => ?_)
        · have hlt : k < bs.length := by have h := hc1; simp at h; omega
          have hs1 := (hat k hlt).isSome
          refine code_skip ?_
          refine post_next ?_
          refine code_seq ?_
          refine code_block ?_
          refine code_seq ?_
          refine code_region ?_
          refine op_v (v_move rfl) rfl ?_
          refine op_v (v_move rfl) rfl ?_
          first | refine op_v (v_indexA Try.underlying51 sz54 rfl rfl) rfl ?_ | refine op_v (v_indexIA Try.underlying51 sz54 rfl rfl) rfl ?_
          first | refine op_v (v_fieldB 1 Try.underlying54 rfl rfl fz47 rfl) rfl ?_ | refine op_v (v_fieldI 1 Try.underlying54 rfl rfl fz47 rfl (by assumption)) rfl ?_ | refine op_v (v_field Try.underlying54 rfl fz47 rfl rfl) rfl ?_
          first | refine op_v (v_fieldB 0 Try.underlying47 rfl rfl fz3 rfl) rfl ?_ | refine op_v (v_fieldI 0 Try.underlying47 rfl rfl fz3 rfl (by assumption)) rfl ?_ | refine op_v (v_field Try.underlying47 rfl fz3 rfl rfl) rfl ?_
          first | refine op_v (v_loadI0 ty3 ((hat k hlt).mono Imm.leA) rfl rfl rfl) rfl ?_ | refine op_v (v_loadI ty3 ((hat k hlt).mono Imm.leA) rfl rfl rfl) rfl ?_
          by_cases h47 : bs[k].2.head = 0
          · first | refine op_v (v_cmptA rfl rfl rfl) rfl ?_ | refine op_v (v_cmpfA rfl rfl rfl) rfl ?_ | refine op_v (v_cmp rfl rfl rfl) rfl ?_
            refine ops_nil ?_
            refine post_next ?_
            refine code_cond_t rfl ?_
            refine code_seq ?_
            refine code_region ?_
            refine op_call pl18 rfl rfl ((awake15_does _)) Parts.none ?_
            rintro v48 I48 _ hI48 ⟨rfl, rfl⟩
            refine op_v (v_assign rfl) rfl ?_
            refine ops_nil ?_
            refine post_next ?_
            refine code_ret ?_
            refine post_ret_block ?_
            refine post_ret_then ?_
            refine post_ret_then ?_
            refine post_ret_block ?_
            refine post_ret_then ?_
            refine post_ret (rs := [.tmp 6]) rfl (List.Perm.refl _) (.cons (.tmp rfl) .nil) (List.nil_sublist _) ?_
            exact ⟨rfl, rfl⟩
          · first | refine op_v (v_cmptA rfl rfl rfl) rfl ?_ | refine op_v (v_cmpfA rfl rfl rfl) rfl ?_ | refine op_v (v_cmp rfl rfl rfl) rfl ?_
            refine ops_nil ?_
            refine post_next ?_
            refine code_cond_f rfl ?_
            refine code_skip ?_
            refine post_out ?_
            refine post_next ?_
            refine code_region ?_
            refine op_v (v_move rfl) rfl ?_
            first | refine op_v (v_addb rfl rfl rfl (by omega)) rfl ?_ | refine op_v (v_add rfl rfl) rfl ?_
            refine op_v (v_assign rfl) rfl ?_
            refine ops_nil ?_
            refine post_again (bs.length - (k + 1)) [(0, .slice aA c.length aC), (1, .slice sA bs.length sC), (2, .slice mA more.length mC), (7, .int .i64 (k + 1 : Nat))] (by omega) ⟨k + 1, rfl, hlt, rfl, Imm.leA, rfl, fun j h hj => ?_⟩ ⟨rfl, rfl, rfl, rfl, trivial⟩
            rcases Nat.lt_or_ge j k with q | q
            · exact hno j h q
            · have e : j = k := by omega
              subst e; exact h47
        · have hge : k = bs.length := by have h := hc1; simp at h; omega
          refine code_exit ?_
          refine post_exit_then ?_
          refine post_exit_then ?_
          refine post_exit ?_
          refine post_next ?_
          refine code_seq ?_
          refine code_region ?_
          refine op_v (v_move rfl) rfl ?_
          refine op_v (v_move rfl) rfl ?_
          refine op_call pl36 rfl rfl ((CApply_does (hs.mono Imm.leA) (ha.mono Imm.leA) hbs hfa.sides)) Parts.none ?_
          rintro v52 I52 _ hI52 ⟨⟨e52, ys, r52, rfl, hr52, ho52⟩, rfl⟩
          obtain ⟨yA, yC, xy, hsh, hcy, hby, hcelly, hrowy⟩ := id hr52
          subst hsh
          refine op_v (v_move rfl) rfl ?_
          refine op_v (v_extract rfl rfl) rfl ?_
          refine op_v (v_extract rfl rfl) rfl ?_
          refine op_v (v_assign rfl) rfl ?_
          refine op_v (v_assign rfl) rfl ?_
          refine ops_nil ?_
          refine post_next ?_
          refine code_seq ?_
          refine code_region ?_
          refine op_v (v_move rfl) rfl ?_
          refine op_call pl37 rfl rfl ((CNorm_does (ha.mono Imm.leA) (by omega))) Parts.none ?_
          rintro v57 I57 _ hI57 ⟨HR57, rfl⟩
          refine op_v (v_move rfl) rfl ?_
          rcases HR57 with ⟨hbad, rfl⟩ | ⟨hgood, a57, c57, rfl, hr57⟩
          · refine op_v (v_extract rfl rfl) rfl ?_
            refine op_v (v_extract rfl rfl) rfl ?_
            refine op_v (v_assign rfl) rfl ?_
            refine op_v (v_assign rfl) rfl ?_
            refine ops_nil ?_
            refine post_next ?_
            refine code_seq ?_
            refine code_seq ?_
            refine code_region ?_
            by_cases h60 : e52 ≠ 0
            · refine op_v (v_move rfl) rfl ?_
              first | refine op_v (v_cmptA rfl rfl rfl) rfl ?_ | refine op_v (v_cmpfA rfl rfl rfl) rfl ?_ | refine op_v (v_cmp rfl rfl rfl) rfl ?_
              refine op_v (v_move rfl) rfl ?_
              first
                | (refine op_want rfl rfl ?_
                   refine op_v (v_move rfl) rfl ?_)
                | (refine op_skip rfl rfl (by simp [undef]) rfl ?_)
              first
                | (refine op_want rfl rfl ?_
                   first | refine op_v (v_cmptA rfl rfl rfl) rfl ?_ | refine op_v (v_cmpfA rfl rfl rfl) rfl ?_ | refine op_v (v_cmp rfl rfl rfl) rfl ?_)
                | (refine op_skip rfl rfl (by simp [undef]) rfl ?_)
              first | refine op_v (v_pickt rfl rfl) rfl ?_ | refine op_v (v_pickf rfl rfl) rfl ?_ | refine op_v (v_pickb rfl rfl rfl) rfl ?_
              refine ops_nil ?_
              refine post_next ?_
              refine code_cond_t rfl ?_
              refine code_seq ?_
              refine code_region ?_
              refine op_call pl18 rfl rfl ((awake15_does _)) Parts.none ?_
              rintro v66 I66 _ hI66 ⟨rfl, rfl⟩
              refine op_v (v_assign rfl) rfl ?_
              refine ops_nil ?_
              refine post_next ?_
              refine code_ret ?_
              refine post_ret_then ?_
              refine post_ret (rs := [.tmp 6]) rfl (List.Perm.refl _) (.cons (.tmp rfl) .nil) (List.nil_sublist _) ?_
              exact ⟨rfl, rfl⟩
            · refine op_v (v_move rfl) rfl ?_
              first | refine op_v (v_cmptA rfl rfl rfl) rfl ?_ | refine op_v (v_cmpfA rfl rfl rfl) rfl ?_ | refine op_v (v_cmp rfl rfl rfl) rfl ?_
              refine op_v (v_move rfl) rfl ?_
              first
                | (refine op_want rfl rfl ?_
                   refine op_v (v_move rfl) rfl ?_)
                | (refine op_skip rfl rfl (by simp [undef]) rfl ?_)
              first
                | (refine op_want rfl rfl ?_
                   first | refine op_v (v_cmptA rfl rfl rfl) rfl ?_ | refine op_v (v_cmpfA rfl rfl rfl) rfl ?_ | refine op_v (v_cmp rfl rfl rfl) rfl ?_)
                | (refine op_skip rfl rfl (by simp [undef]) rfl ?_)
              first | refine op_v (v_pickt rfl rfl) rfl ?_ | refine op_v (v_pickf rfl rfl) rfl ?_ | refine op_v (v_pickb rfl rfl rfl) rfl ?_
              refine ops_nil ?_
              refine post_next ?_
              refine code_cond_t rfl ?_
              refine code_seq ?_
              refine code_region ?_
              refine op_call pl18 rfl rfl ((awake15_does _)) Parts.none ?_
              rintro v66 I66 _ hI66 ⟨rfl, rfl⟩
              refine op_v (v_assign rfl) rfl ?_
              refine ops_nil ?_
              refine post_next ?_
              refine code_ret ?_
              refine post_ret_then ?_
              refine post_ret (rs := [.tmp 6]) rfl (List.Perm.refl _) (.cons (.tmp rfl) .nil) (List.nil_sublist _) ?_
              exact ⟨rfl, rfl⟩
          · refine op_v (v_extract rfl rfl) rfl ?_
            refine op_v (v_extract rfl rfl) rfl ?_
            refine op_v (v_assign rfl) rfl ?_
            refine op_v (v_assign rfl) rfl ?_
            refine ops_nil ?_
            refine post_next ?_
            refine code_seq ?_
            refine code_seq ?_
            refine code_region ?_
            refine op_v (v_move rfl) rfl ?_
            by_cases h61 : e52 ≠ 0
            · first | refine op_v (v_cmptA rfl rfl rfl) rfl ?_ | refine op_v (v_cmpfA rfl rfl rfl) rfl ?_ | refine op_v (v_cmp rfl rfl rfl) rfl ?_
              refine op_v (v_move rfl) rfl ?_
              first
                | (refine op_want rfl rfl ?_
                   refine op_v (v_move rfl) rfl ?_)
                | (refine op_skip rfl rfl (by simp [undef]) rfl ?_)
              first
                | (refine op_want rfl rfl ?_
                   first | refine op_v (v_cmptA rfl rfl rfl) rfl ?_ | refine op_v (v_cmpfA rfl rfl rfl) rfl ?_ | refine op_v (v_cmp rfl rfl rfl) rfl ?_)
                | (refine op_skip rfl rfl (by simp [undef]) rfl ?_)
              first | refine op_v (v_pickt rfl rfl) rfl ?_ | refine op_v (v_pickf rfl rfl) rfl ?_ | refine op_v (v_pickb rfl rfl rfl) rfl ?_
              refine ops_nil ?_
              refine post_next ?_
              refine code_cond_t rfl ?_
              refine code_seq ?_
              refine code_region ?_
              refine op_call pl18 rfl rfl ((awake15_does _)) Parts.none ?_
              rintro v66 I66 _ hI66 ⟨rfl, rfl⟩
              refine op_v (v_assign rfl) rfl ?_
              refine ops_nil ?_
              refine post_next ?_
              refine code_ret ?_
              refine post_ret_then ?_
              refine post_ret (rs := [.tmp 6]) rfl (List.Perm.refl _) (.cons (.tmp rfl) .nil) (List.nil_sublist _) ?_
              exact ⟨rfl, rfl⟩
            · have he0 : e52 = 0 := Classical.not_not.1 h61
              subst he0
              obtain ⟨hcl, hyl, hRc, hRy, hyg⟩ := OutC_ok ho52
              have hb0 : ∀ b ∈ bs, b.2.head ≠ 0 := fun b hb => by obtain ⟨j, hj, rfl⟩ := List.getElem_of_mem hb; exact hno j hj (by omega)
              first | refine op_v (v_cmptA rfl rfl rfl) rfl ?_ | refine op_v (v_cmpfA rfl rfl rfl) rfl ?_ | refine op_v (v_cmp rfl rfl rfl) rfl ?_
              refine op_v (v_move rfl) rfl ?_
              first
                | (refine op_want rfl rfl ?_
                   refine op_v (v_move rfl) rfl ?_)
                | (refine op_skip rfl rfl (by simp [undef]) rfl ?_)
              first
                | (refine op_want rfl rfl ?_
                   first | refine op_v (v_cmptA rfl rfl rfl) rfl ?_ | refine op_v (v_cmpfA rfl rfl rfl) rfl ?_ | refine op_v (v_cmp rfl rfl rfl) rfl ?_)
                | (refine op_skip rfl rfl (by simp [undef]) rfl ?_)
              first | refine op_v (v_pickt rfl rfl) rfl ?_ | refine op_v (v_pickf rfl rfl) rfl ?_ | refine op_v (v_pickb rfl rfl rfl) rfl ?_
              refine ops_nil ?_
              refine post_next ?_
              refine code_cond_f rfl ?_
              refine code_skip ?_
              refine post_next ?_
              refine code_seq ?_
              refine code_region ?_
              refine op_v (v_assign rfl) rfl ?_
              refine ops_nil ?_
              refine post_next ?_
              refine code_seq ?_
              refine code_region ?_
              refine op_v (v_move rfl) rfl ?_
              refine op_v (v_move rfl) rfl ?_
              refine OpsJ.view (View.nilRow 49 5) ?_
              refine o_append Try.underlying26 bs49 rfl rfl rfl (fun v' => by repeat (first | exact Swap.here | apply Swap.there)) (Src.ofI (hcellm.mono Imm.leA)) hrowm.length hrowm.one1 (by omega) (by omega) (fun a69 c69 => ?_)
              rw [show 0 + more.length = more.length from Nat.zero_add _]
              refine op_v (v_assign rfl) rfl ?_
              refine ops_nil ?_
              refine post_next ?_
              refine code_seq ?_
              refine code_seq ?_
              refine code_region ?_
              refine op_v (v_move rfl) rfl ?_
              refine op_v (v_len Try.underlying26 rfl) rfl ?_
              first | refine op_v (v_subb rfl rfl rfl (by omega)) rfl ?_ | refine op_v (v_sub rfl rfl) rfl ?_
              refine op_v (v_assign rfl) rfl ?_
              refine ops_nil ?_
              refine post_next ?_
              refine code_block ?_
              refine code_loop (fun m σ' I' δ' => ∃ (n : Nat) (A : Option Addr) (c' : Nat) (zs : List Value), m = ys.length - n ∧ n ≤ ys.length ∧ σ' = [(0, .slice aA c.length aC), (2, .slice mA more.length mC), (8, .slice yA ys.length yC), (10, .slice a57 c.length c57), (12, .slice A (more.length + n) c'), (13, .int .i64 ((ys.length : Int) - 1 - n))] ∧ I57.le I' ∧ δ' = [cRow A c' (more.length + n) zs] ∧ RowE LitE I' zs (more ++ (turnR ys).take n)) ys.length [(0, .slice aA c.length aC), (2, .slice mA more.length mC), (8, .slice yA ys.length yC), (10, .slice a57 c.length c57), (12, .slice a69 more.length c69), (13, .int .i64 ((ys.length : Int) - 1))] ⟨0, a69, c69, xm, rfl, Nat.zero_le _, by simp, Imm.le_refl _, rfl, by simpa using hrowm.mono Imm.leA⟩ ⟨rfl, rfl, rfl, rfl, rfl, rfl, trivial⟩ ?_
              rintro m _ I1 _ ⟨n, A, c', zs, rfl, hn, rfl, hI1, rfl, hzs⟩
              refine code_seq ?_
              refine code_seq ?_
              refine code_region ?_
              refine op_v (v_move rfl) rfl ?_
              first | refine op_v (v_cmptA rfl rfl rfl) rfl ?_ | refine op_v (v_cmpfA rfl rfl rfl) rfl ?_ | refine op_v (v_cmp rfl rfl rfl) rfl ?_
              refine ops_nil ?_
              refine post_next ?_
              refine code_cond rfl (fun hc4 => ?_) (fun hc4 => ?_)
              · have hq : 0 ≤ (ys.length : Int) - 1 - n := by simpa using hc4
                have hlt : n < ys.length := by omega
                obtain ⟨j, hj⟩ : ∃ j : Nat, j = ys.length - 1 - n := ⟨_, rfl⟩
                have hji : (ys.length : Int) - 1 - n = (j : Nat) := by omega
                rw [hji]
                have hjl : j < ys.length := by omega
                obtain ⟨vy, ⟨la, lc, ra, rc, rfl, hll, hlr⟩, haty⟩ := hrowy.cellsAt hcelly hjl
                have hs2 := haty.isSome
                have htk := turnR_take ys hlt hj
                refine code_skip ?_
                refine post_next ?_
                refine code_seq ?_
                refine code_block ?_
                refine code_draw (.fl 0 (.fl 1 (.fl 2 (.fl 3 (.fl 4 (.fl 5 (.fl 6 (.fl 7 (.fl 8 (.fl 9 (.fl 10 (.fl 11 (.fl 12 (.fl 13 (.fl 14 (.fl 15 (.fl 16 (.ef 17 (.ef 18 (.ef 19 .done)))))))))))))))))))) (fun _ => []) mixed (by kernel_rfl) (by kernel_rfl) (fun _ => (List.nil_sublist _)) ?_
                refine e_fl rfl rfl (fun hs_ => PF.mk rfl (v_move rfl) hs_) ?_
                refine e_fl rfl rfl (fun hs_ => PF.mk rfl (v_move rfl) hs_) ?_
                refine e_fl rfl rfl (fun hs_ => PF.mk rfl (v_move rfl) hs_) ?_
                first | refine e_fl rfl rfl (fun hs_ => PF.mk rfl (v_indexA Try.underlying26 sz49 rfl rfl) hs_) ?_ | refine e_fl rfl rfl (fun hs_ => PF.mk rfl (v_indexIA Try.underlying26 sz49 rfl rfl) hs_) ?_
                first | refine e_fl rfl rfl (fun hs_ => PF.mk rfl (v_fieldB 0 Try.underlying49 rfl rfl fz4 rfl) hs_) ?_ | refine e_fl rfl rfl (fun hs_ => PF.mk rfl (v_fieldI 0 Try.underlying49 rfl rfl fz4 rfl (by assumption)) hs_) ?_ | refine e_fl rfl rfl (fun hs_ => PF.mk rfl (v_field Try.underlying49 rfl fz4 rfl rfl) hs_) ?_
                first | refine e_fl rfl rfl (fun hs_ => PF.mk rfl (v_loadI0 ty4 (haty.mono Imm.leA) rfl rfl rfl) hs_) ?_ | refine e_fl rfl rfl (fun hs_ => PF.mk rfl (v_loadI ty4 (haty.mono Imm.leA) rfl rfl rfl) hs_) ?_
                refine e_fl rfl rfl (fun hs_ => PF.mk rfl (v_move rfl) hs_) ?_
                refine e_fl rfl rfl (fun hs_ => PF.mk rfl (v_move rfl) hs_) ?_
                first | refine e_fl rfl rfl (fun hs_ => PF.mk rfl (v_indexA Try.underlying26 sz49 rfl rfl) hs_) ?_ | refine e_fl rfl rfl (fun hs_ => PF.mk rfl (v_indexIA Try.underlying26 sz49 rfl rfl) hs_) ?_
                first | refine e_fl rfl rfl (fun hs_ => PF.mk rfl (v_fieldB 3 Try.underlying49 rfl rfl fz47 rfl) hs_) ?_ | refine e_fl rfl rfl (fun hs_ => PF.mk rfl (v_fieldI 3 Try.underlying49 rfl rfl fz47 rfl (by assumption)) hs_) ?_ | refine e_fl rfl rfl (fun hs_ => PF.mk rfl (v_field Try.underlying49 rfl fz47 rfl rfl) hs_) ?_
                first | refine e_fl rfl rfl (fun hs_ => PF.mk rfl (v_loadI0 ty47 (haty.mono Imm.leA) rfl rfl rfl) hs_) ?_ | refine e_fl rfl rfl (fun hs_ => PF.mk rfl (v_loadI ty47 (haty.mono Imm.leA) rfl rfl rfl) hs_) ?_
                refine e_fl rfl rfl (fun hs_ => PF.mk rfl (v_move rfl) hs_) ?_
                refine e_fl rfl rfl (fun hs_ => PF.mk rfl (v_move rfl) hs_) ?_
                first | refine e_fl rfl rfl (fun hs_ => PF.mk rfl (v_indexA Try.underlying26 sz49 rfl rfl) hs_) ?_ | refine e_fl rfl rfl (fun hs_ => PF.mk rfl (v_indexIA Try.underlying26 sz49 rfl rfl) hs_) ?_
                first | refine e_fl rfl rfl (fun hs_ => PF.mk rfl (v_fieldB 1 Try.underlying49 rfl rfl fz47 rfl) hs_) ?_ | refine e_fl rfl rfl (fun hs_ => PF.mk rfl (v_fieldI 1 Try.underlying49 rfl rfl fz47 rfl (by assumption)) hs_) ?_ | refine e_fl rfl rfl (fun hs_ => PF.mk rfl (v_field Try.underlying49 rfl fz47 rfl rfl) hs_) ?_
                first | refine e_fl rfl rfl (fun hs_ => PF.mk rfl (v_loadI0 ty47 (haty.mono Imm.leA) rfl rfl rfl) hs_) ?_ | refine e_fl rfl rfl (fun hs_ => PF.mk rfl (v_loadI ty47 (haty.mono Imm.leA) rfl rfl rfl) hs_) ?_
                refine e_fl rfl rfl (fun hs_ => PF.mk rfl (v_build (cs := liC ⟨ys[j].neg, ys[j].r, ys[j].l⟩ ra rc la lc) bl49 rfl rfl) hs_) ?_
                refine e_eff rfl (by intro cs b hc; cases hc) (by intro c hc; cases hc) ?_
                refine o_buildSlice (xs := [(Go.Operand.tmp 93)]) Try.underlying26 bs49 rfl rfl rfl rfl rfl (fun b94 => ?_)
                refine ops_nil ?_
                refine e_next rfl side_allA ?_
                refine e_eff rfl (by intro cs b hc; cases hc) (by intro c hc; cases hc) ?_
                refine o_append Try.underlying26 bs49 rfl rfl rfl (fun v' => by repeat (first | exact Swap.here | apply Swap.there)) (Src.ofRow (by repeat (first | exact Has.here | apply Has.there)) rfl) (by first | rfl | omega | simp) (by simp [cat, cellsL, Value.oneCell']) (by omega) (by omega) (fun a95 c95 => ?_)
                refine ops_nil ?_
                refine e_next rfl side_allA ?_
                refine e_eff rfl (by intro cs b hc; cases hc) (by intro c hc; cases hc) ?_
                refine op_v (v_assign rfl) rfl ?_
                refine ops_nil ?_
                refine e_next rfl (side_nil (by kernel_rfl)) ?_
                refine e_done ?_
                refine post_out ?_
                refine post_next ?_
                refine code_region ?_
                refine op_v (v_move rfl) rfl ?_
                first | refine op_v (v_subb rfl rfl rfl (by omega)) rfl ?_ | refine op_v (v_sub rfl rfl) rfl ?_
                refine op_v (v_assign rfl) rfl ?_
                refine ops_nil ?_
                refine PostJ.view (View.drop Del.here) ?_
                refine post_again (ys.length - (n + 1)) [(0, .slice aA c.length aC), (2, .slice mA more.length mC), (8, .slice yA ys.length yC), (10, .slice a57 c.length c57), (12, .slice a95 (more.length + n + 1) c95), (13, .int .i64 ((j : Int) - 1))] (by omega) ⟨n + 1, a95, c95, zs ++ liC ⟨ys[j].neg, ys[j].r, ys[j].l⟩ ra rc la lc, rfl, hlt, by rw [show (j : Int) - 1 = (ys.length : Int) - 1 - ((n + 1 : Nat) : Int) by omega]; rfl, Imm.leA, rfl, ?_⟩ ⟨rfl, rfl, rfl, rfl, rfl, rfl, trivial⟩
                rw [htk, ← List.append_assoc]
                exact (hzs.mono Imm.leA).app (RowE.single ⟨ra, rc, la, lc, rfl, hlr.mono Imm.leA, hll.mono Imm.leA⟩)
              · have hq : ¬ 0 ≤ (ys.length : Int) - 1 - n := by simpa using hc4
                have hge : n = ys.length := by omega
                refine code_exit ?_
                refine post_exit_then ?_
                refine post_exit_then ?_
                refine post_exit ?_
                refine post_next ?_
                refine code_seq ?_
                refine code_region ?_
                refine OpsJ.freezeRow Del.here ?_
                rintro I96 a96 c96 hI96 hq hc96 hl96 hcells96
                cases hq
                have htl : (turnR ys).length = ys.length := by simp [turnR]
                rw [List.take_of_length_le (by omega)] at hzs
                have hal : (more ++ turnR ys).length = more.length + n := by rw [List.length_append, htl]; omega
                have hall : RepC I96 (.slice A (more.length + n) c') (more ++ turnR ys) := ⟨A, c', zs, by rw [hal], by rw [hal]; exact hc96, by rw [hal]; omega, hcells96, hzs.mono hI96⟩
                have hsall : SmM (more ++ turnR ys) := fun x hx => by
                  rcases List.mem_append.1 hx with q | q
                  · exact hsm x q
                  · obtain ⟨y, hy, rfl⟩ := List.mem_map.1 q
                    have := (hRy y (List.mem_reverse.1 hy)).sm
                    exact ⟨this.2, this.1⟩
                have hcg := RiL_any hRc
                have hside : (sidesL (more ++ turnR ys)).any badT = (sidesL more).any badT := by rw [sides_app, turnR_right hRy, Bool.or_false]
                have hnr := norm_right hcg
                have hns : SmM (normC c) := fun x hx => (RiL_of hnr x hx).sm
                have hnl : (normC c).length = c.length := ofL_len c _ (by rw [renL_len]; exact sidesL_len c)
                have hwn : wrE c (normC c) = 0 := wrE_zero hcl (by omega) hcg hnr
                refine op_v (v_move rfl) rfl ?_
                refine op_v (v_move rfl) rfl ?_
                refine op_call pl16 rfl rfl ((Subsumes_does (ha.mono Imm.leA) hall hsa hsall)) Parts.none ?_
                rintro v99 I99 _ hI99 ⟨⟨q99, rfl, hq99⟩, rfl⟩
                refine op_v (v_move rfl) rfl ?_
                refine op_v (v_extract rfl rfl) rfl ?_
                refine op_v (v_extract rfl rfl) rfl ?_
                refine op_v (v_assign rfl) rfl ?_
                refine op_v (v_assign rfl) rfl ?_
                refine ops_nil ?_
                refine post_next ?_
                refine code_seq ?_
                refine code_region ?_
                refine op_v (v_move rfl) rfl ?_
                refine op_v (v_move rfl) rfl ?_
                refine op_call pl25 rfl rfl ((Variant_does (ha.mono Imm.leA) (hr57.mono Imm.leA) hsa hns)) Parts.none ?_
                rintro v105 I105 _ hI105 ⟨⟨q105, rfl, hq105⟩, rfl⟩
                have hv : q105 = true := hq105.2 ⟨hwn, norm_sub hcg⟩
                subst hv
                rw [hwn]
                refine op_v (v_move rfl) rfl ?_
                refine op_v (v_extract rfl rfl) rfl ?_
                refine op_v (v_extract rfl rfl) rfl ?_
                refine op_v (v_assign rfl) rfl ?_
                refine op_v (v_assign rfl) rfl ?_
                refine ops_nil ?_
                refine post_next ?_
                refine code_seq ?_
                refine code_region ?_
                refine op_call pl18 rfl rfl ((awake15_does _)) Parts.none ?_
                rintro v108 I108 _ hI108 ⟨rfl, rfl⟩
                refine op_v (v_move rfl) rfl ?_
                by_cases hmb : (sidesL more).any badT = true
                · have hw : wrE c (more ++ turnR ys) = 1 := by unfold wrE; rw [if_neg (by omega), if_pos (.inr (by rw [hside]; exact hmb))]
                  have hx : q99 = false := by cases hq : q99; rfl; have := (hq99.1 hq).1; omega
                  subst hx
                  rw [hw]
                  first
                    | (refine op_want rfl rfl ?_
                       refine op_v (v_move rfl) rfl ?_)
                    | (refine op_skip rfl rfl (by simp [undef]) rfl ?_)
                  first
                    | (refine op_want rfl rfl ?_
                       refine op_v (v_move rfl) rfl ?_)
                    | (refine op_skip rfl rfl (by simp [undef]) rfl ?_)
                  first
                    | (refine op_want rfl rfl ?_
                       refine op_v (v_move rfl) rfl ?_)
                    | (refine op_skip rfl rfl (by simp [undef]) rfl ?_)
                  first
                    | (refine op_want rfl rfl ?_
                       first | refine op_v (v_cmptA rfl rfl rfl) rfl ?_ | refine op_v (v_cmpfA rfl rfl rfl) rfl ?_ | refine op_v (v_cmp rfl rfl rfl) rfl ?_)
                    | (refine op_skip rfl rfl (by simp [undef]) rfl ?_)
                  first
                    | (refine op_want rfl rfl ?_
                       first | refine op_v (v_pickt rfl rfl) rfl ?_ | refine op_v (v_pickf rfl rfl) rfl ?_ | refine op_v (v_pickb rfl rfl rfl) rfl ?_)
                    | (refine op_skip rfl rfl (by simp [undef]) rfl ?_)
                  first
                    | (refine op_want rfl rfl ?_
                       refine op_v (v_move rfl) rfl ?_)
                    | (refine op_skip rfl rfl (by simp [undef]) rfl ?_)
                  first
                    | (refine op_want rfl rfl ?_
                       refine op_v (v_move rfl) rfl ?_)
                    | (refine op_skip rfl rfl (by simp [undef]) rfl ?_)
                  first
                    | (refine op_want rfl rfl ?_
                       first | refine op_v (v_cmptA rfl rfl rfl) rfl ?_ | refine op_v (v_cmpfA rfl rfl rfl) rfl ?_ | refine op_v (v_cmp rfl rfl rfl) rfl ?_)
                    | (refine op_skip rfl rfl (by simp [undef]) rfl ?_)
                  first
                    | (refine op_want rfl rfl ?_
                       refine op_v (v_move rfl) rfl ?_)
                    | (refine op_skip rfl rfl (by simp [undef]) rfl ?_)
                  first
                    | (refine op_want rfl rfl ?_
                       refine op_v (v_move rfl) rfl ?_)
                    | (refine op_skip rfl rfl (by simp [undef]) rfl ?_)
                  first
                    | (refine op_want rfl rfl ?_
                       refine op_call pl39 rfl rfl ((Terms_does (hm.mono Imm.leA))) Parts.none ?_
                       rintro v120 I120 _ hI120 ⟨hs120, rfl⟩)
                    | (refine op_skip rfl rfl (by simp [undef]) rfl ?_)
                  first
                    | (refine op_want rfl rfl ?_
                       refine op_call pl38 rfl rfl ((RAllT_does hs120 (fun t ht => by obtain ⟨x, hx, e⟩ := List.mem_flatMap.1 ht; have := hsm x hx; simp at e; rcases e with rfl | rfl <;> omega))) Parts.none ?_
                       rintro v121 I121 _ hI121 ⟨rfl, rfl⟩
                       rw [hmb])
                    | (refine op_skip rfl rfl (by simp [undef]) rfl ?_)
                  first
                    | (refine op_want rfl rfl ?_
                       refine op_v (v_not rfl) rfl ?_)
                    | (refine op_skip rfl rfl (by simp [undef]) rfl ?_)
                  first
                    | (refine op_want rfl rfl ?_
                       first | refine op_v (v_pickt rfl rfl) rfl ?_ | refine op_v (v_pickf rfl rfl) rfl ?_ | refine op_v (v_pickb rfl rfl rfl) rfl ?_)
                    | (refine op_skip rfl rfl (by simp [undef]) rfl ?_)
                  first
                    | (refine op_want rfl rfl ?_
                       first | refine op_v (v_pickt rfl rfl) rfl ?_ | refine op_v (v_pickf rfl rfl) rfl ?_ | refine op_v (v_pickb rfl rfl rfl) rfl ?_)
                    | (refine op_skip rfl rfl (by simp [undef]) rfl ?_)
                  first | refine op_v (v_pickt rfl rfl) rfl ?_ | refine op_v (v_pickf rfl rfl) rfl ?_ | refine op_v (v_pickb rfl rfl rfl) rfl ?_
                  refine op_v (v_move rfl) rfl ?_
                  first
                    | (refine op_want rfl rfl ?_
                       refine op_v (v_move rfl) rfl ?_)
                    | (refine op_skip rfl rfl (by simp [undef]) rfl ?_)
                  first | refine op_v (v_pickt rfl rfl) rfl ?_ | refine op_v (v_pickf rfl rfl) rfl ?_ | refine op_v (v_pickb rfl rfl rfl) rfl ?_
                  refine op_v (v_move rfl) rfl ?_
                  first
                    | (refine op_want rfl rfl ?_
                       refine op_v (v_move rfl) rfl ?_)
                    | (refine op_skip rfl rfl (by simp [undef]) rfl ?_)
                  first
                    | (refine op_want rfl rfl ?_
                       first | refine op_v (v_cmptA rfl rfl rfl) rfl ?_ | refine op_v (v_cmpfA rfl rfl rfl) rfl ?_ | refine op_v (v_cmp rfl rfl rfl) rfl ?_)
                    | (refine op_skip rfl rfl (by simp [undef]) rfl ?_)
                  first | refine op_v (v_pickt rfl rfl) rfl ?_ | refine op_v (v_pickf rfl rfl) rfl ?_ | refine op_v (v_pickb rfl rfl rfl) rfl ?_
                  refine op_v (v_assign rfl) rfl ?_
                  refine ops_nil ?_
                  refine post_next ?_
                  refine code_ret ?_
                  refine post_ret (rs := [.tmp 6]) rfl (List.Perm.refl _) (.cons (.tmp rfl) .nil) (List.nil_sublist _) ?_
                  exact ⟨rfl, rfl⟩
                · have hmb' : (sidesL more).any badT = false := by simpa using hmb
                  have hw : wrE c (more ++ turnR ys) = 0 := wrE_zero hcl (by omega) hcg (by rw [hside]; exact hmb')
                  have hx : q99 = true := hq99.2 ⟨hw, Sub_puts hb0 hRc hyl hyg⟩
                  subst hx
                  rw [hw]
                  first
                    | (refine op_want rfl rfl ?_
                       refine op_v (v_move rfl) rfl ?_)
                    | (refine op_skip rfl rfl (by simp [undef]) rfl ?_)
                  first
                    | (refine op_want rfl rfl ?_
                       refine op_v (v_move rfl) rfl ?_)
                    | (refine op_skip rfl rfl (by simp [undef]) rfl ?_)
                  first
                    | (refine op_want rfl rfl ?_
                       refine op_v (v_move rfl) rfl ?_)
                    | (refine op_skip rfl rfl (by simp [undef]) rfl ?_)
                  first
                    | (refine op_want rfl rfl ?_
                       first | refine op_v (v_cmptA rfl rfl rfl) rfl ?_ | refine op_v (v_cmpfA rfl rfl rfl) rfl ?_ | refine op_v (v_cmp rfl rfl rfl) rfl ?_)
                    | (refine op_skip rfl rfl (by simp [undef]) rfl ?_)
                  first
                    | (refine op_want rfl rfl ?_
                       first | refine op_v (v_pickt rfl rfl) rfl ?_ | refine op_v (v_pickf rfl rfl) rfl ?_ | refine op_v (v_pickb rfl rfl rfl) rfl ?_)
                    | (refine op_skip rfl rfl (by simp [undef]) rfl ?_)
                  first
                    | (refine op_want rfl rfl ?_
                       refine op_v (v_move rfl) rfl ?_)
                    | (refine op_skip rfl rfl (by simp [undef]) rfl ?_)
                  first
                    | (refine op_want rfl rfl ?_
                       refine op_v (v_move rfl) rfl ?_)
                    | (refine op_skip rfl rfl (by simp [undef]) rfl ?_)
                  first
                    | (refine op_want rfl rfl ?_
                       first | refine op_v (v_cmptA rfl rfl rfl) rfl ?_ | refine op_v (v_cmpfA rfl rfl rfl) rfl ?_ | refine op_v (v_cmp rfl rfl rfl) rfl ?_)
                    | (refine op_skip rfl rfl (by simp [undef]) rfl ?_)
                  first
                    | (refine op_want rfl rfl ?_
                       refine op_v (v_move rfl) rfl ?_)
                    | (refine op_skip rfl rfl (by simp [undef]) rfl ?_)
                  first
                    | (refine op_want rfl rfl ?_
                       refine op_v (v_move rfl) rfl ?_)
                    | (refine op_skip rfl rfl (by simp [undef]) rfl ?_)
                  first
                    | (refine op_want rfl rfl ?_
                       refine op_call pl39 rfl rfl ((Terms_does (hm.mono Imm.leA))) Parts.none ?_
                       rintro v120 I120 _ hI120 ⟨hs120, rfl⟩)
                    | (refine op_skip rfl rfl (by simp [undef]) rfl ?_)
                  first
                    | (refine op_want rfl rfl ?_
                       refine op_call pl38 rfl rfl ((RAllT_does hs120 (fun t ht => by obtain ⟨x, hx, e⟩ := List.mem_flatMap.1 ht; have := hsm x hx; simp at e; rcases e with rfl | rfl <;> omega))) Parts.none ?_
                       rintro v121 I121 _ hI121 ⟨rfl, rfl⟩
                       rw [hmb])
                    | (refine op_skip rfl rfl (by simp [undef]) rfl ?_)
                  first
                    | (refine op_want rfl rfl ?_
                       refine op_v (v_not rfl) rfl ?_)
                    | (refine op_skip rfl rfl (by simp [undef]) rfl ?_)
                  first
                    | (refine op_want rfl rfl ?_
                       first | refine op_v (v_pickt rfl rfl) rfl ?_ | refine op_v (v_pickf rfl rfl) rfl ?_ | refine op_v (v_pickb rfl rfl rfl) rfl ?_)
                    | (refine op_skip rfl rfl (by simp [undef]) rfl ?_)
                  first
                    | (refine op_want rfl rfl ?_
                       first | refine op_v (v_pickt rfl rfl) rfl ?_ | refine op_v (v_pickf rfl rfl) rfl ?_ | refine op_v (v_pickb rfl rfl rfl) rfl ?_)
                    | (refine op_skip rfl rfl (by simp [undef]) rfl ?_)
                  first | refine op_v (v_pickt rfl rfl) rfl ?_ | refine op_v (v_pickf rfl rfl) rfl ?_ | refine op_v (v_pickb rfl rfl rfl) rfl ?_
                  refine op_v (v_move rfl) rfl ?_
                  first
                    | (refine op_want rfl rfl ?_
                       refine op_v (v_move rfl) rfl ?_)
                    | (refine op_skip rfl rfl (by simp [undef]) rfl ?_)
                  first | refine op_v (v_pickt rfl rfl) rfl ?_ | refine op_v (v_pickf rfl rfl) rfl ?_ | refine op_v (v_pickb rfl rfl rfl) rfl ?_
                  refine op_v (v_move rfl) rfl ?_
                  first
                    | (refine op_want rfl rfl ?_
                       refine op_v (v_move rfl) rfl ?_)
                    | (refine op_skip rfl rfl (by simp [undef]) rfl ?_)
                  first
                    | (refine op_want rfl rfl ?_
                       first | refine op_v (v_cmptA rfl rfl rfl) rfl ?_ | refine op_v (v_cmpfA rfl rfl rfl) rfl ?_ | refine op_v (v_cmp rfl rfl rfl) rfl ?_)
                    | (refine op_skip rfl rfl (by simp [undef]) rfl ?_)
                  first | refine op_v (v_pickt rfl rfl) rfl ?_ | refine op_v (v_pickf rfl rfl) rfl ?_ | refine op_v (v_pickb rfl rfl rfl) rfl ?_
                  refine op_v (v_assign rfl) rfl ?_
                  refine ops_nil ?_
                  refine post_next ?_
                  refine code_ret ?_
                  refine post_ret (rs := [.tmp 6]) rfl (List.Perm.refl _) (.cons (.tmp rfl) .nil) (List.nil_sublist _) ?_
                  exact ⟨rfl, rfl⟩
    · have h25' : b24 = false := by simpa using h25
      subst h25'
      first
        | (refine op_want rfl rfl ?_
           refine op_v (v_not rfl) rfl ?_)
        | (refine op_skip rfl rfl (by simp [undef]) rfl ?_)
      first | refine op_v (v_pickt rfl rfl) rfl ?_ | refine op_v (v_pickf rfl rfl) rfl ?_ | refine op_v (v_pickb rfl rfl rfl) rfl ?_
      refine op_v (v_move rfl) rfl ?_
      first
        | (refine op_want rfl rfl ?_
           refine op_v (v_move rfl) rfl ?_)
        | (refine op_skip rfl rfl (by simp [undef]) rfl ?_)
      first
        | (refine op_want rfl rfl ?_
           refine op_v (v_len Try.underlying26 rfl) rfl ?_)
        | (refine op_skip rfl rfl (by simp [undef]) rfl ?_)
      first
        | (refine op_want rfl rfl ?_
           refine op_v (v_move rfl) rfl ?_)
        | (refine op_skip rfl rfl (by simp [undef]) rfl ?_)
      first
        | (refine op_want rfl rfl ?_
           refine op_v (v_len Try.underlying26 rfl) rfl ?_)
        | (refine op_skip rfl rfl (by simp [undef]) rfl ?_)
      first
        | (refine op_want rfl rfl ?_
           refine op_v (v_addb (c := ((c.length + more.length : Nat) : Int)) rfl rfl (by omega) (by omega)) rfl ?_)
        | (refine op_skip rfl rfl (by simp [undef]) rfl ?_)
      first
        | (refine op_want rfl rfl ?_
           first | refine op_v (v_cmptA rfl rfl rfl) rfl ?_ | refine op_v (v_cmpfA rfl rfl rfl) rfl ?_ | refine op_v (v_cmp rfl rfl rfl) rfl ?_)
        | (refine op_skip rfl rfl (by simp [undef]) rfl ?_)
      first | refine op_v (v_pickt rfl rfl) rfl ?_ | refine op_v (v_pickf rfl rfl) rfl ?_ | refine op_v (v_pickb rfl rfl rfl) rfl ?_
      refine ops_nil ?_
      refine post_next ?_
      refine code_cond_t rfl ?_
      refine code_seq ?_
      refine code_region ?_
      refine op_v (v_assign rfl) rfl ?_
      refine ops_nil ?_
      refine post_next ?_
      refine code_ret ?_
      refine post_ret_then ?_
      refine post_ret (rs := [.tmp 6]) rfl (List.Perm.refl _) (.cons (.tmp rfl) .nil) (List.nil_sublist _) ?_
      exact ⟨rfl, rfl⟩
  · have h21' : b20 = false := by simpa using h21
    subst h21'
    refine op_v (v_not rfl) rfl ?_
    refine op_v (v_move rfl) rfl ?_
    first
      | (refine op_want rfl rfl ?_
         refine op_v (v_move rfl) rfl ?_)
      | (refine op_skip rfl rfl (by simp [undef]) rfl ?_)
    first
      | (refine op_want rfl rfl ?_
         refine op_call pl35 rfl rfl ((FewB_does (hs.mono Imm.leA))) Parts.none ?_
         rintro v24 I24 _ hI24 ⟨⟨b24, rfl, hb24⟩, rfl⟩)
      | (refine op_skip rfl rfl (by simp [undef]) rfl ?_)
    first
      | (refine op_want rfl rfl ?_
         refine op_v (v_not rfl) rfl ?_)
      | (refine op_skip rfl rfl (by simp [undef]) rfl ?_)
    first | refine op_v (v_pickt rfl rfl) rfl ?_ | refine op_v (v_pickf rfl rfl) rfl ?_ | refine op_v (v_pickb rfl rfl rfl) rfl ?_
    refine op_v (v_move rfl) rfl ?_
    first
      | (refine op_want rfl rfl ?_
         refine op_v (v_move rfl) rfl ?_)
      | (refine op_skip rfl rfl (by simp [undef]) rfl ?_)
    first
      | (refine op_want rfl rfl ?_
         refine op_v (v_len Try.underlying26 rfl) rfl ?_)
      | (refine op_skip rfl rfl (by simp [undef]) rfl ?_)
    first
      | (refine op_want rfl rfl ?_
         refine op_v (v_move rfl) rfl ?_)
      | (refine op_skip rfl rfl (by simp [undef]) rfl ?_)
    first
      | (refine op_want rfl rfl ?_
         refine op_v (v_len Try.underlying26 rfl) rfl ?_)
      | (refine op_skip rfl rfl (by simp [undef]) rfl ?_)
    first
      | (refine op_want rfl rfl ?_
         refine op_v (v_addb (c := ((c.length + more.length : Nat) : Int)) rfl rfl (by omega) (by omega)) rfl ?_)
      | (refine op_skip rfl rfl (by simp [undef]) rfl ?_)
    first
      | (refine op_want rfl rfl ?_
         first | refine op_v (v_cmptA rfl rfl rfl) rfl ?_ | refine op_v (v_cmpfA rfl rfl rfl) rfl ?_ | refine op_v (v_cmp rfl rfl rfl) rfl ?_)
      | (refine op_skip rfl rfl (by simp [undef]) rfl ?_)
    first | refine op_v (v_pickt rfl rfl) rfl ?_ | refine op_v (v_pickf rfl rfl) rfl ?_ | refine op_v (v_pickb rfl rfl rfl) rfl ?_
    refine ops_nil ?_
    refine post_next ?_
    refine code_cond_t rfl ?_
    refine code_seq ?_
    refine code_region ?_
    refine op_v (v_assign rfl) rfl ?_
    refine ops_nil ?_
    refine post_next ?_
    refine code_ret ?_
    refine post_ret_then ?_
    refine post_ret (rs := [.tmp 6]) rfl (List.Perm.refl _) (.cons (.tmp rfl) .nil) (List.nil_sublist _) ?_
    exact ⟨rfl, rfl⟩
end Go.Proofs.Ytdbadicpbmndbaa
