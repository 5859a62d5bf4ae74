/- Walks: what is ranged over: a row from behind, a term's parts. -/
import Derived.Test.YtdcklngleglbbaaPt
import Derived.Test.YtdcklngleglbbaaWa
set_option linter.unusedVariables false
set_option linter.unusedSimpArgs false
namespace Go.Proofs.Ytdcklngleglbbaa
open Go Lg

def encB (ts : List T) (ss : Nat → Option Addr × Nat) (_ : Imm) (i : Nat) (vs : List Value) : Prop :=
  ∃ hi : i < ts.length, vs = [.int .i64 i, .agg #[.int .i64 ts[i].head, .slice (ss i).1 ts[i].args.length (ss i).2]]
theorem back_iter {I : Imm} {ts : List T} {ad : Option Addr} {c b : Nat} {ss : Nat → Option Addr × Nat} (hb : ts.length ≤ 4398046511104)
    (hat : ∀ i (h : i < ts.length), At I ad (i * 2) [.int .i64 ts[i].head, .slice (ss i).1 ts[i].args.length (ss i).2]) :
    Iter Try.prog 86 [.pointer (some ⟨b, 0, none⟩)] I [.box b 22 [.slice ad ts.length c]] (encB ts ss) (List.range ts.length).reverse := by
  intro yv J δ hmono h0 hy
  refine Does.intro Try.func86 rfl Try.ntmps86 rfl fun w0 => ?_
  refine code_seq ?_
  refine code_region ?_
  refine op_v (v_load ty22 rfl (by first | exact Has.here | exact Has.there Has.here | exact Has.there (Has.there Has.here) | exact Has.there (Has.there (Has.there Has.here)) | exact Has.there (Has.there (Has.there (Has.there Has.here))) | exact Has.there (Has.there (Has.there (Has.there (Has.there Has.here)))) | exact Has.there (Has.there (Has.there (Has.there (Has.there (Has.there Has.here)))))) rfl) rfl ?_
  refine op_v (v_len Try.underlying22 rfl) rfl ?_
  first | refine op_v (v_subb rfl rfl rfl (by omega)) rfl ?_ | refine op_v (v_sub rfl rfl) rfl ?_
  refine op_v (v_assign rfl) rfl ?_
  refine ops_nil ?_
  refine post_next ?_
  refine code_block ?_
  refine code_loop (fun m σ' I' δ' => ∃ (k : Nat) (δJ : List Ent), m = ts.length - k ∧ k ≤ ts.length ∧ σ' = [(0, yv), (1, .pointer (some ⟨b, 0, none⟩)), (3, .int .i64 ((ts.length : Int) - 1 - k))] ∧ I.le I' ∧ δ' = .box b 22 [.slice ad ts.length c] :: δJ ∧ J ((List.range ts.length).reverse.take k) I' δJ) ts.length [(0, yv), (1, .pointer (some ⟨b, 0, none⟩)), (3, .int .i64 ((ts.length : Int) - 1))] ⟨0, δ, rfl, Nat.zero_le _, by simp, Imm.le_refl _, rfl, h0⟩ ⟨rfl, rfl, rfl, trivial⟩ ?_
  rintro m _ I0 _ ⟨k, δJ, rfl, hk, rfl, hI0, rfl, hJ⟩
  refine code_seq ?_
  refine code_seq ?_
  refine code_region ?_
  refine op_v (v_move rfl) rfl ?_
  first | refine op_v (v_cmpt rfl rfl rfl (by first | omega | (simp; done) | (simp; omega))) rfl ?_ | refine op_v (v_cmpf rfl rfl rfl (by first | omega | (simp; done) | (simp; omega))) rfl ?_ | refine op_v (v_cmp rfl rfl rfl) rfl ?_
  refine ops_nil ?_
  refine post_next ?_
  refine code_cond rfl (fun hc0 => ?_) (fun hc0 => ?_)
  · have hq : 0 ≤ (ts.length : Int) - 1 - k := by simpa using hc0
    have hlt : k < ts.length := by omega
    obtain ⟨j, hj⟩ : ∃ j : Nat, j = ts.length - 1 - k := ⟨_, rfl⟩
    have hji : (ts.length : Int) - 1 - k = (j : Nat) := by omega
    rw [hji]
    have hjl : j < ts.length := by omega
    have hs1 := (hat j hjl).isSome
    have hx := range_rev ts.length k hlt
    rw [← hj] at hx
    have hx2 := range_rev_take ts.length k hlt
    rw [← hj] at hx2
    refine code_skip ?_
    refine post_next ?_
    refine code_seq ?_
    refine code_block ?_
    refine code_seq ?_
    refine code_region ?_
    refine op_v (v_move rfl) rfl ?_
    refine op_v (v_move rfl) rfl ?_
    refine op_v (v_load ty22 rfl (by first | exact Has.here | exact Has.there Has.here | exact Has.there (Has.there Has.here) | exact Has.there (Has.there (Has.there Has.here)) | exact Has.there (Has.there (Has.there (Has.there Has.here))) | exact Has.there (Has.there (Has.there (Has.there (Has.there Has.here)))) | exact Has.there (Has.there (Has.there (Has.there (Has.there (Has.there Has.here)))))) rfl) rfl ?_
    refine op_v (v_move rfl) rfl ?_
    first | refine op_v (v_index Try.underlying22 sz24 rfl rfl (by omega) (by assumption)) rfl ?_ | refine op_v (v_indexI Try.underlying22 sz24 rfl rfl (by first | omega | (simp; done) | (simp; omega)) (by first | omega | (simp; done) | (simp; omega)) (by assumption)) rfl ?_
    first | refine op_v (v_loadI0 ty24 ((hat j hjl).mono hI0) rfl rfl rfl) rfl ?_ | refine op_v (v_loadI ty24 ((hat j hjl).mono hI0) rfl rfl rfl) rfl ?_
    refine op_fcall rfl rfl rfl ((hy _ j _ _ _ _ hx hI0 hJ ⟨hjl, rfl⟩)) (List.perm_append_comm (l₁ := [_])) ?_
    rintro v17 I17 δ17 hI17 ⟨rfl, hJ17⟩
    refine OpsJ.view (View.perm (List.perm_append_comm (l₂ := [_]))) ?_
    rw [← hx2] at hJ17
    refine op_v (v_not rfl) rfl ?_
    refine ops_nil ?_
    refine post_next ?_
    refine code_cond_f rfl ?_
    refine code_skip ?_
    refine post_out ?_
    refine post_next ?_
    refine code_region ?_
    refine op_v (v_move rfl) rfl ?_
    first | refine op_v (v_subb rfl rfl rfl (by omega)) rfl ?_ | refine op_v (v_sub rfl rfl) rfl ?_
    refine op_v (v_assign rfl) rfl ?_
    refine ops_nil ?_
    refine post_again (ts.length - (k + 1)) [(0, yv), (1, .pointer (some ⟨b, 0, none⟩)), (3, .int .i64 ((j : Int) - 1))] (by omega) ⟨k + 1, δ17, rfl, hlt, ?_, Imm.le_trans hI0 hI17, rfl, hJ17⟩ ⟨rfl, rfl, rfl, trivial⟩
    rw [show (j : Int) - 1 = (ts.length : Int) - 1 - ((k + 1 : Nat) : Int) by omega]
  · have hq : ¬ 0 ≤ (ts.length : Int) - 1 - k := by simpa using hc0
    have hge : k = ts.length := by omega
    have hall : (List.range ts.length).reverse.take k = (List.range ts.length).reverse := List.take_of_length_le (by simp; omega)
    rw [hall] at hJ
    refine code_exit ?_
    refine post_exit_then ?_
    refine post_exit_then ?_
    refine post_exit ?_
    refine post_end (rs := []) rfl (List.Perm.refl _) .nil (List.Sublist.refl _) ⟨δJ, hJ, rfl⟩

theorem Backward_does {I : Imm} {s : Value} :
    Does Try.prog 82 [s] I [] (fun v I' δ' => ∃ b, v = .func (.func 86) #[] #[.pointer (some ⟨b, 0, none⟩)] ∧ δ' = [.box b 22 (cellsL s)]) := by
  refine Does.intro Try.func82 rfl Try.ntmps82 rfl fun w0 => ?_
  refine code_seq ?_
  refine code_region ?_
  refine o_box rfl rfl rfl (fun b1 => ?_)
  refine op_v (v_assign rfl) rfl ?_
  refine ops_nil ?_
  refine post_next ?_
  refine code_seq ?_
  refine code_region ?_
  refine op_v (v_makeFunc rfl rfl) rfl ?_
  refine op_v (v_assign rfl) rfl ?_
  refine ops_nil ?_
  refine post_next ?_
  refine code_ret ?_
  refine post_ret (rs := [.tmp 2]) rfl (List.Perm.refl _) (.cons (.tmp rfl) .nil) (List.Sublist.refl _) ?_
  exact ⟨b1, rfl, rfl⟩
theorem parts_does {I : Imm} {h s : Value} :
    Does Try.prog 69 [.agg #[h, s]] I [] (fun v I' δ' => ∃ b, v = .func (.func 81) #[] #[.pointer (some ⟨b, 0, none⟩)] ∧ δ' = [.box b 24 [h, s]]) := by
  refine Does.intro Try.func69 rfl Try.ntmps69 rfl fun w0 => ?_
  refine code_seq ?_
  refine code_region ?_
  refine o_box rfl rfl rfl (fun b1 => ?_)
  refine op_v (v_assign rfl) rfl ?_
  refine ops_nil ?_
  refine post_next ?_
  refine code_seq ?_
  refine code_region ?_
  refine op_v (v_makeFunc rfl rfl) rfl ?_
  refine op_v (v_assign rfl) rfl ?_
  refine ops_nil ?_
  refine post_next ?_
  refine code_ret ?_
  refine post_ret (rs := [.tmp 2]) rfl (List.Perm.refl _) (.cons (.tmp rfl) .nil) (List.Sublist.refl _) ?_
  exact ⟨b1, rfl, rfl⟩
end Go.Proofs.Ytdcklngleglbbaa
