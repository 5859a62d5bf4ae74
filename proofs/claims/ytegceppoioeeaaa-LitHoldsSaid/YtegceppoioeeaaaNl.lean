/- Walks: literals in worlds; the statement. -/
import Derived.Test.YtegceppoioeeaaaNk
import Derived.Test.YtegceppoioeeaaaZ2
set_option linter.unusedVariables false
set_option linter.unusedSimpArgs false
set_option linter.unnecessarySimpa false
/- short -/
namespace Go.Proofs.Ytegceppoioeeaaa
open Go Lg

theorem RInts.cells {I : Imm} {ad : Option Addr} {n c : Nat} {xs : List Int} (h : RInts I (.slice ad n c) xs) : Cells I ad (xs.map (Value.int .i64)) := by
  generalize hv : Value.slice ad n c = v at h
  obtain ⟨ad', c', xs, _, _, hat, _⟩ := h
  cases hv
  exact hat
structure Wd where
  size : Int
  rows : List (List Int)
def RepW (I : Imm) (v : Value) (w : Wd) : Prop := InR w.size ∧ ∃ (A : Option Addr) (c : Nat) (xs : List Value), v = .agg #[.int .i64 w.size, .slice A w.rows.length c] ∧ w.rows.length ≤ 6000000000000 ∧ Cells I A xs ∧ RowP I xs w.rows
theorem RepW.mono {I J : Imm} {v : Value} {w : Wd} (h : RepW I v w) (hl : I.le J) : RepW J v w := by
  obtain ⟨h0, A, c, xs, h1, h2, h3, h4⟩ := h; exact ⟨h0, A, c, xs, h1, h2, h3.mono hl, h4.mono hl⟩
theorem RepW.open {I : Imm} {v : Value} {w : Wd} (h : RepW I v w) : ∃ (A : Option Addr) (c : Nat), v = .agg #[.int .i64 w.size, .slice A w.rows.length c] ∧ w.rows.length ≤ 6000000000000 ∧ ∀ i (h : i < w.rows.length), ∃ (ed : Option Addr) (ec : Nat), At I A (i * 1) [.slice ed w.rows[i].length ec] ∧ RInts I (.slice ed w.rows[i].length ec) w.rows[i] := by
  obtain ⟨_, A, c, xs, h1, h2, h3, h4⟩ := h
  exact ⟨A, c, h1, h2, fun i hi => RPs.get h3 h4 i hi⟩
/-- a world of a signature -/
structure WR (gs : List Sy) (w : Wd) : Prop where
  lo : 1 ≤ w.size
  hi : w.size ≤ 4
  len : w.rows.length = gs.length
  each : ∀ i (h : i < gs.length), gs[i].ar ≤ 4 ∧ ((w.rows[i]'(by omega)).length : Int) = w.size ^ gs[i].ar.toNat ∧ ∀ x ∈ w.rows[i]'(by omega), 0 ≤ x ∧ (gs[i].tr = false → x < w.size)
mutual
def wvT (w : Wd) (os : List Int) : T → Int
  | .mk h ts => if h < 0 then (os[(-1 - h).toNat]?).getD 0 else ((w.rows[h.toNat]?).getD []).getD (wvL w os 0 ts).toNat 0
def wvL (w : Wd) (os : List Int) : Int → List T → Int
  | a, [] => a
  | a, t :: r => wvL w os (a * w.size + wvT w os t) r
end
theorem wvL_snoc (w : Wd) (os : List Int) (u : T) : ∀ (l : List T) (a : Int), wvL w os a (l ++ [u]) = wvL w os a l * w.size + wvT w os u
  | [], a => by simp [wvL]
  | t :: r, a => by simp only [List.cons_append, wvL]; exact wvL_snoc w os u r _
theorem wvL_take (w : Wd) (os : List Int) (l : List T) (k : Nat) (h : k < l.length) : wvL w os 0 (l.take (k + 1)) = wvL w os 0 (l.take k) * w.size + wvT w os l[k] := by
  rw [List.take_succ_eq_append_getElem h, wvL_snoc]
theorem arg_thing {gs : List Sy} {t : T} (h : OkG gs t) (i : Nat) (hi : i < t.args.length) : trL gs t.args[i] = false := by
  have hc := (h.child i hi).1
  have h1 := h.mix
  rw [mixG_eq, List.any_eq_false] at h1
  have h2 := h1 t.args[i] (List.getElem_mem hi)
  simp only [Bool.or_eq_true, not_or, Bool.not_eq_true] at h2
  rw [← tru_eq hc, ← mixB_tru hc.unk]; exact h2.1
theorem right_ar {gs : List Sy} (h : rightG gs = true) (i : Nat) (hi : i < gs.length) : 0 ≤ gs[i].ar := by
  have := rightG_at h i hi
  unfold badS at this
  simp only [Bool.or_eq_false_iff, decide_eq_false_iff_not] at this
  omega
/-! ### walks -/
theorem WFew_does {I : Imm} {v : Value} {w : Wd} (hw : RepW I v w) :
    Does Try.prog 22 [v] I [] (fun v _ δ' => (∃ b, v = .bool b) ∧ δ' = []) := by
  obtain ⟨A, c, rfl, hlen, hat⟩ := hw.open
  refine Does.intro Try.func22 rfl Try.ntmps22 rfl fun w0 => ?_
  refine code_seq ?_
  refine code_region ?_
  refine o_box rfl rfl rfl (fun b1 => ?_)
  refine op_v (v_assign rfl) rfl ?_
  refine ops_nil ?_
  refine post_next ?_
  refine code_seq ?_
  refine code_region ?_
  refine op_v (v_assign rfl) rfl ?_
  refine ops_nil ?_
  refine post_next ?_
  refine code_seq ?_
  refine code_seq ?_
  refine code_region ?_
  refine op_v (v_assign rfl) rfl ?_
  refine ops_nil ?_
  refine post_next ?_
  refine code_block ?_
  refine code_loop (fun m σ' I' δ' => ∃ (k n : Nat), m = w.rows.length - k ∧ k ≤ w.rows.length ∧ σ' = [(1, .pointer (some ⟨b1, 0, none⟩)), (3, .int .i64 n), (4, .int .i64 k)] ∧ I.le I' ∧ δ' = [.box b1 41 [.int .i64 w.size, .slice A w.rows.length c]] ∧ n ≤ 17592186050000) w.rows.length [(1, .pointer (some ⟨b1, 0, none⟩)), (3, .int .i64 (0 : Nat)), (4, .int .i64 (0 : Nat))] ⟨0, 0, rfl, Nat.zero_le _, rfl, Imm.le_refl _, rfl, by omega⟩ ⟨rfl, rfl, rfl, trivial⟩ ?_
  rintro m _ I0 _ ⟨k, n, rfl, hk, rfl, hI0, rfl, hn⟩
  refine code_seq ?_
  refine code_seq ?_
  refine code_region ?_
  refine op_v (v_move rfl) rfl ?_
  first | refine op_v (v_fieldB 1 Try.underlying41 rfl rfl fz39 rfl) rfl ?_ | refine op_v (v_fieldI 1 Try.underlying41 rfl rfl fz39 rfl (by assumption)) rfl ?_ | refine op_v (v_field Try.underlying41 rfl fz39 rfl rfl) rfl ?_
  refine op_v (v_loadA ty39 rfl rfl) rfl ?_
  refine op_v (v_len Try.underlying39 rfl) rfl ?_
  by_cases h9 : k < w.rows.length
  · obtain ⟨ed, ec, hate, hre⟩ := hat k h9
    have hs1 := hate.isSome
    have hel := hre.len.1
    first | refine op_v (v_cmptA rfl rfl rfl) rfl ?_ | refine op_v (v_cmpfA rfl rfl rfl) rfl ?_ | refine op_v (v_cmp rfl rfl rfl) rfl ?_
    refine op_v (v_move rfl) rfl ?_
    first
      | (refine op_want rfl rfl ?_
         first | refine op_v (v_fieldB 1 Try.underlying41 rfl rfl fz39 rfl) rfl ?_ | refine op_v (v_fieldI 1 Try.underlying41 rfl rfl fz39 rfl (by assumption)) rfl ?_ | refine op_v (v_field Try.underlying41 rfl fz39 rfl rfl) rfl ?_)
      | (refine op_skip rfl rfl (by simp [undef]) rfl ?_)
    first
      | (refine op_want rfl rfl ?_
         refine op_v (v_loadA ty39 rfl rfl) rfl ?_)
      | (refine op_skip rfl rfl (by simp [undef]) rfl ?_)
    first
      | (refine op_want rfl rfl ?_
         refine op_v (v_len Try.underlying39 rfl) rfl ?_)
      | (refine op_skip rfl rfl (by simp [undef]) rfl ?_)
    by_cases h14 : w.rows.length ≤ 300
    · first
        | (refine op_want rfl rfl ?_
           first | refine op_v (v_cmptA rfl rfl rfl) rfl ?_ | refine op_v (v_cmpfA rfl rfl rfl) rfl ?_ | refine op_v (v_cmp rfl rfl rfl) rfl ?_)
        | (refine op_skip rfl rfl (by simp [undef]) rfl ?_)
      first | refine op_v (v_pickt rfl rfl) rfl ?_ | refine op_v (v_pickf rfl rfl) rfl ?_ | refine op_v (v_pickb rfl rfl rfl) rfl ?_
      refine op_v (v_move rfl) rfl ?_
      first
        | (refine op_want rfl rfl ?_
           refine op_v (v_move rfl) rfl ?_)
        | (refine op_skip rfl rfl (by simp [undef]) rfl ?_)
      by_cases h18 : n ≤ 3000
      · first
          | (refine op_want rfl rfl ?_
             first | refine op_v (v_cmptA rfl rfl rfl) rfl ?_ | refine op_v (v_cmpfA rfl rfl rfl) rfl ?_ | refine op_v (v_cmp rfl rfl rfl) rfl ?_)
          | (refine op_skip rfl rfl (by simp [undef]) rfl ?_)
        first | refine op_v (v_pickt rfl rfl) rfl ?_ | refine op_v (v_pickf rfl rfl) rfl ?_ | refine op_v (v_pickb rfl rfl rfl) rfl ?_
        refine ops_nil ?_
        refine post_next ?_
        refine code_cond_t rfl ?_
        refine code_skip ?_
        refine post_next ?_
        refine code_seq ?_
        refine code_block ?_
        refine code_region ?_
        refine op_v (v_move rfl) rfl ?_
        first | refine op_v (v_fieldB 1 Try.underlying41 rfl rfl fz39 rfl) rfl ?_ | refine op_v (v_fieldI 1 Try.underlying41 rfl rfl fz39 rfl (by assumption)) rfl ?_ | refine op_v (v_field Try.underlying41 rfl fz39 rfl rfl) rfl ?_
        refine op_v (v_loadA ty39 rfl rfl) rfl ?_
        refine op_v (v_move rfl) rfl ?_
        first | refine op_v (v_indexA Try.underlying39 sz42 rfl rfl) rfl ?_ | refine op_v (v_indexIA Try.underlying39 sz42 rfl rfl) rfl ?_
        first | refine op_v (v_loadI0 ty42 (hate.mono hI0) rfl rfl rfl) rfl ?_ | refine op_v (v_loadI ty42 (hate.mono hI0) rfl rfl rfl) rfl ?_
        refine op_v (v_len Try.underlying42 rfl) rfl ?_
        first | refine op_v (v_addb rfl rfl rfl (by omega)) rfl ?_ | refine op_v (v_add rfl rfl) rfl ?_
        refine op_v (v_assign rfl) rfl ?_
        refine ops_nil ?_
        refine post_out ?_
        refine post_next ?_
        refine code_region ?_
        refine op_v (v_move rfl) rfl ?_
        first | refine op_v (v_addb rfl rfl rfl (by omega)) rfl ?_ | refine op_v (v_add rfl rfl) rfl ?_
        refine op_v (v_assign rfl) rfl ?_
        refine ops_nil ?_
        refine post_again (w.rows.length - (k + 1)) [(1, .pointer (some ⟨b1, 0, none⟩)), (3, .int .i64 ((n + w.rows[k].length : Nat) : Int)), (4, .int .i64 (k + 1 : Nat))] (by omega) ⟨k + 1, n + w.rows[k].length, rfl, h9, rfl, Imm.leA, rfl, by omega⟩ ⟨rfl, rfl, rfl, trivial⟩
      · first
          | (refine op_want rfl rfl ?_
             first | refine op_v (v_cmptA rfl rfl rfl) rfl ?_ | refine op_v (v_cmpfA rfl rfl rfl) rfl ?_ | refine op_v (v_cmp rfl rfl rfl) rfl ?_)
          | (refine op_skip rfl rfl (by simp [undef]) rfl ?_)
        first | refine op_v (v_pickt rfl rfl) rfl ?_ | refine op_v (v_pickf rfl rfl) rfl ?_ | refine op_v (v_pickb rfl rfl rfl) rfl ?_
        refine ops_nil ?_
        refine post_next ?_
        refine code_cond_f rfl ?_
        refine code_exit ?_
        refine post_exit_then ?_
        refine post_exit_then ?_
        refine post_exit ?_
        refine post_next ?_
        refine code_seq ?_
        refine code_region ?_
        first | refine op_v (v_fieldB 1 Try.underlying41 rfl rfl fz39 rfl) rfl ?_ | refine op_v (v_fieldI 1 Try.underlying41 rfl rfl fz39 rfl (by assumption)) rfl ?_ | refine op_v (v_field Try.underlying41 rfl fz39 rfl rfl) rfl ?_
        refine op_v (v_loadA ty39 rfl rfl) rfl ?_
        refine op_v (v_len Try.underlying39 rfl) rfl ?_
        first | refine op_v (v_cmptA rfl rfl rfl) rfl ?_ | refine op_v (v_cmpfA rfl rfl rfl) rfl ?_ | refine op_v (v_cmp rfl rfl rfl) rfl ?_
        refine op_v (v_move rfl) rfl ?_
        first
          | (refine op_want rfl rfl ?_
             refine op_v (v_move rfl) rfl ?_)
          | (refine op_skip rfl rfl (by simp [undef]) rfl ?_)
        first
          | (refine op_want rfl rfl ?_
             first | refine op_v (v_cmptA rfl rfl rfl) rfl ?_ | refine op_v (v_cmpfA rfl rfl rfl) rfl ?_ | refine op_v (v_cmp rfl rfl rfl) rfl ?_)
          | (refine op_skip rfl rfl (by simp [undef]) rfl ?_)
        first | refine op_v (v_pickt rfl rfl) rfl ?_ | refine op_v (v_pickf rfl rfl) rfl ?_ | refine op_v (v_pickb rfl rfl rfl) rfl ?_
        refine op_v (v_assign rfl) rfl ?_
        refine ops_nil ?_
        refine post_next ?_
        refine code_ret ?_
        refine post_ret (rs := [.tmp 2]) rfl (List.Perm.refl _) (.cons (.tmp rfl) .nil) (List.nil_sublist _) ?_
        exact ⟨⟨_, rfl⟩, rfl⟩
    · first
        | (refine op_want rfl rfl ?_
           first | refine op_v (v_cmptA rfl rfl rfl) rfl ?_ | refine op_v (v_cmpfA rfl rfl rfl) rfl ?_ | refine op_v (v_cmp rfl rfl rfl) rfl ?_)
        | (refine op_skip rfl rfl (by simp [undef]) rfl ?_)
      first | refine op_v (v_pickt rfl rfl) rfl ?_ | refine op_v (v_pickf rfl rfl) rfl ?_ | refine op_v (v_pickb rfl rfl rfl) rfl ?_
      refine op_v (v_move rfl) rfl ?_
      first
        | (refine op_want rfl rfl ?_
           refine op_v (v_move rfl) rfl ?_)
        | (refine op_skip rfl rfl (by simp [undef]) rfl ?_)
      first
        | (refine op_want rfl rfl ?_
           first | refine op_v (v_cmptA rfl rfl rfl) rfl ?_ | refine op_v (v_cmpfA rfl rfl rfl) rfl ?_ | refine op_v (v_cmp rfl rfl rfl) rfl ?_)
        | (refine op_skip rfl rfl (by simp [undef]) rfl ?_)
      first | refine op_v (v_pickt rfl rfl) rfl ?_ | refine op_v (v_pickf rfl rfl) rfl ?_ | refine op_v (v_pickb rfl rfl rfl) rfl ?_
      refine ops_nil ?_
      refine post_next ?_
      refine code_cond_f rfl ?_
      refine code_exit ?_
      refine post_exit_then ?_
      refine post_exit_then ?_
      refine post_exit ?_
      refine post_next ?_
      refine code_seq ?_
      refine code_region ?_
      first | refine op_v (v_fieldB 1 Try.underlying41 rfl rfl fz39 rfl) rfl ?_ | refine op_v (v_fieldI 1 Try.underlying41 rfl rfl fz39 rfl (by assumption)) rfl ?_ | refine op_v (v_field Try.underlying41 rfl fz39 rfl rfl) rfl ?_
      refine op_v (v_loadA ty39 rfl rfl) rfl ?_
      refine op_v (v_len Try.underlying39 rfl) rfl ?_
      first | refine op_v (v_cmptA rfl rfl rfl) rfl ?_ | refine op_v (v_cmpfA rfl rfl rfl) rfl ?_ | refine op_v (v_cmp rfl rfl rfl) rfl ?_
      refine op_v (v_move rfl) rfl ?_
      first
        | (refine op_want rfl rfl ?_
           refine op_v (v_move rfl) rfl ?_)
        | (refine op_skip rfl rfl (by simp [undef]) rfl ?_)
      first
        | (refine op_want rfl rfl ?_
           first | refine op_v (v_cmptA rfl rfl rfl) rfl ?_ | refine op_v (v_cmpfA rfl rfl rfl) rfl ?_ | refine op_v (v_cmp rfl rfl rfl) rfl ?_)
        | (refine op_skip rfl rfl (by simp [undef]) rfl ?_)
      first | refine op_v (v_pickt rfl rfl) rfl ?_ | refine op_v (v_pickf rfl rfl) rfl ?_ | refine op_v (v_pickb rfl rfl rfl) rfl ?_
      refine op_v (v_assign rfl) rfl ?_
      refine ops_nil ?_
      refine post_next ?_
      refine code_ret ?_
      refine post_ret (rs := [.tmp 2]) rfl (List.Perm.refl _) (.cons (.tmp rfl) .nil) (List.nil_sublist _) ?_
      exact ⟨⟨_, rfl⟩, rfl⟩
  · first | refine op_v (v_cmptA rfl rfl rfl) rfl ?_ | refine op_v (v_cmpfA rfl rfl rfl) rfl ?_ | refine op_v (v_cmp rfl rfl rfl) rfl ?_
    refine op_v (v_move rfl) rfl ?_
    first
      | (refine op_want rfl rfl ?_
         first | refine op_v (v_fieldB 1 Try.underlying41 rfl rfl fz39 rfl) rfl ?_ | refine op_v (v_fieldI 1 Try.underlying41 rfl rfl fz39 rfl (by assumption)) rfl ?_ | refine op_v (v_field Try.underlying41 rfl fz39 rfl rfl) rfl ?_)
      | (refine op_skip rfl rfl (by simp [undef]) rfl ?_)
    first
      | (refine op_want rfl rfl ?_
         refine op_v (v_loadA ty39 rfl rfl) rfl ?_)
      | (refine op_skip rfl rfl (by simp [undef]) rfl ?_)
    first
      | (refine op_want rfl rfl ?_
         refine op_v (v_len Try.underlying39 rfl) rfl ?_)
      | (refine op_skip rfl rfl (by simp [undef]) rfl ?_)
    first
      | (refine op_want rfl rfl ?_
         first | refine op_v (v_cmptA rfl rfl rfl) rfl ?_ | refine op_v (v_cmpfA rfl rfl rfl) rfl ?_ | refine op_v (v_cmp rfl rfl rfl) rfl ?_)
      | (refine op_skip rfl rfl (by simp [undef]) rfl ?_)
    first | refine op_v (v_pickt rfl rfl) rfl ?_ | refine op_v (v_pickf rfl rfl) rfl ?_ | refine op_v (v_pickb rfl rfl rfl) rfl ?_
    refine op_v (v_move rfl) rfl ?_
    first
      | (refine op_want rfl rfl ?_
         refine op_v (v_move rfl) rfl ?_)
      | (refine op_skip rfl rfl (by simp [undef]) rfl ?_)
    first
      | (refine op_want rfl rfl ?_
         first | refine op_v (v_cmptA rfl rfl rfl) rfl ?_ | refine op_v (v_cmpfA rfl rfl rfl) rfl ?_ | refine op_v (v_cmp rfl rfl rfl) rfl ?_)
      | (refine op_skip rfl rfl (by simp [undef]) rfl ?_)
    first | refine op_v (v_pickt rfl rfl) rfl ?_ | refine op_v (v_pickf rfl rfl) rfl ?_ | refine op_v (v_pickb rfl rfl rfl) rfl ?_
    refine ops_nil ?_
    refine post_next ?_
    refine code_cond_f rfl ?_
    refine code_exit ?_
    refine post_exit_then ?_
    refine post_exit_then ?_
    refine post_exit ?_
    refine post_next ?_
    refine code_seq ?_
    refine code_region ?_
    first | refine op_v (v_fieldB 1 Try.underlying41 rfl rfl fz39 rfl) rfl ?_ | refine op_v (v_fieldI 1 Try.underlying41 rfl rfl fz39 rfl (by assumption)) rfl ?_ | refine op_v (v_field Try.underlying41 rfl fz39 rfl rfl) rfl ?_
    refine op_v (v_loadA ty39 rfl rfl) rfl ?_
    refine op_v (v_len Try.underlying39 rfl) rfl ?_
    by_cases h33 : w.rows.length ≤ 300
    · first | refine op_v (v_cmptA rfl rfl rfl) rfl ?_ | refine op_v (v_cmpfA rfl rfl rfl) rfl ?_ | refine op_v (v_cmp rfl rfl rfl) rfl ?_
      refine op_v (v_move rfl) rfl ?_
      first
        | (refine op_want rfl rfl ?_
           refine op_v (v_move rfl) rfl ?_)
        | (refine op_skip rfl rfl (by simp [undef]) rfl ?_)
      first
        | (refine op_want rfl rfl ?_
           first | refine op_v (v_cmptA rfl rfl rfl) rfl ?_ | refine op_v (v_cmpfA rfl rfl rfl) rfl ?_ | refine op_v (v_cmp rfl rfl rfl) rfl ?_)
        | (refine op_skip rfl rfl (by simp [undef]) rfl ?_)
      first | refine op_v (v_pickt rfl rfl) rfl ?_ | refine op_v (v_pickf rfl rfl) rfl ?_ | refine op_v (v_pickb rfl rfl rfl) rfl ?_
      refine op_v (v_assign rfl) rfl ?_
      refine ops_nil ?_
      refine post_next ?_
      refine code_ret ?_
      refine post_ret (rs := [.tmp 2]) rfl (List.Perm.refl _) (.cons (.tmp rfl) .nil) (List.nil_sublist _) ?_
      exact ⟨⟨_, rfl⟩, rfl⟩
    · first | refine op_v (v_cmptA rfl rfl rfl) rfl ?_ | refine op_v (v_cmpfA rfl rfl rfl) rfl ?_ | refine op_v (v_cmp rfl rfl rfl) rfl ?_
      refine op_v (v_move rfl) rfl ?_
      first
        | (refine op_want rfl rfl ?_
           refine op_v (v_move rfl) rfl ?_)
        | (refine op_skip rfl rfl (by simp [undef]) rfl ?_)
      first
        | (refine op_want rfl rfl ?_
           first | refine op_v (v_cmptA rfl rfl rfl) rfl ?_ | refine op_v (v_cmpfA rfl rfl rfl) rfl ?_ | refine op_v (v_cmp rfl rfl rfl) rfl ?_)
        | (refine op_skip rfl rfl (by simp [undef]) rfl ?_)
      first | refine op_v (v_pickt rfl rfl) rfl ?_ | refine op_v (v_pickf rfl rfl) rfl ?_ | refine op_v (v_pickb rfl rfl rfl) rfl ?_
      refine op_v (v_assign rfl) rfl ?_
      refine ops_nil ?_
      refine post_next ?_
      refine code_ret ?_
      refine post_ret (rs := [.tmp 2]) rfl (List.Perm.refl _) (.cons (.tmp rfl) .nil) (List.nil_sublist _) ?_
      exact ⟨⟨_, rfl⟩, rfl⟩
theorem pow_bound {s : Int} (h0 : 1 ≤ s) (h1 : s ≤ 4) : ∀ k : Nat, k ≤ 4 → 1 ≤ s ^ k ∧ s ^ k ≤ 4 ^ k := by
  intro k
  induction k with
  | zero => intro _; simp
  | succ k ih =>
    intro hk
    obtain ⟨a, b⟩ := ih (by omega)
    rw [Int.pow_succ, Int.pow_succ]
    constructor
    · have := Int.mul_le_mul a h0 (by omega) (by omega); omega
    · exact Int.mul_le_mul b h1 (by omega) (Int.pow_nonneg (by omega))
theorem power_does {I : Imm} {s : Int} {n : Nat} (h0 : 1 ≤ s) (h1 : s ≤ 4) (hn : n ≤ 4) :
    Does Try.prog 62 [.int .i64 s, .int .i64 n] I [] (fun v _ δ' => v = .int .i64 (s ^ n) ∧ δ' = []) := by
  have h44 : ∀ k : Nat, k ≤ 4 → (4 : Int) ^ k ≤ 256 := fun k hk => by
    rcases k with _ | _ | _ | _ | _ | k <;> first | decide | omega
  refine Does.intro Try.func62 rfl Try.ntmps62 rfl fun w0 => ?_
  refine code_seq ?_
  refine code_region ?_
  refine op_v (v_assign rfl) rfl ?_
  refine ops_nil ?_
  refine post_next ?_
  refine code_seq ?_
  refine code_region ?_
  refine op_v (v_assign rfl) rfl ?_
  refine ops_nil ?_
  refine post_next ?_
  refine code_seq ?_
  refine code_seq ?_
  refine code_region ?_
  refine op_v (v_assign rfl) rfl ?_
  refine ops_nil ?_
  refine post_next ?_
  refine code_block ?_
  refine code_loop (fun m σ' I' δ' => ∃ k : Nat, m = n - k ∧ k ≤ n ∧ σ' = [(0, .int .i64 s), (1, .int .i64 n), (5, .int .i64 (s ^ k)), (6, .int .i64 k)] ∧ I = I' ∧ δ' = []) n [(0, .int .i64 s), (1, .int .i64 n), (5, .int .i64 1), (6, .int .i64 (0 : Nat))] ⟨0, rfl, Nat.zero_le _, by simp, rfl, rfl⟩ ⟨rfl, rfl, rfl, rfl, trivial⟩ ?_
  rintro m _ _ _ ⟨k, rfl, hk, rfl, rfl, rfl⟩
  refine code_seq ?_
  refine code_seq ?_
  refine code_region ?_
  refine op_v (v_move rfl) rfl ?_
  refine op_v (v_move rfl) rfl ?_
  first | refine op_v (v_cmptA rfl rfl rfl) rfl ?_ | refine op_v (v_cmpfA rfl rfl rfl) rfl ?_ | refine op_v (v_cmp rfl rfl rfl) rfl ?_
  refine ops_nil ?_
  refine post_next ?_
  refine code_cond rfl (fun hc0 => ?_) (fun hc0 => ?_)
  · have hlt : k < n := by simpa using hc0
    have hb := pow_bound h0 h1 (k + 1) (by omega)
    have hb2 := h44 (k + 1) (by omega)
    rw [Int.pow_succ] at hb
    refine code_skip ?_
    refine post_next ?_
    refine code_seq ?_
    refine code_block ?_
    refine code_region ?_
    refine op_v (v_move rfl) rfl ?_
    refine op_v (v_move rfl) rfl ?_
    refine op_v (v_mulb (c := s ^ k * s) rfl rfl rfl ⟨by omega, by omega⟩) rfl ?_
    refine op_v (v_assign rfl) rfl ?_
    refine ops_nil ?_
    refine post_out ?_
    refine post_next ?_
    refine code_region ?_
    refine op_v (v_move rfl) rfl ?_
    first | refine op_v (v_addb rfl rfl rfl (by omega)) rfl ?_ | refine op_v (v_add rfl rfl) rfl ?_
    refine op_v (v_assign rfl) rfl ?_
    refine ops_nil ?_
    refine post_again (n - (k + 1)) [(0, .int .i64 s), (1, .int .i64 n), (5, .int .i64 (s ^ k * s)), (6, .int .i64 (k + 1 : Nat))] (by omega) ⟨k + 1, rfl, hlt, by rw [Int.pow_succ], rfl, rfl⟩ ⟨rfl, rfl, rfl, rfl, trivial⟩
  · have hge : k = n := by simp at hc0; omega
    subst hge
    refine code_exit ?_
    refine post_exit_then ?_
    refine post_exit_then ?_
    refine post_exit ?_
    refine post_next ?_
    refine code_seq ?_
    refine code_region ?_
    refine op_v (v_move rfl) rfl ?_
    refine op_v (v_assign rfl) rfl ?_
    refine ops_nil ?_
    refine post_next ?_
    refine code_ret ?_
    refine post_ret (rs := [.tmp 4]) rfl (List.Perm.refl _) (.cons (.tmp rfl) .nil) (List.nil_sublist _) ?_
    exact ⟨rfl, rfl⟩
end Go.Proofs.Ytegceppoioeeaaa
