/- Own texts, one behind the other: rules of a small program logic, walks through the program's functions, plain facts. No condition. -/
import Derived.Test.YtdbadicpbmndbaaZ2
/- Walks: a signature's rightness, by the program. -/
set_option linter.unusedVariables false
set_option linter.unusedSimpArgs false
/- short -/
namespace Go.Proofs.Ytdbadicpbmndbaa
open Go Lg

def truthS : Sy := ⟨⟨#[36, 116, 114, 117, 101]⟩, 0, 1, true⟩
def badS (pre : List Sy) (x : Sy) : Bool := nmEq x.name ⟨#[]⟩ || (decide (64 < x.name.size) || ((pre.any fun s => nmEq s.name x.name) || (decide (x.ar < 0) || (decide (8 < x.ar) || (decide (x.wt < 1) || decide (1000 < x.wt))))))
def goodL : List Sy → List Sy → Bool
  | _, [] => true
  | pre, x :: r => !badS pre x && goodL (pre ++ [x]) r
def rightG (gs : List Sy) : Bool := match gs with
  | [] => false
  | x :: r => decide ((x :: r).length ≤ 256) && (syEq x truthS && goodL [] (x :: r))
def chkG (gs : List Sy) : Int := if rightG gs = true then 0 else 1
theorem goodL_at : ∀ (pre gs : List Sy), goodL pre gs = true ↔ ∀ i (h : i < gs.length), badS (pre ++ gs.take i) gs[i] = false
  | pre, [] => by simp [goodL]
  | pre, x :: r => by
    simp only [goodL, Bool.and_eq_true, Bool.not_eq_true', goodL_at (pre ++ [x]) r]
    constructor
    · rintro ⟨h1, h2⟩ i hi
      cases i with
      | zero => simpa using h1
      | succ i => have := h2 i (by simpa using hi); simpa using this
    · intro h
      have h0 : badS pre x = false := by
        have := h 0 (by simp)
        simp only [List.take_zero, List.append_nil, List.getElem_cons_zero] at this
        exact this
      refine ⟨h0, fun i hi => ?_⟩
      have := h (i + 1) (by simpa using hi)
      simpa using this
theorem rightG_len {gs : List Sy} (h : rightG gs = true) : 1 ≤ gs.length ∧ gs.length ≤ 256 := by
  cases gs with
  | nil => simp [rightG] at h
  | cons x r => simp only [rightG, Bool.and_eq_true, decide_eq_true_eq] at h; exact ⟨by simp, h.1⟩
theorem rightG_at {gs : List Sy} (h : rightG gs = true) (i : Nat) (hi : i < gs.length) : badS (gs.take i) gs[i] = false := by
  cases gs with
  | nil => simp at hi
  | cons x r =>
    simp only [rightG, Bool.and_eq_true] at h
    have := (goodL_at [] (x :: r)).1 h.2.2 i hi
    simpa using this
theorem rightG_of {gs : List Sy} (h0 : 0 < gs.length) (h1 : gs.length ≤ 256) (h2 : syEq (gs[0]'h0) truthS = true) (h3 : ∀ i (h : i < gs.length), badS (gs.take i) gs[i] = false) : rightG gs = true := by
  cases gs with
  | nil => simp at h0
  | cons x r =>
    simp only [rightG, Bool.and_eq_true, decide_eq_true_eq]
    exact ⟨h1, by simpa using h2, (goodL_at [] (x :: r)).2 (fun i hi => by simpa using h3 i hi)⟩
theorem chkG_bad {gs : List Sy} (i : Nat) (hi : i < gs.length) (h : badS (gs.take i) gs[i] = true) : chkG gs = 1 := by
  unfold chkG
  rw [if_neg]
  intro hr
  rw [rightG_at hr i hi] at h
  cases h
theorem chkG_head {gs : List Sy} (h0 : 0 < gs.length) (h : ¬ syEq (gs[0]'h0) truthS = true) : chkG gs = 1 := by
  unfold chkG
  rw [if_neg]
  intro hr
  cases gs with
  | nil => simp at h0
  | cons x r => simp only [rightG, Bool.and_eq_true] at hr; exact h (by simpa using hr.2.1)
theorem chkG_len {gs : List Sy} (h : gs.length < 1 ∨ 256 < gs.length) : chkG gs = 1 := by
  unfold chkG
  rw [if_neg]
  intro hr
  have := rightG_len hr
  omega
theorem chkG_ok {gs : List Sy} (h0 : 0 < gs.length) (h1 : gs.length ≤ 256) (h2 : syEq (gs[0]'h0) truthS = true) (h3 : ∀ i (h : i < gs.length), badS (gs.take i) gs[i] = false) : chkG gs = 0 := by
  unfold chkG; rw [if_pos (rightG_of h0 h1 h2 h3)]

theorem GCheck_does {I : Imm} {v : Value} {gs : List Sy} (hv : RepG I v gs) :
    Does Try.prog 93 [v] I [] (fun v _ δ' => v = .int .i64 (chkG gs) ∧ δ' = []) := by
  obtain ⟨ad, c, rfl⟩ := hv.shape
  obtain ⟨_, hc, hb, hat, hok⟩ := hv.open
  refine Does.intro Try.func93 rfl Try.ntmps93 rfl fun w0 => ?_
  refine code_seq ?_
  refine code_region ?_
  refine op_v (v_assign rfl) rfl ?_
  refine ops_nil ?_
  refine post_next ?_
  refine code_seq ?_
  refine code_seq ?_
  refine code_region ?_
  refine op_v (v_move rfl) rfl ?_
  refine op_v (v_len Try.underlying22 rfl) rfl ?_
  by_cases h8 : gs.length < 1
  · first | refine op_v (v_cmptA rfl rfl rfl) rfl ?_ | refine op_v (v_cmpfA rfl rfl rfl) rfl ?_ | refine op_v (v_cmp rfl rfl rfl) rfl ?_
    refine op_v (v_move rfl) rfl ?_
    first
      | (refine op_want rfl rfl ?_
         refine op_v (v_move rfl) rfl ?_)
      | (refine op_skip rfl rfl (by simp [undef]) rfl ?_)
    first
      | (refine op_want rfl rfl ?_
         refine op_v (v_len Try.underlying22 rfl) rfl ?_)
      | (refine op_skip rfl rfl (by simp [undef]) rfl ?_)
    first
      | (refine op_want rfl rfl ?_
         first | refine op_v (v_cmptA rfl rfl rfl) rfl ?_ | refine op_v (v_cmpfA rfl rfl rfl) rfl ?_ | refine op_v (v_cmp rfl rfl rfl) rfl ?_)
      | (refine op_skip rfl rfl (by simp [undef]) rfl ?_)
    first | refine op_v (v_pickt rfl rfl) rfl ?_ | refine op_v (v_pickf rfl rfl) rfl ?_ | refine op_v (v_pickb rfl rfl rfl) rfl ?_
    refine op_v (v_move rfl) rfl ?_
    first
      | (refine op_want rfl rfl ?_
         refine op_v (v_move rfl) rfl ?_)
      | (refine op_skip rfl rfl (by simp [undef]) rfl ?_)
    first
      | (refine op_want rfl rfl ?_
         first | refine op_v (v_indexA Try.underlying22 sz79 rfl rfl) rfl ?_ | refine op_v (v_indexIA Try.underlying22 sz79 rfl rfl) rfl ?_)
      | (refine op_skip rfl rfl (by simp [undef]) rfl ?_)
    first
      | (refine op_want rfl rfl ?_
         refine op_v (v_loadI0 (m := 0) ty79 (by have := hat 0 h0; simpa using this) rfl rfl rfl) rfl ?_)
      | (refine op_skip rfl rfl (by simp [undef]) rfl ?_)
    first
      | (refine op_want rfl rfl ?_
         refine op_v (v_build bl79 rfl rfl) rfl ?_)
      | (refine op_skip rfl rfl (by simp [undef]) rfl ?_)
    first
      | (refine op_want rfl rfl ?_
         refine op_v (v_eqSy syTy rfl rfl rfl) rfl ?_)
      | (refine op_skip rfl rfl (by simp [undef]) rfl ?_)
    first | refine op_v (v_pickt rfl rfl) rfl ?_ | refine op_v (v_pickf rfl rfl) rfl ?_ | refine op_v (v_pickb rfl rfl rfl) rfl ?_
    refine ops_nil ?_
    refine post_next ?_
    refine code_cond_t rfl ?_
    refine code_seq ?_
    refine code_region ?_
    refine op_v (v_assign rfl) rfl ?_
    refine ops_nil ?_
    refine post_next ?_
    refine code_ret ?_
    refine post_ret_then ?_
    refine post_ret (rs := [.tmp 2]) rfl (List.Perm.refl _) (.cons (.tmp rfl) .nil) (List.nil_sublist _) ?_
    exact ⟨by rw [chkG_len (.inl h8)]; rfl, rfl⟩
  · first | refine op_v (v_cmptA rfl rfl rfl) rfl ?_ | refine op_v (v_cmpfA rfl rfl rfl) rfl ?_ | refine op_v (v_cmp rfl rfl rfl) rfl ?_
    refine op_v (v_move rfl) rfl ?_
    first
      | (refine op_want rfl rfl ?_
         refine op_v (v_move rfl) rfl ?_)
      | (refine op_skip rfl rfl (by simp [undef]) rfl ?_)
    first
      | (refine op_want rfl rfl ?_
         refine op_v (v_len Try.underlying22 rfl) rfl ?_)
      | (refine op_skip rfl rfl (by simp [undef]) rfl ?_)
    by_cases h12 : 256 < gs.length
    · first
        | (refine op_want rfl rfl ?_
           first | refine op_v (v_cmptA rfl rfl rfl) rfl ?_ | refine op_v (v_cmpfA rfl rfl rfl) rfl ?_ | refine op_v (v_cmp rfl rfl rfl) rfl ?_)
        | (refine op_skip rfl rfl (by simp [undef]) rfl ?_)
      first | refine op_v (v_pickt rfl rfl) rfl ?_ | refine op_v (v_pickf rfl rfl) rfl ?_ | refine op_v (v_pickb rfl rfl rfl) rfl ?_
      refine op_v (v_move rfl) rfl ?_
      first
        | (refine op_want rfl rfl ?_
           refine op_v (v_move rfl) rfl ?_)
        | (refine op_skip rfl rfl (by simp [undef]) rfl ?_)
      first
        | (refine op_want rfl rfl ?_
           first | refine op_v (v_indexA Try.underlying22 sz79 rfl rfl) rfl ?_ | refine op_v (v_indexIA Try.underlying22 sz79 rfl rfl) rfl ?_)
        | (refine op_skip rfl rfl (by simp [undef]) rfl ?_)
      first
        | (refine op_want rfl rfl ?_
           refine op_v (v_loadI0 (m := 0) ty79 (by have := hat 0 h0; simpa using this) rfl rfl rfl) rfl ?_)
        | (refine op_skip rfl rfl (by simp [undef]) rfl ?_)
      first
        | (refine op_want rfl rfl ?_
           refine op_v (v_build bl79 rfl rfl) rfl ?_)
        | (refine op_skip rfl rfl (by simp [undef]) rfl ?_)
      first
        | (refine op_want rfl rfl ?_
           refine op_v (v_eqSy syTy rfl rfl rfl) rfl ?_)
        | (refine op_skip rfl rfl (by simp [undef]) rfl ?_)
      first | refine op_v (v_pickt rfl rfl) rfl ?_ | refine op_v (v_pickf rfl rfl) rfl ?_ | refine op_v (v_pickb rfl rfl rfl) rfl ?_
      refine ops_nil ?_
      refine post_next ?_
      refine code_cond_t rfl ?_
      refine code_seq ?_
      refine code_region ?_
      refine op_v (v_assign rfl) rfl ?_
      refine ops_nil ?_
      refine post_next ?_
      refine code_ret ?_
      refine post_ret_then ?_
      refine post_ret (rs := [.tmp 2]) rfl (List.Perm.refl _) (.cons (.tmp rfl) .nil) (List.nil_sublist _) ?_
      exact ⟨by rw [chkG_len (.inr h12)]; rfl, rfl⟩
    · first
        | (refine op_want rfl rfl ?_
           first | refine op_v (v_cmptA rfl rfl rfl) rfl ?_ | refine op_v (v_cmpfA rfl rfl rfl) rfl ?_ | refine op_v (v_cmp rfl rfl rfl) rfl ?_)
        | (refine op_skip rfl rfl (by simp [undef]) rfl ?_)
      first | refine op_v (v_pickt rfl rfl) rfl ?_ | refine op_v (v_pickf rfl rfl) rfl ?_ | refine op_v (v_pickb rfl rfl rfl) rfl ?_
      refine op_v (v_move rfl) rfl ?_
      first
        | (refine op_want rfl rfl ?_
           refine op_v (v_move rfl) rfl ?_)
        | (refine op_skip rfl rfl (by simp [undef]) rfl ?_)
      have h0 : 0 < gs.length := by omega
      have hs0 : ad.isSome = true := (hat 0 h0).isSome
      first
        | (refine op_want rfl rfl ?_
           first | refine op_v (v_indexA Try.underlying22 sz79 rfl rfl) rfl ?_ | refine op_v (v_indexIA Try.underlying22 sz79 rfl rfl) rfl ?_)
        | (refine op_skip rfl rfl (by simp [undef]) rfl ?_)
      first
        | (refine op_want rfl rfl ?_
           refine op_v (v_loadI0 (m := 0) ty79 (by have := hat 0 h0; simpa using this) rfl rfl rfl) rfl ?_)
        | (refine op_skip rfl rfl (by simp [undef]) rfl ?_)
      first
        | (refine op_want rfl rfl ?_
           refine op_v (v_build bl79 rfl rfl) rfl ?_)
        | (refine op_skip rfl rfl (by simp [undef]) rfl ?_)
      by_cases h19 : syEq (gs[0]'h0) truthS = true
      · first
          | (refine op_want rfl rfl ?_
             refine op_v (v_eqSy (a := gs[0]'h0) (b := truthS) (z := false) syTy rfl rfl (by simp [cmpG, h19])) rfl ?_)
          | (refine op_skip rfl rfl (by simp [undef]) rfl ?_)
        first | refine op_v (v_pickt rfl rfl) rfl ?_ | refine op_v (v_pickf rfl rfl) rfl ?_ | refine op_v (v_pickb rfl rfl rfl) rfl ?_
        refine ops_nil ?_
        refine post_next ?_
        refine code_cond_f rfl ?_
        refine code_skip ?_
        refine post_next ?_
        refine code_seq ?_
        refine code_seq ?_
        refine code_region ?_
        refine op_v (v_move rfl) rfl ?_
        refine op_v (v_len Try.underlying22 rfl) rfl ?_
        refine op_v (v_move rfl) rfl ?_
        refine ops_nil ?_
        refine post_next ?_
        refine code_block ?_
        refine code_loop (fun m σ' I' δ' => ∃ k : Nat, m = gs.length - k ∧ k ≤ gs.length ∧ σ' = [(0, .slice ad gs.length c), (21, .slice ad gs.length c), (22, .int .i64 gs.length), (23, .int .i64 k)] ∧ I.le I' ∧ δ' = [] ∧ ∀ i (h : i < gs.length), i < k → badS (gs.take i) gs[i] = false) gs.length [(0, .slice ad gs.length c), (21, .slice ad gs.length c), (22, .int .i64 gs.length), (23, .int .i64 (0 : Nat))] ⟨0, rfl, Nat.zero_le _, rfl, Imm.le_refl _, rfl, fun i _ h => by omega⟩ ⟨rfl, rfl, rfl, rfl, trivial⟩ ?_
        rintro m _ I0 _ ⟨k, rfl, hk, rfl, hI0, rfl, hp⟩
        refine code_seq ?_
        refine code_region ?_
        first | refine op_v (v_cmptA rfl rfl rfl) rfl ?_ | refine op_v (v_cmpfA rfl rfl rfl) rfl ?_ | refine op_v (v_cmp rfl rfl rfl) rfl ?_
        refine ops_nil ?_
        refine post_next ?_
        refine code_seq ?_
        refine code_cond rfl (fun hc1 => ?_) (fun hc1 => ?_)
        · have hlt : k < gs.length := by simpa using hc1
          have hs1 := (hat k hlt).isSome
          refine code_skip ?_
          refine post_next ?_
          refine code_seq ?_
          refine code_block ?_
          refine code_seq ?_
          refine code_region ?_
          refine op_v (v_move rfl) rfl ?_
          first | refine op_v (v_indexA Try.underlying22 sz79 rfl rfl) rfl ?_ | refine op_v (v_indexIA Try.underlying22 sz79 rfl rfl) rfl ?_
          first | refine op_v (v_loadI0 ty79 ((hat k hlt).mono hI0) rfl rfl rfl) rfl ?_ | refine op_v (v_loadI ty79 ((hat k hlt).mono hI0) rfl rfl rfl) rfl ?_
          refine o_alloc z79 rfl rfl (fun b4 => ?_)
          refine op_v (v_assign rfl) rfl ?_
          refine o_store ty79 rfl rfl rfl rfl rfl (by repeat (first | exact Swap.here | apply Swap.there)) rfl ?_
          refine ops_nil ?_
          refine post_next ?_
          refine code_seq ?_
          refine code_region ?_
          refine op_v (v_move rfl) rfl ?_
          refine op_v (v_move rfl) rfl ?_
          refine op_v (v_sliceTo Try.underlying22 sz79 rfl rfl (by omega)) rfl ?_
          refine op_v (v_makeFunc rfl rfl) rfl ?_
          refine op_call pl129 rfl rfl ((ContainsFunc_does (δf := [.box b4 79 gs[k].cs]) ((RepG.take hv (Nat.le_of_lt hlt)).mono hI0) (fun J s _ => FDoes.ofFunc (caps := [_]) pl130 Check1_does))) Parts.all ?_
          rintro v32 I32 _ hI32 ⟨rfl, rfl⟩
          refine op_v (v_assign rfl) rfl ?_
          refine ops_nil ?_
          refine post_next ?_
          refine code_seq ?_
          refine code_region ?_
          first | refine op_v (v_fieldB 0 Try.underlying79 rfl rfl fz9 rfl) rfl ?_ | refine op_v (v_fieldI 0 Try.underlying79 rfl rfl fz9 rfl (by assumption)) rfl ?_ | refine op_v (v_field Try.underlying79 rfl fz9 rfl rfl) rfl ?_
          refine op_v (v_loadA ty9 rfl rfl) rfl ?_
          by_cases h35 : nmEq gs[k].name ⟨#[]⟩ = true
          · refine op_v (v_eqs (z := true) rfl rfl (by simpa [cmpS, nmEq] using h35)) rfl ?_
            refine op_v (v_move rfl) rfl ?_
            first
              | (refine op_want rfl rfl ?_
                 first | refine op_v (v_fieldB 0 Try.underlying79 rfl rfl fz9 rfl) rfl ?_ | refine op_v (v_fieldI 0 Try.underlying79 rfl rfl fz9 rfl (by assumption)) rfl ?_ | refine op_v (v_field Try.underlying79 rfl fz9 rfl rfl) rfl ?_)
              | (refine op_skip rfl rfl (by simp [undef]) rfl ?_)
            first
              | (refine op_want rfl rfl ?_
                 refine op_v (v_loadA ty9 rfl rfl) rfl ?_)
              | (refine op_skip rfl rfl (by simp [undef]) rfl ?_)
            first
              | (refine op_want rfl rfl ?_
                 refine op_v (v_lens Try.underlying9 rfl) rfl ?_)
              | (refine op_skip rfl rfl (by simp [undef]) rfl ?_)
            first
              | (refine op_want rfl rfl ?_
                 first | refine op_v (v_cmptA rfl rfl rfl) rfl ?_ | refine op_v (v_cmpfA rfl rfl rfl) rfl ?_ | refine op_v (v_cmp rfl rfl rfl) rfl ?_)
              | (refine op_skip rfl rfl (by simp [undef]) rfl ?_)
            first | refine op_v (v_pickt rfl rfl) rfl ?_ | refine op_v (v_pickf rfl rfl) rfl ?_ | refine op_v (v_pickb rfl rfl rfl) rfl ?_
            refine op_v (v_move rfl) rfl ?_
            first
              | (refine op_want rfl rfl ?_
                 refine op_v (v_move rfl) rfl ?_)
              | (refine op_skip rfl rfl (by simp [undef]) rfl ?_)
            first | refine op_v (v_pickt rfl rfl) rfl ?_ | refine op_v (v_pickf rfl rfl) rfl ?_ | refine op_v (v_pickb rfl rfl rfl) rfl ?_
            refine op_v (v_move rfl) rfl ?_
            first
              | (refine op_want rfl rfl ?_
                 first | refine op_v (v_fieldB 1 Try.underlying79 rfl rfl fz3 rfl) rfl ?_ | refine op_v (v_fieldI 1 Try.underlying79 rfl rfl fz3 rfl (by assumption)) rfl ?_ | refine op_v (v_field Try.underlying79 rfl fz3 rfl rfl) rfl ?_)
              | (refine op_skip rfl rfl (by simp [undef]) rfl ?_)
            first
              | (refine op_want rfl rfl ?_
                 refine op_v (v_loadA ty3 rfl rfl) rfl ?_)
              | (refine op_skip rfl rfl (by simp [undef]) rfl ?_)
            first
              | (refine op_want rfl rfl ?_
                 first | refine op_v (v_cmptA rfl rfl rfl) rfl ?_ | refine op_v (v_cmpfA rfl rfl rfl) rfl ?_ | refine op_v (v_cmp rfl rfl rfl) rfl ?_)
              | (refine op_skip rfl rfl (by simp [undef]) rfl ?_)
            first | refine op_v (v_pickt rfl rfl) rfl ?_ | refine op_v (v_pickf rfl rfl) rfl ?_ | refine op_v (v_pickb rfl rfl rfl) rfl ?_
            refine op_v (v_move rfl) rfl ?_
            first
              | (refine op_want rfl rfl ?_
                 first | refine op_v (v_fieldB 1 Try.underlying79 rfl rfl fz3 rfl) rfl ?_ | refine op_v (v_fieldI 1 Try.underlying79 rfl rfl fz3 rfl (by assumption)) rfl ?_ | refine op_v (v_field Try.underlying79 rfl fz3 rfl rfl) rfl ?_)
              | (refine op_skip rfl rfl (by simp [undef]) rfl ?_)
            first
              | (refine op_want rfl rfl ?_
                 refine op_v (v_loadA ty3 rfl rfl) rfl ?_)
              | (refine op_skip rfl rfl (by simp [undef]) rfl ?_)
            first
              | (refine op_want rfl rfl ?_
                 first | refine op_v (v_cmptA rfl rfl rfl) rfl ?_ | refine op_v (v_cmpfA rfl rfl rfl) rfl ?_ | refine op_v (v_cmp rfl rfl rfl) rfl ?_)
              | (refine op_skip rfl rfl (by simp [undef]) rfl ?_)
            first | refine op_v (v_pickt rfl rfl) rfl ?_ | refine op_v (v_pickf rfl rfl) rfl ?_ | refine op_v (v_pickb rfl rfl rfl) rfl ?_
            refine op_v (v_move rfl) rfl ?_
            first
              | (refine op_want rfl rfl ?_
                 first | refine op_v (v_fieldB 2 Try.underlying79 rfl rfl fz3 rfl) rfl ?_ | refine op_v (v_fieldI 2 Try.underlying79 rfl rfl fz3 rfl (by assumption)) rfl ?_ | refine op_v (v_field Try.underlying79 rfl fz3 rfl rfl) rfl ?_)
              | (refine op_skip rfl rfl (by simp [undef]) rfl ?_)
            first
              | (refine op_want rfl rfl ?_
                 refine op_v (v_loadA ty3 rfl rfl) rfl ?_)
              | (refine op_skip rfl rfl (by simp [undef]) rfl ?_)
            first
              | (refine op_want rfl rfl ?_
                 first | refine op_v (v_cmptA rfl rfl rfl) rfl ?_ | refine op_v (v_cmpfA rfl rfl rfl) rfl ?_ | refine op_v (v_cmp rfl rfl rfl) rfl ?_)
              | (refine op_skip rfl rfl (by simp [undef]) rfl ?_)
            first | refine op_v (v_pickt rfl rfl) rfl ?_ | refine op_v (v_pickf rfl rfl) rfl ?_ | refine op_v (v_pickb rfl rfl rfl) rfl ?_
            refine op_v (v_move rfl) rfl ?_
            first
              | (refine op_want rfl rfl ?_
                 first | refine op_v (v_fieldB 2 Try.underlying79 rfl rfl fz3 rfl) rfl ?_ | refine op_v (v_fieldI 2 Try.underlying79 rfl rfl fz3 rfl (by assumption)) rfl ?_ | refine op_v (v_field Try.underlying79 rfl fz3 rfl rfl) rfl ?_)
              | (refine op_skip rfl rfl (by simp [undef]) rfl ?_)
            first
              | (refine op_want rfl rfl ?_
                 refine op_v (v_loadA ty3 rfl rfl) rfl ?_)
              | (refine op_skip rfl rfl (by simp [undef]) rfl ?_)
            first
              | (refine op_want rfl rfl ?_
                 first | refine op_v (v_cmptA rfl rfl rfl) rfl ?_ | refine op_v (v_cmpfA rfl rfl rfl) rfl ?_ | refine op_v (v_cmp rfl rfl rfl) rfl ?_)
              | (refine op_skip rfl rfl (by simp [undef]) rfl ?_)
            first | refine op_v (v_pickt rfl rfl) rfl ?_ | refine op_v (v_pickf rfl rfl) rfl ?_ | refine op_v (v_pickb rfl rfl rfl) rfl ?_
            refine ops_nil ?_
            refine post_next ?_
            refine code_cond_t rfl ?_
            refine code_seq ?_
            refine code_region ?_
            refine op_v (v_assign rfl) rfl ?_
            refine ops_nil ?_
            refine post_next ?_
            refine code_ret ?_
            refine post_ret_block ?_
            refine post_ret_then ?_
            refine post_ret_then ?_
            refine post_ret_block ?_
            refine post_ret_then ?_
            refine post_ret (rs := [.tmp 2]) rfl (List.Perm.refl _) (.cons (.tmp rfl) .nil) (List.nil_sublist _) ?_
            exact ⟨by rw [chkG_bad k hlt (by unfold badS; rw [h35]; rfl)]; rfl, rfl⟩
          · refine op_v (v_eqs (z := false) rfl rfl (by simpa [cmpS, nmEq] using h35)) rfl ?_
            refine op_v (v_move rfl) rfl ?_
            first
              | (refine op_want rfl rfl ?_
                 first | refine op_v (v_fieldB 0 Try.underlying79 rfl rfl fz9 rfl) rfl ?_ | refine op_v (v_fieldI 0 Try.underlying79 rfl rfl fz9 rfl (by assumption)) rfl ?_ | refine op_v (v_field Try.underlying79 rfl fz9 rfl rfl) rfl ?_)
              | (refine op_skip rfl rfl (by simp [undef]) rfl ?_)
            first
              | (refine op_want rfl rfl ?_
                 refine op_v (v_loadA ty9 rfl rfl) rfl ?_)
              | (refine op_skip rfl rfl (by simp [undef]) rfl ?_)
            first
              | (refine op_want rfl rfl ?_
                 refine op_v (v_lens Try.underlying9 rfl) rfl ?_)
              | (refine op_skip rfl rfl (by simp [undef]) rfl ?_)
            by_cases h40 : 64 < gs[k].name.size
            · first
                | (refine op_want rfl rfl ?_
                   first | refine op_v (v_cmptA rfl rfl rfl) rfl ?_ | refine op_v (v_cmpfA rfl rfl rfl) rfl ?_ | refine op_v (v_cmp rfl rfl rfl) rfl ?_)
                | (refine op_skip rfl rfl (by simp [undef]) rfl ?_)
              first | refine op_v (v_pickt rfl rfl) rfl ?_ | refine op_v (v_pickf rfl rfl) rfl ?_ | refine op_v (v_pickb rfl rfl rfl) rfl ?_
              refine op_v (v_move rfl) rfl ?_
              first
                | (refine op_want rfl rfl ?_
                   refine op_v (v_move rfl) rfl ?_)
                | (refine op_skip rfl rfl (by simp [undef]) rfl ?_)
              first | refine op_v (v_pickt rfl rfl) rfl ?_ | refine op_v (v_pickf rfl rfl) rfl ?_ | refine op_v (v_pickb rfl rfl rfl) rfl ?_
              refine op_v (v_move rfl) rfl ?_
              first
                | (refine op_want rfl rfl ?_
                   first | refine op_v (v_fieldB 1 Try.underlying79 rfl rfl fz3 rfl) rfl ?_ | refine op_v (v_fieldI 1 Try.underlying79 rfl rfl fz3 rfl (by assumption)) rfl ?_ | refine op_v (v_field Try.underlying79 rfl fz3 rfl rfl) rfl ?_)
                | (refine op_skip rfl rfl (by simp [undef]) rfl ?_)
              first
                | (refine op_want rfl rfl ?_
                   refine op_v (v_loadA ty3 rfl rfl) rfl ?_)
                | (refine op_skip rfl rfl (by simp [undef]) rfl ?_)
              first
                | (refine op_want rfl rfl ?_
                   first | refine op_v (v_cmptA rfl rfl rfl) rfl ?_ | refine op_v (v_cmpfA rfl rfl rfl) rfl ?_ | refine op_v (v_cmp rfl rfl rfl) rfl ?_)
                | (refine op_skip rfl rfl (by simp [undef]) rfl ?_)
              first | refine op_v (v_pickt rfl rfl) rfl ?_ | refine op_v (v_pickf rfl rfl) rfl ?_ | refine op_v (v_pickb rfl rfl rfl) rfl ?_
              refine op_v (v_move rfl) rfl ?_
              first
                | (refine op_want rfl rfl ?_
                   first | refine op_v (v_fieldB 1 Try.underlying79 rfl rfl fz3 rfl) rfl ?_ | refine op_v (v_fieldI 1 Try.underlying79 rfl rfl fz3 rfl (by assumption)) rfl ?_ | refine op_v (v_field Try.underlying79 rfl fz3 rfl rfl) rfl ?_)
                | (refine op_skip rfl rfl (by simp [undef]) rfl ?_)
              first
                | (refine op_want rfl rfl ?_
                   refine op_v (v_loadA ty3 rfl rfl) rfl ?_)
                | (refine op_skip rfl rfl (by simp [undef]) rfl ?_)
              first
                | (refine op_want rfl rfl ?_
                   first | refine op_v (v_cmptA rfl rfl rfl) rfl ?_ | refine op_v (v_cmpfA rfl rfl rfl) rfl ?_ | refine op_v (v_cmp rfl rfl rfl) rfl ?_)
                | (refine op_skip rfl rfl (by simp [undef]) rfl ?_)
              first | refine op_v (v_pickt rfl rfl) rfl ?_ | refine op_v (v_pickf rfl rfl) rfl ?_ | refine op_v (v_pickb rfl rfl rfl) rfl ?_
              refine op_v (v_move rfl) rfl ?_
              first
                | (refine op_want rfl rfl ?_
                   first | refine op_v (v_fieldB 2 Try.underlying79 rfl rfl fz3 rfl) rfl ?_ | refine op_v (v_fieldI 2 Try.underlying79 rfl rfl fz3 rfl (by assumption)) rfl ?_ | refine op_v (v_field Try.underlying79 rfl fz3 rfl rfl) rfl ?_)
                | (refine op_skip rfl rfl (by simp [undef]) rfl ?_)
              first
                | (refine op_want rfl rfl ?_
                   refine op_v (v_loadA ty3 rfl rfl) rfl ?_)
                | (refine op_skip rfl rfl (by simp [undef]) rfl ?_)
              first
                | (refine op_want rfl rfl ?_
                   first | refine op_v (v_cmptA rfl rfl rfl) rfl ?_ | refine op_v (v_cmpfA rfl rfl rfl) rfl ?_ | refine op_v (v_cmp rfl rfl rfl) rfl ?_)
                | (refine op_skip rfl rfl (by simp [undef]) rfl ?_)
              first | refine op_v (v_pickt rfl rfl) rfl ?_ | refine op_v (v_pickf rfl rfl) rfl ?_ | refine op_v (v_pickb rfl rfl rfl) rfl ?_
              refine op_v (v_move rfl) rfl ?_
              first
                | (refine op_want rfl rfl ?_
                   first | refine op_v (v_fieldB 2 Try.underlying79 rfl rfl fz3 rfl) rfl ?_ | refine op_v (v_fieldI 2 Try.underlying79 rfl rfl fz3 rfl (by assumption)) rfl ?_ | refine op_v (v_field Try.underlying79 rfl fz3 rfl rfl) rfl ?_)
                | (refine op_skip rfl rfl (by simp [undef]) rfl ?_)
              first
                | (refine op_want rfl rfl ?_
                   refine op_v (v_loadA ty3 rfl rfl) rfl ?_)
                | (refine op_skip rfl rfl (by simp [undef]) rfl ?_)
              first
                | (refine op_want rfl rfl ?_
                   first | refine op_v (v_cmptA rfl rfl rfl) rfl ?_ | refine op_v (v_cmpfA rfl rfl rfl) rfl ?_ | refine op_v (v_cmp rfl rfl rfl) rfl ?_)
                | (refine op_skip rfl rfl (by simp [undef]) rfl ?_)
              first | refine op_v (v_pickt rfl rfl) rfl ?_ | refine op_v (v_pickf rfl rfl) rfl ?_ | refine op_v (v_pickb rfl rfl rfl) rfl ?_
              refine ops_nil ?_
              refine post_next ?_
              refine code_cond_t rfl ?_
              refine code_seq ?_
              refine code_region ?_
              refine op_v (v_assign rfl) rfl ?_
              refine ops_nil ?_
              refine post_next ?_
              refine code_ret ?_
              refine post_ret_block ?_
              refine post_ret_then ?_
              refine post_ret_then ?_
              refine post_ret_block ?_
              refine post_ret_then ?_
              refine post_ret (rs := [.tmp 2]) rfl (List.Perm.refl _) (.cons (.tmp rfl) .nil) (List.nil_sublist _) ?_
              exact ⟨by rw [chkG_bad k hlt (by simp [badS, h40])]; rfl, rfl⟩
            · first
                | (refine op_want rfl rfl ?_
                   first | refine op_v (v_cmptA rfl rfl rfl) rfl ?_ | refine op_v (v_cmpfA rfl rfl rfl) rfl ?_ | refine op_v (v_cmp rfl rfl rfl) rfl ?_)
                | (refine op_skip rfl rfl (by simp [undef]) rfl ?_)
              first | refine op_v (v_pickt rfl rfl) rfl ?_ | refine op_v (v_pickf rfl rfl) rfl ?_ | refine op_v (v_pickb rfl rfl rfl) rfl ?_
              refine op_v (v_move rfl) rfl ?_
              by_cases h43 : ((gs.take k).any fun s => nmEq s.name gs[k].name) = true
              · rw [h43]
                first
                  | (refine op_want rfl rfl ?_
                     refine op_v (v_move rfl) rfl ?_)
                  | (refine op_skip rfl rfl (by simp [undef]) rfl ?_)
                first | refine op_v (v_pickt rfl rfl) rfl ?_ | refine op_v (v_pickf rfl rfl) rfl ?_ | refine op_v (v_pickb rfl rfl rfl) rfl ?_
                refine op_v (v_move rfl) rfl ?_
                first
                  | (refine op_want rfl rfl ?_
                     first | refine op_v (v_fieldB 1 Try.underlying79 rfl rfl fz3 rfl) rfl ?_ | refine op_v (v_fieldI 1 Try.underlying79 rfl rfl fz3 rfl (by assumption)) rfl ?_ | refine op_v (v_field Try.underlying79 rfl fz3 rfl rfl) rfl ?_)
                  | (refine op_skip rfl rfl (by simp [undef]) rfl ?_)
                first
                  | (refine op_want rfl rfl ?_
                     refine op_v (v_loadA ty3 rfl rfl) rfl ?_)
                  | (refine op_skip rfl rfl (by simp [undef]) rfl ?_)
                first
                  | (refine op_want rfl rfl ?_
                     first | refine op_v (v_cmptA rfl rfl rfl) rfl ?_ | refine op_v (v_cmpfA rfl rfl rfl) rfl ?_ | refine op_v (v_cmp rfl rfl rfl) rfl ?_)
                  | (refine op_skip rfl rfl (by simp [undef]) rfl ?_)
                first | refine op_v (v_pickt rfl rfl) rfl ?_ | refine op_v (v_pickf rfl rfl) rfl ?_ | refine op_v (v_pickb rfl rfl rfl) rfl ?_
                refine op_v (v_move rfl) rfl ?_
                first
                  | (refine op_want rfl rfl ?_
                     first | refine op_v (v_fieldB 1 Try.underlying79 rfl rfl fz3 rfl) rfl ?_ | refine op_v (v_fieldI 1 Try.underlying79 rfl rfl fz3 rfl (by assumption)) rfl ?_ | refine op_v (v_field Try.underlying79 rfl fz3 rfl rfl) rfl ?_)
                  | (refine op_skip rfl rfl (by simp [undef]) rfl ?_)
                first
                  | (refine op_want rfl rfl ?_
                     refine op_v (v_loadA ty3 rfl rfl) rfl ?_)
                  | (refine op_skip rfl rfl (by simp [undef]) rfl ?_)
                first
                  | (refine op_want rfl rfl ?_
                     first | refine op_v (v_cmptA rfl rfl rfl) rfl ?_ | refine op_v (v_cmpfA rfl rfl rfl) rfl ?_ | refine op_v (v_cmp rfl rfl rfl) rfl ?_)
                  | (refine op_skip rfl rfl (by simp [undef]) rfl ?_)
                first | refine op_v (v_pickt rfl rfl) rfl ?_ | refine op_v (v_pickf rfl rfl) rfl ?_ | refine op_v (v_pickb rfl rfl rfl) rfl ?_
                refine op_v (v_move rfl) rfl ?_
                first
                  | (refine op_want rfl rfl ?_
                     first | refine op_v (v_fieldB 2 Try.underlying79 rfl rfl fz3 rfl) rfl ?_ | refine op_v (v_fieldI 2 Try.underlying79 rfl rfl fz3 rfl (by assumption)) rfl ?_ | refine op_v (v_field Try.underlying79 rfl fz3 rfl rfl) rfl ?_)
                  | (refine op_skip rfl rfl (by simp [undef]) rfl ?_)
                first
                  | (refine op_want rfl rfl ?_
                     refine op_v (v_loadA ty3 rfl rfl) rfl ?_)
                  | (refine op_skip rfl rfl (by simp [undef]) rfl ?_)
                first
                  | (refine op_want rfl rfl ?_
                     first | refine op_v (v_cmptA rfl rfl rfl) rfl ?_ | refine op_v (v_cmpfA rfl rfl rfl) rfl ?_ | refine op_v (v_cmp rfl rfl rfl) rfl ?_)
                  | (refine op_skip rfl rfl (by simp [undef]) rfl ?_)
                first | refine op_v (v_pickt rfl rfl) rfl ?_ | refine op_v (v_pickf rfl rfl) rfl ?_ | refine op_v (v_pickb rfl rfl rfl) rfl ?_
                refine op_v (v_move rfl) rfl ?_
                first
                  | (refine op_want rfl rfl ?_
                     first | refine op_v (v_fieldB 2 Try.underlying79 rfl rfl fz3 rfl) rfl ?_ | refine op_v (v_fieldI 2 Try.underlying79 rfl rfl fz3 rfl (by assumption)) rfl ?_ | refine op_v (v_field Try.underlying79 rfl fz3 rfl rfl) rfl ?_)
                  | (refine op_skip rfl rfl (by simp [undef]) rfl ?_)
                first
                  | (refine op_want rfl rfl ?_
                     refine op_v (v_loadA ty3 rfl rfl) rfl ?_)
                  | (refine op_skip rfl rfl (by simp [undef]) rfl ?_)
                first
                  | (refine op_want rfl rfl ?_
                     first | refine op_v (v_cmptA rfl rfl rfl) rfl ?_ | refine op_v (v_cmpfA rfl rfl rfl) rfl ?_ | refine op_v (v_cmp rfl rfl rfl) rfl ?_)
                  | (refine op_skip rfl rfl (by simp [undef]) rfl ?_)
                first | refine op_v (v_pickt rfl rfl) rfl ?_ | refine op_v (v_pickf rfl rfl) rfl ?_ | refine op_v (v_pickb rfl rfl rfl) rfl ?_
                refine ops_nil ?_
                refine post_next ?_
                refine code_cond_t rfl ?_
                refine code_seq ?_
                refine code_region ?_
                refine op_v (v_assign rfl) rfl ?_
                refine ops_nil ?_
                refine post_next ?_
                refine code_ret ?_
                refine post_ret_block ?_
                refine post_ret_then ?_
                refine post_ret_then ?_
                refine post_ret_block ?_
                refine post_ret_then ?_
                refine post_ret (rs := [.tmp 2]) rfl (List.Perm.refl _) (.cons (.tmp rfl) .nil) (List.nil_sublist _) ?_
                exact ⟨by rw [chkG_bad k hlt (by unfold badS; rw [h43]; simp)]; rfl, rfl⟩
              · have h43' : ((gs.take k).any fun s => nmEq s.name gs[k].name) = false := by simpa using h43
                rw [h43']
                first
                  | (refine op_want rfl rfl ?_
                     refine op_v (v_move rfl) rfl ?_)
                  | (refine op_skip rfl rfl (by simp [undef]) rfl ?_)
                first | refine op_v (v_pickt rfl rfl) rfl ?_ | refine op_v (v_pickf rfl rfl) rfl ?_ | refine op_v (v_pickb rfl rfl rfl) rfl ?_
                refine op_v (v_move rfl) rfl ?_
                first
                  | (refine op_want rfl rfl ?_
                     first | refine op_v (v_fieldB 1 Try.underlying79 rfl rfl fz3 rfl) rfl ?_ | refine op_v (v_fieldI 1 Try.underlying79 rfl rfl fz3 rfl (by assumption)) rfl ?_ | refine op_v (v_field Try.underlying79 rfl fz3 rfl rfl) rfl ?_)
                  | (refine op_skip rfl rfl (by simp [undef]) rfl ?_)
                first
                  | (refine op_want rfl rfl ?_
                     refine op_v (v_loadA ty3 rfl rfl) rfl ?_)
                  | (refine op_skip rfl rfl (by simp [undef]) rfl ?_)
                by_cases h48 : gs[k].ar < 0
                · first
                    | (refine op_want rfl rfl ?_
                       first | refine op_v (v_cmptA rfl rfl rfl) rfl ?_ | refine op_v (v_cmpfA rfl rfl rfl) rfl ?_ | refine op_v (v_cmp rfl rfl rfl) rfl ?_)
                    | (refine op_skip rfl rfl (by simp [undef]) rfl ?_)
                  first | refine op_v (v_pickt rfl rfl) rfl ?_ | refine op_v (v_pickf rfl rfl) rfl ?_ | refine op_v (v_pickb rfl rfl rfl) rfl ?_
                  refine op_v (v_move rfl) rfl ?_
                  first
                    | (refine op_want rfl rfl ?_
                       first | refine op_v (v_fieldB 1 Try.underlying79 rfl rfl fz3 rfl) rfl ?_ | refine op_v (v_fieldI 1 Try.underlying79 rfl rfl fz3 rfl (by assumption)) rfl ?_ | refine op_v (v_field Try.underlying79 rfl fz3 rfl rfl) rfl ?_)
                    | (refine op_skip rfl rfl (by simp [undef]) rfl ?_)
                  first
                    | (refine op_want rfl rfl ?_
                       refine op_v (v_loadA ty3 rfl rfl) rfl ?_)
                    | (refine op_skip rfl rfl (by simp [undef]) rfl ?_)
                  first
                    | (refine op_want rfl rfl ?_
                       first | refine op_v (v_cmptA rfl rfl rfl) rfl ?_ | refine op_v (v_cmpfA rfl rfl rfl) rfl ?_ | refine op_v (v_cmp rfl rfl rfl) rfl ?_)
                    | (refine op_skip rfl rfl (by simp [undef]) rfl ?_)
                  first | refine op_v (v_pickt rfl rfl) rfl ?_ | refine op_v (v_pickf rfl rfl) rfl ?_ | refine op_v (v_pickb rfl rfl rfl) rfl ?_
                  refine op_v (v_move rfl) rfl ?_
                  first
                    | (refine op_want rfl rfl ?_
                       first | refine op_v (v_fieldB 2 Try.underlying79 rfl rfl fz3 rfl) rfl ?_ | refine op_v (v_fieldI 2 Try.underlying79 rfl rfl fz3 rfl (by assumption)) rfl ?_ | refine op_v (v_field Try.underlying79 rfl fz3 rfl rfl) rfl ?_)
                    | (refine op_skip rfl rfl (by simp [undef]) rfl ?_)
                  first
                    | (refine op_want rfl rfl ?_
                       refine op_v (v_loadA ty3 rfl rfl) rfl ?_)
                    | (refine op_skip rfl rfl (by simp [undef]) rfl ?_)
                  first
                    | (refine op_want rfl rfl ?_
                       first | refine op_v (v_cmptA rfl rfl rfl) rfl ?_ | refine op_v (v_cmpfA rfl rfl rfl) rfl ?_ | refine op_v (v_cmp rfl rfl rfl) rfl ?_)
                    | (refine op_skip rfl rfl (by simp [undef]) rfl ?_)
                  first | refine op_v (v_pickt rfl rfl) rfl ?_ | refine op_v (v_pickf rfl rfl) rfl ?_ | refine op_v (v_pickb rfl rfl rfl) rfl ?_
                  refine op_v (v_move rfl) rfl ?_
                  first
                    | (refine op_want rfl rfl ?_
                       first | refine op_v (v_fieldB 2 Try.underlying79 rfl rfl fz3 rfl) rfl ?_ | refine op_v (v_fieldI 2 Try.underlying79 rfl rfl fz3 rfl (by assumption)) rfl ?_ | refine op_v (v_field Try.underlying79 rfl fz3 rfl rfl) rfl ?_)
                    | (refine op_skip rfl rfl (by simp [undef]) rfl ?_)
                  first
                    | (refine op_want rfl rfl ?_
                       refine op_v (v_loadA ty3 rfl rfl) rfl ?_)
                    | (refine op_skip rfl rfl (by simp [undef]) rfl ?_)
                  first
                    | (refine op_want rfl rfl ?_
                       first | refine op_v (v_cmptA rfl rfl rfl) rfl ?_ | refine op_v (v_cmpfA rfl rfl rfl) rfl ?_ | refine op_v (v_cmp rfl rfl rfl) rfl ?_)
                    | (refine op_skip rfl rfl (by simp [undef]) rfl ?_)
                  first | refine op_v (v_pickt rfl rfl) rfl ?_ | refine op_v (v_pickf rfl rfl) rfl ?_ | refine op_v (v_pickb rfl rfl rfl) rfl ?_
                  refine ops_nil ?_
                  refine post_next ?_
                  refine code_cond_t rfl ?_
                  refine code_seq ?_
                  refine code_region ?_
                  refine op_v (v_assign rfl) rfl ?_
                  refine ops_nil ?_
                  refine post_next ?_
                  refine code_ret ?_
                  refine post_ret_block ?_
                  refine post_ret_then ?_
                  refine post_ret_then ?_
                  refine post_ret_block ?_
                  refine post_ret_then ?_
                  refine post_ret (rs := [.tmp 2]) rfl (List.Perm.refl _) (.cons (.tmp rfl) .nil) (List.nil_sublist _) ?_
                  exact ⟨by rw [chkG_bad k hlt (by simp [badS, h48])]; rfl, rfl⟩
                · first
                    | (refine op_want rfl rfl ?_
                       first | refine op_v (v_cmptA rfl rfl rfl) rfl ?_ | refine op_v (v_cmpfA rfl rfl rfl) rfl ?_ | refine op_v (v_cmp rfl rfl rfl) rfl ?_)
                    | (refine op_skip rfl rfl (by simp [undef]) rfl ?_)
                  first | refine op_v (v_pickt rfl rfl) rfl ?_ | refine op_v (v_pickf rfl rfl) rfl ?_ | refine op_v (v_pickb rfl rfl rfl) rfl ?_
                  refine op_v (v_move rfl) rfl ?_
                  first
                    | (refine op_want rfl rfl ?_
                       first | refine op_v (v_fieldB 1 Try.underlying79 rfl rfl fz3 rfl) rfl ?_ | refine op_v (v_fieldI 1 Try.underlying79 rfl rfl fz3 rfl (by assumption)) rfl ?_ | refine op_v (v_field Try.underlying79 rfl fz3 rfl rfl) rfl ?_)
                    | (refine op_skip rfl rfl (by simp [undef]) rfl ?_)
                  first
                    | (refine op_want rfl rfl ?_
                       refine op_v (v_loadA ty3 rfl rfl) rfl ?_)
                    | (refine op_skip rfl rfl (by simp [undef]) rfl ?_)
                  by_cases h53 : 8 < gs[k].ar
                  · first
                      | (refine op_want rfl rfl ?_
                         first | refine op_v (v_cmptA rfl rfl rfl) rfl ?_ | refine op_v (v_cmpfA rfl rfl rfl) rfl ?_ | refine op_v (v_cmp rfl rfl rfl) rfl ?_)
                      | (refine op_skip rfl rfl (by simp [undef]) rfl ?_)
                    first | refine op_v (v_pickt rfl rfl) rfl ?_ | refine op_v (v_pickf rfl rfl) rfl ?_ | refine op_v (v_pickb rfl rfl rfl) rfl ?_
                    refine op_v (v_move rfl) rfl ?_
                    first
                      | (refine op_want rfl rfl ?_
                         first | refine op_v (v_fieldB 2 Try.underlying79 rfl rfl fz3 rfl) rfl ?_ | refine op_v (v_fieldI 2 Try.underlying79 rfl rfl fz3 rfl (by assumption)) rfl ?_ | refine op_v (v_field Try.underlying79 rfl fz3 rfl rfl) rfl ?_)
                      | (refine op_skip rfl rfl (by simp [undef]) rfl ?_)
                    first
                      | (refine op_want rfl rfl ?_
                         refine op_v (v_loadA ty3 rfl rfl) rfl ?_)
                      | (refine op_skip rfl rfl (by simp [undef]) rfl ?_)
                    first
                      | (refine op_want rfl rfl ?_
                         first | refine op_v (v_cmptA rfl rfl rfl) rfl ?_ | refine op_v (v_cmpfA rfl rfl rfl) rfl ?_ | refine op_v (v_cmp rfl rfl rfl) rfl ?_)
                      | (refine op_skip rfl rfl (by simp [undef]) rfl ?_)
                    first | refine op_v (v_pickt rfl rfl) rfl ?_ | refine op_v (v_pickf rfl rfl) rfl ?_ | refine op_v (v_pickb rfl rfl rfl) rfl ?_
                    refine op_v (v_move rfl) rfl ?_
                    first
                      | (refine op_want rfl rfl ?_
                         first | refine op_v (v_fieldB 2 Try.underlying79 rfl rfl fz3 rfl) rfl ?_ | refine op_v (v_fieldI 2 Try.underlying79 rfl rfl fz3 rfl (by assumption)) rfl ?_ | refine op_v (v_field Try.underlying79 rfl fz3 rfl rfl) rfl ?_)
                      | (refine op_skip rfl rfl (by simp [undef]) rfl ?_)
                    first
                      | (refine op_want rfl rfl ?_
                         refine op_v (v_loadA ty3 rfl rfl) rfl ?_)
                      | (refine op_skip rfl rfl (by simp [undef]) rfl ?_)
                    first
                      | (refine op_want rfl rfl ?_
                         first | refine op_v (v_cmptA rfl rfl rfl) rfl ?_ | refine op_v (v_cmpfA rfl rfl rfl) rfl ?_ | refine op_v (v_cmp rfl rfl rfl) rfl ?_)
                      | (refine op_skip rfl rfl (by simp [undef]) rfl ?_)
                    first | refine op_v (v_pickt rfl rfl) rfl ?_ | refine op_v (v_pickf rfl rfl) rfl ?_ | refine op_v (v_pickb rfl rfl rfl) rfl ?_
                    refine ops_nil ?_
                    refine post_next ?_
                    refine code_cond_t rfl ?_
                    refine code_seq ?_
                    refine code_region ?_
                    refine op_v (v_assign rfl) rfl ?_
                    refine ops_nil ?_
                    refine post_next ?_
                    refine code_ret ?_
                    refine post_ret_block ?_
                    refine post_ret_then ?_
                    refine post_ret_then ?_
                    refine post_ret_block ?_
                    refine post_ret_then ?_
                    refine post_ret (rs := [.tmp 2]) rfl (List.Perm.refl _) (.cons (.tmp rfl) .nil) (List.nil_sublist _) ?_
                    exact ⟨by rw [chkG_bad k hlt (by simp [badS, h53])]; rfl, rfl⟩
                  · first
                      | (refine op_want rfl rfl ?_
                         first | refine op_v (v_cmptA rfl rfl rfl) rfl ?_ | refine op_v (v_cmpfA rfl rfl rfl) rfl ?_ | refine op_v (v_cmp rfl rfl rfl) rfl ?_)
                      | (refine op_skip rfl rfl (by simp [undef]) rfl ?_)
                    first | refine op_v (v_pickt rfl rfl) rfl ?_ | refine op_v (v_pickf rfl rfl) rfl ?_ | refine op_v (v_pickb rfl rfl rfl) rfl ?_
                    refine op_v (v_move rfl) rfl ?_
                    first
                      | (refine op_want rfl rfl ?_
                         first | refine op_v (v_fieldB 2 Try.underlying79 rfl rfl fz3 rfl) rfl ?_ | refine op_v (v_fieldI 2 Try.underlying79 rfl rfl fz3 rfl (by assumption)) rfl ?_ | refine op_v (v_field Try.underlying79 rfl fz3 rfl rfl) rfl ?_)
                      | (refine op_skip rfl rfl (by simp [undef]) rfl ?_)
                    first
                      | (refine op_want rfl rfl ?_
                         refine op_v (v_loadA ty3 rfl rfl) rfl ?_)
                      | (refine op_skip rfl rfl (by simp [undef]) rfl ?_)
                    by_cases h58 : gs[k].wt < 1
                    · first
                        | (refine op_want rfl rfl ?_
                           first | refine op_v (v_cmptA rfl rfl rfl) rfl ?_ | refine op_v (v_cmpfA rfl rfl rfl) rfl ?_ | refine op_v (v_cmp rfl rfl rfl) rfl ?_)
                        | (refine op_skip rfl rfl (by simp [undef]) rfl ?_)
                      first | refine op_v (v_pickt rfl rfl) rfl ?_ | refine op_v (v_pickf rfl rfl) rfl ?_ | refine op_v (v_pickb rfl rfl rfl) rfl ?_
                      refine op_v (v_move rfl) rfl ?_
                      first
                        | (refine op_want rfl rfl ?_
                           first | refine op_v (v_fieldB 2 Try.underlying79 rfl rfl fz3 rfl) rfl ?_ | refine op_v (v_fieldI 2 Try.underlying79 rfl rfl fz3 rfl (by assumption)) rfl ?_ | refine op_v (v_field Try.underlying79 rfl fz3 rfl rfl) rfl ?_)
                        | (refine op_skip rfl rfl (by simp [undef]) rfl ?_)
                      first
                        | (refine op_want rfl rfl ?_
                           refine op_v (v_loadA ty3 rfl rfl) rfl ?_)
                        | (refine op_skip rfl rfl (by simp [undef]) rfl ?_)
                      first
                        | (refine op_want rfl rfl ?_
                           first | refine op_v (v_cmptA rfl rfl rfl) rfl ?_ | refine op_v (v_cmpfA rfl rfl rfl) rfl ?_ | refine op_v (v_cmp rfl rfl rfl) rfl ?_)
                        | (refine op_skip rfl rfl (by simp [undef]) rfl ?_)
                      first | refine op_v (v_pickt rfl rfl) rfl ?_ | refine op_v (v_pickf rfl rfl) rfl ?_ | refine op_v (v_pickb rfl rfl rfl) rfl ?_
                      refine ops_nil ?_
                      refine post_next ?_
                      refine code_cond_t rfl ?_
                      refine code_seq ?_
                      refine code_region ?_
                      refine op_v (v_assign rfl) rfl ?_
                      refine ops_nil ?_
                      refine post_next ?_
                      refine code_ret ?_
                      refine post_ret_block ?_
                      refine post_ret_then ?_
                      refine post_ret_then ?_
                      refine post_ret_block ?_
                      refine post_ret_then ?_
                      refine post_ret (rs := [.tmp 2]) rfl (List.Perm.refl _) (.cons (.tmp rfl) .nil) (List.nil_sublist _) ?_
                      exact ⟨by rw [chkG_bad k hlt (by simp [badS, h58])]; rfl, rfl⟩
                    · first
                        | (refine op_want rfl rfl ?_
                           first | refine op_v (v_cmptA rfl rfl rfl) rfl ?_ | refine op_v (v_cmpfA rfl rfl rfl) rfl ?_ | refine op_v (v_cmp rfl rfl rfl) rfl ?_)
                        | (refine op_skip rfl rfl (by simp [undef]) rfl ?_)
                      first | refine op_v (v_pickt rfl rfl) rfl ?_ | refine op_v (v_pickf rfl rfl) rfl ?_ | refine op_v (v_pickb rfl rfl rfl) rfl ?_
                      refine op_v (v_move rfl) rfl ?_
                      first
                        | (refine op_want rfl rfl ?_
                           first | refine op_v (v_fieldB 2 Try.underlying79 rfl rfl fz3 rfl) rfl ?_ | refine op_v (v_fieldI 2 Try.underlying79 rfl rfl fz3 rfl (by assumption)) rfl ?_ | refine op_v (v_field Try.underlying79 rfl fz3 rfl rfl) rfl ?_)
                        | (refine op_skip rfl rfl (by simp [undef]) rfl ?_)
                      first
                        | (refine op_want rfl rfl ?_
                           refine op_v (v_loadA ty3 rfl rfl) rfl ?_)
                        | (refine op_skip rfl rfl (by simp [undef]) rfl ?_)
                      by_cases h63 : 1000 < gs[k].wt
                      · first
                          | (refine op_want rfl rfl ?_
                             first | refine op_v (v_cmptA rfl rfl rfl) rfl ?_ | refine op_v (v_cmpfA rfl rfl rfl) rfl ?_ | refine op_v (v_cmp rfl rfl rfl) rfl ?_)
                          | (refine op_skip rfl rfl (by simp [undef]) rfl ?_)
                        first | refine op_v (v_pickt rfl rfl) rfl ?_ | refine op_v (v_pickf rfl rfl) rfl ?_ | refine op_v (v_pickb rfl rfl rfl) rfl ?_
                        refine ops_nil ?_
                        refine post_next ?_
                        refine code_cond_t rfl ?_
                        refine code_seq ?_
                        refine code_region ?_
                        refine op_v (v_assign rfl) rfl ?_
                        refine ops_nil ?_
                        refine post_next ?_
                        refine code_ret ?_
                        refine post_ret_block ?_
                        refine post_ret_then ?_
                        refine post_ret_then ?_
                        refine post_ret_block ?_
                        refine post_ret_then ?_
                        refine post_ret (rs := [.tmp 2]) rfl (List.Perm.refl _) (.cons (.tmp rfl) .nil) (List.nil_sublist _) ?_
                        exact ⟨by rw [chkG_bad k hlt (by simp [badS, h63])]; rfl, rfl⟩
                      · first
                          | (refine op_want rfl rfl ?_
                             first | refine op_v (v_cmptA rfl rfl rfl) rfl ?_ | refine op_v (v_cmpfA rfl rfl rfl) rfl ?_ | refine op_v (v_cmp rfl rfl rfl) rfl ?_)
                          | (refine op_skip rfl rfl (by simp [undef]) rfl ?_)
                        first | refine op_v (v_pickt rfl rfl) rfl ?_ | refine op_v (v_pickf rfl rfl) rfl ?_ | refine op_v (v_pickb rfl rfl rfl) rfl ?_
                        refine ops_nil ?_
                        refine post_next ?_
                        refine code_cond_f rfl ?_
                        refine code_skip ?_
                        refine post_out ?_
                        refine post_next ?_
                        refine code_region ?_
                        first | refine op_v (v_addb rfl rfl rfl (by omega)) rfl ?_ | refine op_v (v_add rfl rfl) rfl ?_
                        refine op_v (v_move rfl) rfl ?_
                        refine ops_nil ?_
                        refine PostJ.view View.nil ?_
                        refine post_again (gs.length - (k + 1)) [(0, .slice ad gs.length c), (21, .slice ad gs.length c), (22, .int .i64 gs.length), (23, .int .i64 (k + 1 : Nat))] (by omega) ⟨k + 1, rfl, hlt, rfl, Imm.leA, rfl, ?_⟩ ⟨rfl, rfl, rfl, rfl, trivial⟩
                        intro i h hi
                        rcases Nat.lt_or_ge i k with hik | hik
                        · exact hp i h hik
                        have hik2 : i = k := by omega
                        subst hik2
                        have h35' : nmEq gs[i].name ⟨#[]⟩ = false := by simpa using h35
                        unfold badS
                        rw [h35', h43']
                        simp
                        omega
        · have hge : k = gs.length := by simp at hc1; omega
          refine code_exit ?_
          refine post_exit_then ?_
          refine post_exit_then ?_
          refine post_exit ?_
          refine post_next ?_
          refine code_seq ?_
          refine code_region ?_
          refine op_v (v_assign rfl) rfl ?_
          refine ops_nil ?_
          refine post_next ?_
          refine code_ret ?_
          refine post_ret (rs := [.tmp 2]) rfl (List.Perm.refl _) (.cons (.tmp rfl) .nil) (List.nil_sublist _) ?_
          exact ⟨by rw [chkG_ok h0 (by omega) h19 (fun i h => hp i h (by omega))]; rfl, rfl⟩
      · first
          | (refine op_want rfl rfl ?_
             refine op_v (v_eqSy (a := gs[0]'h0) (b := truthS) (z := true) syTy rfl rfl (by simp [cmpG, h19])) rfl ?_)
          | (refine op_skip rfl rfl (by simp [undef]) rfl ?_)
        first | refine op_v (v_pickt rfl rfl) rfl ?_ | refine op_v (v_pickf rfl rfl) rfl ?_ | refine op_v (v_pickb rfl rfl rfl) rfl ?_
        refine ops_nil ?_
        refine post_next ?_
        refine code_cond_t rfl ?_
        refine code_seq ?_
        refine code_region ?_
        refine op_v (v_assign rfl) rfl ?_
        refine ops_nil ?_
        refine post_next ?_
        refine code_ret ?_
        refine post_ret_then ?_
        refine post_ret (rs := [.tmp 2]) rfl (List.Perm.refl _) (.cons (.tmp rfl) .nil) (List.nil_sublist _) ?_
        exact ⟨by rw [chkG_head h0 h19]; rfl, rfl⟩
end Go.Proofs.Ytdbadicpbmndbaa
/- How a substitution lies in memory; what stands for a variable. Plain definitions; no condition. -/
set_option linter.unusedVariables false
set_option linter.unusedSimpArgs false
/- short -/
namespace Go.Proofs.Ytdbadicpbmndbaa
open Go Lg

theorem FDoes.ofFirst {P : Program} {f : FuncId} {firsts args : List Value} {I : Imm} {δ : List Ent} {R : Value → Imm → List Ent → Prop} (hp : Plainf P f = true) (h : Does P f (firsts ++ args) I δ R) :
    FDoes P (.func (.func f) firsts.toArray #[]) args I δ R := by
  intro w hs
  refine ⟨{ target := .fn (.func f) #[], args := (firsts ++ args).toArray }, by simp [Deferred.ofValue], .inl ⟨f, (firsts ++ args).toArray, ?_, h w hs⟩⟩
  simp only [invoke]
  rw [run_callFunc hp]
  simp

abbrev Bi := Int × T
def valT (t : T) (s : Option Addr × Nat) : Value := .agg #[.int .i64 t.head, .slice s.1 t.args.length s.2]
/-- a substitution that is only read -/
inductive RepB (I : Imm) : Value → List Bi → Prop
  | mk (ad : Option Addr) (c : Nat) (ss : Nat → Option Addr × Nat) (bs : List Bi) (hc : bs.length ≤ c) (hb : bs.length ≤ 4398046511104)
      (hat : ∀ i (h : i < bs.length), At I ad (i * 3) [.int .i64 bs[i].1, .int .i64 bs[i].2.head, .slice (ss i).1 bs[i].2.args.length (ss i).2]) (hr : ∀ i (h : i < bs.length), InR bs[i].1)
      (hsub : ∀ i (h : i < bs.length), RepT I (.agg #[.int .i64 bs[i].2.head, .slice (ss i).1 bs[i].2.args.length (ss i).2]) bs[i].2) : RepB I (.slice ad bs.length c) bs
theorem RepB.mono {I J : Imm} {v : Value} {bs : List Bi} (h : RepB I v bs) (hl : I.le J) : RepB J v bs := by
  obtain ⟨ad, c, ss, bs, hc, hb, hat, hr, hsub⟩ := h
  exact ⟨ad, c, ss, bs, hc, hb, fun i h => (hat i h).mono hl, hr, fun i h => (hsub i h).mono hl⟩
theorem RepB.shape {I : Imm} {v : Value} {bs : List Bi} (h : RepB I v bs) : ∃ ad c, v = .slice ad bs.length c := by
  obtain ⟨ad, c, ss, bs, _, _, _, _, _⟩ := h; exact ⟨ad, c, rfl⟩
theorem RepB.open {I : Imm} {ad : Option Addr} {n c : Nat} {bs : List Bi} (h : RepB I (.slice ad n c) bs) : n = bs.length ∧ bs.length ≤ c ∧ bs.length ≤ 4398046511104 ∧ (∀ i (h : i < bs.length), InR bs[i].1) ∧ ∃ ss : Nat → Option Addr × Nat,
    (∀ i (h : i < bs.length), At I ad (i * 3) [.int .i64 bs[i].1, .int .i64 bs[i].2.head, .slice (ss i).1 bs[i].2.args.length (ss i).2]) ∧
    (∀ i (h : i < bs.length), RepT I (.agg #[.int .i64 bs[i].2.head, .slice (ss i).1 bs[i].2.args.length (ss i).2]) bs[i].2) := by
  generalize e : Value.slice ad n c = v at h
  obtain ⟨ad', c', ss, bs, hc, hb, hat, hr, hsub⟩ := h
  cases e
  exact ⟨rfl, hc, hb, hr, ss, hat, hsub⟩

/-- the first bind of a variable -/
def ofB : List Bi → Int → Option T
  | [], _ => none
  | (v, t) :: r, x => if v = x then some t else ofB r x
/-- a map holds binds -/
def MB (I : Imm) (xs : Mp) (bs : List Bi) : Prop := ∀ v, (ofB bs v = none → mget xs v = none) ∧ ∀ t, ofB bs v = some t → ∃ u, mget xs v = some u ∧ RepT I u t
theorem MB.mono {I J : Imm} {xs : Mp} {bs : List Bi} (h : MB I xs bs) (hl : I.le J) : MB J xs bs :=
  fun v => ⟨(h v).1, fun t ht => let ⟨u, h1, h2⟩ := (h v).2 t ht; ⟨u, h1, h2.mono hl⟩⟩
theorem MB.nil (I : Imm) : MB I [] [] := fun v => ⟨fun _ => rfl, fun t ht => by simp [ofB] at ht⟩
theorem MB.put {I : Imm} {xs : Mp} {bs : List Bi} {v : Int} {t : T} {u : Value} (h : MB I xs bs) (hu : RepT I u t) : MB I (mput xs v u) ((v, t) :: bs) := fun x => by
  rw [mget_mput]
  simp only [ofB]
  by_cases e : v = x
  · rw [if_pos e, if_pos e]
    exact ⟨fun h => (by cases h), fun t' ht => (by cases ht; exact ⟨u, rfl, hu⟩)⟩
  · rw [if_neg e, if_neg e]; exact h x
def ofT (bs : List Bi) (t : T) : T := (ofB bs (-1 - t.head)).getD t

/-! ### a range over binds from behind -/
def encBd (bs : List Bi) (ss : Nat → Option Addr × Nat) (_ : Imm) (i : Nat) (vs : List Value) : Prop :=
  ∃ hi : i < bs.length, vs = [.int .i64 i, .agg #[.int .i64 bs[i].1, .int .i64 bs[i].2.head, .slice (ss i).1 bs[i].2.args.length (ss i).2]]
theorem backB_iter {I : Imm} {bs : List Bi} {ad : Option Addr} {c b : Nat} {ss : Nat → Option Addr × Nat} (hb : bs.length ≤ 4398046511104)
    (hat : ∀ i (h : i < bs.length), At I ad (i * 3) [.int .i64 bs[i].1, .int .i64 bs[i].2.head, .slice (ss i).1 bs[i].2.args.length (ss i).2]) :
    Iter Try.prog 183 [.pointer (some ⟨b, 0, none⟩)] I [.box b 51 [.slice ad bs.length c]] (encBd bs ss) (List.range bs.length).reverse := by
  intro yv J δ hmono h0 hy
  refine Does.intro Try.func183 rfl Try.ntmps183 rfl fun w0 => ?_
  refine code_seq ?_
  refine code_region ?_
  refine op_v (v_loadA ty51 rfl rfl) rfl ?_
  refine op_v (v_len Try.underlying51 rfl) rfl ?_
  first | refine op_v (v_subb rfl rfl rfl (by omega)) rfl ?_ | refine op_v (v_sub rfl rfl) rfl ?_
  refine op_v (v_assign rfl) rfl ?_
  refine ops_nil ?_
  refine post_next ?_
  refine code_block ?_
  refine code_loop (fun m σ' I' δ' => ∃ (k : Nat) (δJ : List Ent), m = bs.length - k ∧ k ≤ bs.length ∧ σ' = [(0, yv), (1, .pointer (some ⟨b, 0, none⟩)), (3, .int .i64 ((bs.length : Int) - 1 - k))] ∧ I.le I' ∧ δ' = .box b 51 [.slice ad bs.length c] :: δJ ∧ J ((List.range bs.length).reverse.take k) I' δJ) bs.length [(0, yv), (1, .pointer (some ⟨b, 0, none⟩)), (3, .int .i64 ((bs.length : Int) - 1))] ⟨0, δ, rfl, Nat.zero_le _, by simp, Imm.le_refl _, rfl, h0⟩ ⟨rfl, rfl, rfl, trivial⟩ ?_
  rintro m _ I0 _ ⟨k, δJ, rfl, hk, rfl, hI0, rfl, hJ⟩
  refine code_seq ?_
  refine code_seq ?_
  refine code_region ?_
  refine op_v (v_move rfl) rfl ?_
  first | refine op_v (v_cmptA rfl rfl rfl) rfl ?_ | refine op_v (v_cmpfA rfl rfl rfl) rfl ?_ | refine op_v (v_cmp rfl rfl rfl) rfl ?_
  refine ops_nil ?_
  refine post_next ?_
  refine code_cond rfl (fun hc0 => ?_) (fun hc0 => ?_)
  · have hq : 0 ≤ (bs.length : Int) - 1 - k := by simpa using hc0
    have hlt : k < bs.length := by omega
    obtain ⟨j, hj⟩ : ∃ j : Nat, j = bs.length - 1 - k := ⟨_, rfl⟩
    have hji : (bs.length : Int) - 1 - k = (j : Nat) := by omega
    rw [hji]
    have hjl : j < bs.length := by omega
    have hs1 := (hat j hjl).isSome
    have hx := range_rev bs.length k hlt
    rw [← hj] at hx
    have hx2 := range_rev_take bs.length k hlt
    rw [← hj] at hx2
    refine code_skip ?_
    refine post_next ?_
    refine code_seq ?_
    refine code_block ?_
    refine code_seq ?_
    refine code_region ?_
    refine op_v (v_move rfl) rfl ?_
    refine op_v (v_move rfl) rfl ?_
    refine op_v (v_loadA ty51 rfl rfl) rfl ?_
    refine op_v (v_move rfl) rfl ?_
    first | refine op_v (v_indexA Try.underlying51 sz54 rfl rfl) rfl ?_ | refine op_v (v_indexIA Try.underlying51 sz54 rfl rfl) rfl ?_
    first | refine op_v (v_loadI0 ty54 ((hat j hjl).mono hI0) rfl rfl rfl) rfl ?_ | refine op_v (v_loadI ty54 ((hat j hjl).mono hI0) rfl rfl rfl) rfl ?_
    refine op_fcall rfl rfl rfl ((hy _ j _ _ _ _ hx hI0 hJ ⟨hjl, rfl⟩)) (List.perm_append_comm (l₁ := [_])) ?_
    rintro v17 I17 δ17 hI17 ⟨rfl, hJ17⟩
    refine OpsJ.view (View.perm (List.perm_append_comm (l₂ := [_]))) ?_
    rw [← hx2] at hJ17
    refine op_v (v_not rfl) rfl ?_
    refine ops_nil ?_
    refine post_next ?_
    refine code_cond_f rfl ?_
    refine code_skip ?_
    refine post_out ?_
    refine post_next ?_
    refine code_region ?_
    refine op_v (v_move rfl) rfl ?_
    first | refine op_v (v_subb rfl rfl rfl (by omega)) rfl ?_ | refine op_v (v_sub rfl rfl) rfl ?_
    refine op_v (v_assign rfl) rfl ?_
    refine ops_nil ?_
    refine post_again (bs.length - (k + 1)) [(0, yv), (1, .pointer (some ⟨b, 0, none⟩)), (3, .int .i64 ((j : Int) - 1))] (by omega) ⟨k + 1, δ17, rfl, hlt, ?_, Imm.le_trans hI0 hI17, rfl, hJ17⟩ ⟨rfl, rfl, rfl, trivial⟩
    rw [show (j : Int) - 1 = (bs.length : Int) - 1 - ((k + 1 : Nat) : Int) by omega]
  · have hq : ¬ 0 ≤ (bs.length : Int) - 1 - k := by simpa using hc0
    have hge : k = bs.length := by omega
    have hall : (List.range bs.length).reverse.take k = (List.range bs.length).reverse := List.take_of_length_le (by simp; omega)
    rw [hall] at hJ
    refine code_exit ?_
    refine post_exit_then ?_
    refine post_exit_then ?_
    refine post_exit ?_
    refine post_end (rs := []) rfl (List.Perm.refl _) .nil (List.Sublist.refl _) ⟨δJ, hJ, rfl⟩
theorem BackwardB_does {I : Imm} {s : Value} :
    Does Try.prog 176 [s] I [] (fun v I' δ' => ∃ b, v = .func (.func 183) #[] #[.pointer (some ⟨b, 0, none⟩)] ∧ δ' = [.box b 51 (cellsL s)]) := by
  refine Does.intro Try.func176 rfl Try.ntmps176 rfl fun w0 => ?_
  refine code_seq ?_
  refine code_region ?_
  refine o_box rfl rfl rfl (fun b1 => ?_)
  refine op_v (v_assign rfl) rfl ?_
  refine ops_nil ?_
  refine post_next ?_
  refine code_seq ?_
  refine code_region ?_
  refine op_v (v_makeFunc rfl rfl) rfl ?_
  refine op_v (v_assign rfl) rfl ?_
  refine ops_nil ?_
  refine post_next ?_
  refine code_ret ?_
  refine post_ret (rs := [.tmp 2]) rfl (List.Perm.refl _) (.cons (.tmp rfl) .nil) (List.Sublist.refl _) ?_
  exact ⟨b1, rfl, rfl⟩

theorem drop_mid {bs : List Bi} {pre post : List Nat} {x : Nat} (hx : (List.range bs.length).reverse = pre ++ x :: post) : ∃ h : x < bs.length, bs.drop (bs.length - pre.length) = bs.drop (x + 1) ∧ bs.drop (bs.length - (pre ++ [x]).length) = bs[x] :: bs.drop (x + 1) := by
  have hl : pre.length < bs.length := by have := congrArg List.length hx; simp at this; omega
  have h1 := congrArg (fun l => l[pre.length]?) hx
  simp only [List.getElem?_append_right (Nat.le_refl _), Nat.sub_self, List.getElem?_cons_zero] at h1
  rw [List.getElem?_reverse (by simpa using hl), List.getElem?_range (by simp; omega)] at h1
  simp at h1
  have hxl : x < bs.length := by omega
  refine ⟨hxl, by congr 1; omega, ?_⟩
  rw [← List.drop_eq_getElem_cons hxl]; congr 1; simp; omega
theorem open_does {I : Imm} {v : Value} {bs : List Bi} (hv : RepB I v bs) :
    Does Try.prog 155 [v] I [] (fun v I' δ' => ∃ b xs, v = .map (some b) ∧ δ' = [.map b xs] ∧ MB I' xs bs) := by
  obtain ⟨ad, c, rfl⟩ := hv.shape
  obtain ⟨_, hc, hb, hr, ss, hat, hsub⟩ := hv.open
  refine Does.intro Try.func155 rfl Try.ntmps155 rfl fun w0 => ?_
  refine code_seq ?_
  refine code_region ?_
  refine op_v (v_assign rfl) rfl ?_
  refine ops_nil ?_
  refine post_next ?_
  refine code_seq ?_
  refine code_region ?_
  refine o_makeMap rfl (fun b6 => ?_)
  refine o_alloc z173 rfl rfl (fun b3 => ?_)
  refine o_store ty173 rfl rfl rfl rfl rfl (by repeat (first | exact Swap.here | apply Swap.there)) rfl ?_
  refine ops_nil ?_
  refine post_next ?_
  refine code_seq ?_
  refine code_seq ?_
  refine code_region ?_
  refine op_v (v_move rfl) rfl ?_
  refine op_call pl176 rfl rfl ((BackwardB_does)) Parts.none ?_
  rintro v8 I8 _ hI8 ⟨b8, rfl, rfl⟩
  refine ops_nil ?_
  refine post_next ?_
  refine code_block ?_
  refine code_range (δb := [_, _]) (B := fun l I' δ' => ∃ xs, δ' = [.box b3 173 [.map (some b6)], .map b6 xs] ∧ MB I' xs (bs.drop (bs.length - l.length))) rfl rfl pl183 rfl (backB_iter hb (fun i h => (hat i h).mono hI8)) (List.Perm.refl _) ⟨[], rfl, by simp; exact MB.nil _⟩ (by rintro _ _ _ ⟨_, rfl⟩; rfl) (by rintro l I1 I2 _ hle ⟨xs, rfl, h⟩; exact ⟨xs, rfl, h.mono hle⟩) ?_ ?_
  · rintro l r w1 pre x post I2 _ _ hrs hrp hx hI2 ⟨xs, rfl, hM⟩ ⟨hxl, rfl⟩
    obtain ⟨_, hd1, hd2⟩ := drop_mid hx
    rw [hd1] at hM
    refine code_region ?_
    refine o_alloc z54 rfl rfl (fun b5 => ?_)
    refine o_store ty54 rfl rfl rfl rfl rfl (by repeat (first | exact Swap.here | apply Swap.there)) rfl ?_
    refine ops_nil ?_
    refine post_begin hrs (Swap.there Swap.here) ?_
    refine code_block ?_
    refine code_region ?_
    refine op_v (v_loadA ty173 rfl rfl) rfl ?_
    first | refine op_v (v_fieldB 0 Try.underlying54 rfl rfl fz3 rfl) rfl ?_ | refine op_v (v_fieldI 0 Try.underlying54 rfl rfl fz3 rfl (by assumption)) rfl ?_ | refine op_v (v_field Try.underlying54 rfl fz3 rfl rfl) rfl ?_
    refine op_v (v_loadA ty3 rfl rfl) rfl ?_
    first | refine op_v (v_fieldB 1 Try.underlying54 rfl rfl fz47 rfl) rfl ?_ | refine op_v (v_fieldI 1 Try.underlying54 rfl rfl fz47 rfl (by assumption)) rfl ?_ | refine op_v (v_field Try.underlying54 rfl fz47 rfl rfl) rfl ?_
    refine op_v (v_loadA ty47 rfl rfl) rfl ?_
    refine o_mapUpdate Try.underlying173 Try.underlying3 rfl rfl rfl rfl (by repeat (first | exact Swap.here | apply Swap.there)) ?_
    refine ops_nil ?_
    refine post_out ?_
    refine PostJ.view (View.drop Del.here) ?_
    refine post_round Swap.here hrs hrp ⟨rfl, _, rfl, _, rfl, ?_⟩
    rw [hd2]
    exact hM.put ((hsub x hxl).mono Imm.leA)
  · rintro blk I3 _ hI3 ⟨xs, rfl, hM⟩
    refine post_out ?_
    refine post_next ?_
    refine code_seq ?_
    refine code_region ?_
    refine op_v (v_loadA ty173 rfl rfl) rfl ?_
    refine op_v (v_assign rfl) rfl ?_
    refine ops_nil ?_
    refine post_next ?_
    refine code_ret ?_
    refine post_ret (rs := [.tmp 2]) rfl (List.Perm.refl _) (.cons (.tmp rfl) .nil) (List.Sublist.cons _ (List.Sublist.cons _ (List.Sublist.cons_cons _ (List.nil_sublist _)))) ?_
    exact ⟨b6, xs, rfl, rfl, by simpa using hM⟩
theorem of_does {I : Imm} {b : Nat} {xs : Mp} {bs : List Bi} {v : Value} {t : T} (hv : RepT I v t) (hM : MB I xs bs) :
    Does Try.prog 156 [.map (some b), v] I [.map b xs] (fun v I' δ' => RepT I' v (ofT bs t) ∧ δ' = [.map b xs]) := by
  obtain ⟨a0, c0, rfl, hr0⟩ := hv.shape
  unfold InR at hr0
  refine Does.intro Try.func156 rfl Try.ntmps156 rfl fun w0 => ?_
  refine code_seq ?_
  refine code_region ?_
  refine o_box rfl rfl rfl (fun b3 => ?_)
  refine o_alloc z47 rfl rfl (fun b4 => ?_)
  refine ops_nil ?_
  refine post_next ?_
  refine code_seq ?_
  refine code_seq ?_
  refine code_region ?_
  refine op_v (v_move rfl) rfl ?_
  first | refine op_v (v_fieldB 0 Try.underlying47 rfl rfl fz3 rfl) rfl ?_ | refine op_v (v_fieldI 0 Try.underlying47 rfl rfl fz3 rfl (by assumption)) rfl ?_ | refine op_v (v_field Try.underlying47 rfl fz3 rfl rfl) rfl ?_
  refine op_v (v_loadA ty3 rfl rfl) rfl ?_
  first | refine op_v (v_subb rfl rfl rfl (by omega)) rfl ?_ | refine op_v (v_sub rfl rfl) rfl ?_
  by_cases hof : (ofB bs (-1 - t.head)).isSome = true
  · obtain ⟨u, hu⟩ := Option.isSome_iff_exists.1 hof
    obtain ⟨uv, hg, huv⟩ := (hM (-1 - t.head)).2 u hu
    obtain ⟨ua, uc, rfl, _⟩ := huv.shape
    refine op_v (v_mlook2 (v := .agg #[.int .i64 u.head, .slice ua u.args.length uc]) (g := true) Try.underlying173 Try.underlying3 z47 rfl rfl (by repeat (first | exact Has.here | apply Has.there)) (by rw [hg]; rfl) (by rw [hg]; rfl)) rfl ?_
    refine op_v (v_move rfl) rfl ?_
    refine op_v (v_extract rfl rfl) rfl ?_
    refine op_v (v_extract rfl rfl) rfl ?_
    refine o_alloc z47 rfl rfl (fun b5 => ?_)
    refine o_store ty47 rfl rfl rfl rfl rfl (by repeat (first | exact Swap.here | apply Swap.there)) rfl ?_
    refine op_v (v_assign rfl) rfl ?_
    refine ops_nil ?_
    refine post_next ?_
    refine code_seq ?_
    refine code_region ?_
    refine op_v (v_move rfl) rfl ?_
    refine ops_nil ?_
    refine post_next ?_
    refine code_cond_t rfl ?_
    refine code_seq ?_
    refine code_region ?_
    refine op_v (v_loadA ty47 rfl rfl) rfl ?_
    refine o_store ty47 rfl rfl rfl rfl rfl (by repeat (first | exact Swap.here | apply Swap.there)) rfl ?_
    refine ops_nil ?_
    refine post_next ?_
    refine code_ret ?_
    refine post_ret_then ?_
    refine post_ret (rs := [.cell 4 47]) rfl (List.Perm.refl _) (.cons (.cell rfl ty47 (by repeat (first | exact Has.here | apply Has.there)) rfl) .nil) (List.Sublist.cons _ (List.Sublist.cons _ (List.Sublist.cons _ (List.Sublist.refl _)))) ?_
    exact ⟨by rw [ofT, hu]; exact huv, rfl⟩
  · have hu : ofB bs (-1 - t.head) = none := by simpa using hof
    have hg := (hM (-1 - t.head)).1 hu
    refine op_v (v_mlook2 (v := .agg #[.int .i64 0, .slice none 0 0]) (g := false) Try.underlying173 Try.underlying3 z47 rfl rfl (by repeat (first | exact Has.here | apply Has.there)) (by rw [hg]; rfl) (by rw [hg]; rfl)) rfl ?_
    refine op_v (v_move rfl) rfl ?_
    refine op_v (v_extract rfl rfl) rfl ?_
    refine op_v (v_extract rfl rfl) rfl ?_
    refine o_alloc z47 rfl rfl (fun b5 => ?_)
    refine o_store ty47 rfl rfl rfl rfl rfl (by repeat (first | exact Swap.here | apply Swap.there)) rfl ?_
    refine op_v (v_assign rfl) rfl ?_
    refine ops_nil ?_
    refine post_next ?_
    refine code_seq ?_
    refine code_region ?_
    refine op_v (v_move rfl) rfl ?_
    refine ops_nil ?_
    refine post_next ?_
    refine code_cond_f rfl ?_
    refine code_skip ?_
    refine post_next ?_
    refine code_seq ?_
    refine code_region ?_
    refine op_v (v_loadA ty47 rfl rfl) rfl ?_
    refine o_store ty47 rfl rfl rfl rfl rfl (by repeat (first | exact Swap.here | apply Swap.there)) rfl ?_
    refine ops_nil ?_
    refine post_next ?_
    refine code_ret ?_
    refine post_ret (rs := [.cell 4 47]) rfl (List.Perm.refl _) (.cons (.cell rfl ty47 (by repeat (first | exact Has.here | apply Has.there)) rfl) .nil) (List.Sublist.cons _ (List.Sublist.cons _ (List.Sublist.cons _ (List.Sublist.refl _)))) ?_
    exact ⟨by rw [ofT, hu]; exact hv, rfl⟩
end Go.Proofs.Ytdbadicpbmndbaa
/- Plain facts on parts of terms. No condition. -/
set_option linter.unusedVariables false
set_option linter.unusedSimpArgs false
namespace Go.Proofs.Ytdbadicpbmndbaa
open Go Lg

theorem cmp_lessT {u t : T} (h : u.size < t.size) : cmpT u t = -1 := by
  obtain ⟨a, p⟩ := u
  obtain ⟨b, q⟩ := t
  simp only [T.size] at h
  simp only [cmpT]
  rw [if_pos (by omega)]
  unfold ordI
  rw [if_pos (by omega)]
theorem depL_app (a b : List T) : depL (a ++ b) = max (depL a) (depL b) := by
  induction a with
  | nil => simp [depL]
  | cons x r ih => simp only [List.cons_append, depL, ih, Nat.max_assoc]
theorem depL_take (l : List T) (k : Nat) (h : k < l.length) : depL (l.take (k + 1)) = max (depL (l.take k)) (depT l[k]) := by
  rw [List.take_succ_eq_append_getElem h, depL_app]; simp [depL]
theorem depL_mem : ∀ (l : List T) (k : Nat) (h : k < l.length), depT l[k] ≤ depL l
  | t :: r, 0, _ => by simp only [depL, List.getElem_cons_zero]; omega
  | t :: r, k + 1, h => by have := depL_mem r k (by simpa using h); simp [depL]; omega
theorem sizeL_few : ∀ (l : List T) (m : Nat), (∀ t ∈ l, t.size ≤ m) → sizeL l ≤ l.length * m
  | [], _, _ => by simp [sizeL]
  | t :: r, m, h => by
    have h1 := h t (List.mem_cons_self ..)
    have h2 := sizeL_few r m (fun x hx => h x (List.mem_cons_of_mem _ hx))
    simp only [sizeL, List.length_cons, Nat.add_mul]; omega
mutual
theorem any_T : ∀ (d e : Nat) (t : T), (partsT d t).any badN = (partsT e t).any badN
  | d, e, .mk h ts => by
    simp only [partsT, List.any_cons]
    rw [any_L (d + 1) (e + 1) ts]
    rfl
theorem any_L : ∀ (d e : Nat) (ts : List T), (partsL d ts).any badN = (partsL e ts).any badN
  | _, _, [] => rfl
  | d, e, t :: r => by simp only [partsL, List.any_append]; rw [any_T d e t, any_L d e r]
end
theorem any_mem : ∀ (d : Nat) (l : List T) (k : Nat) (h : k < l.length), (partsL d l).any badN = false → (partsT d l[k]).any badN = false
  | d, t :: r, 0, _, h => by simp only [partsL, List.any_append, Bool.or_eq_false_iff] at h; exact h.1
  | d, t :: r, k + 1, hk, h => by
    simp only [partsL, List.any_append, Bool.or_eq_false_iff] at h
    exact any_mem d r k (by simpa using hk) h.2
theorem chk_part {h : Int} {ts : List T} (hc : chkT (.mk h ts) = 0) (k : Nat) (hk : k < ts.length) : chkT ts[k] = 0 := by
  have h1 := sizeL_mem ts k hk
  have h2 := depL_mem ts k hk
  have hsz : (T.mk h ts).size = 1 + sizeL ts := by simp [T.size]
  have hdp : depT (T.mk h ts) = 1 + depL ts := by simp [depT]
  unfold chkT at hc
  rw [hsz, hdp] at hc
  by_cases q1 : 400 < 1 + sizeL ts
  · rw [if_pos q1] at hc; omega
  · rw [if_neg q1] at hc
    by_cases q2 : 40 < 1 + depL ts
    · rw [if_pos q2] at hc; omega
    · rw [if_neg q2] at hc
      by_cases q3 : (partsT 1 (.mk h ts)).any badN = true
      · rw [if_pos q3] at hc; omega
      · have q4 : (partsL 2 ts).any badN = false := by
          simp only [partsT, List.any_cons, Bool.or_eq_true, not_or] at q3
          simpa using q3.2
        have q5 := any_mem 2 ts k hk q4
        rw [any_T 2 1] at q5
        unfold chkT
        rw [if_neg (by omega), if_neg (by omega), q5]
        rfl

end Go.Proofs.Ytdbadicpbmndbaa
/- Walks: terms put in place of variables. -/
set_option linter.unusedVariables false
set_option linter.unusedSimpArgs false
/- short -/
namespace Go.Proofs.Ytdbadicpbmndbaa
open Go Lg

mutual
/-- a term with something in place of each variable -/
def rbT (f : T → T) : T → T
  | .mk h us => if h < 0 then f (.mk h us) else .mk h (rbL f us)
def rbL (f : T → T) : List T → List T
  | [] => []
  | t :: r => rbT f t :: rbL f r
end
theorem rbL_map (f : T → T) : ∀ us : List T, rbL f us = us.map (rbT f)
  | [] => rfl
  | t :: r => by simp [rbL, rbL_map f r]
theorem rbL_len (f : T → T) (us : List T) : (rbL f us).length = us.length := by rw [rbL_map]; simp
theorem rbL_take (f : T → T) (us : List T) (k : Nat) (h : k < us.length) : rbL f (us.take (k + 1)) = rbL f (us.take k) ++ [rbT f us[k]] := by
  rw [rbL_map, rbL_map, List.take_succ_eq_append_getElem h, List.map_append]; rfl

theorem rebuild_does {fv : Value} {δf : List Ent} {f : T → T} {I0 : Imm} (hf : ∀ J v t, I0.le J → RepT J v t → FDoes Try.prog fv [v] J δf (fun v' J' δ' => RepT J' v' (f t) ∧ δ' = δf)) :
    ∀ (n : Nat) (t : T), t.size ≤ n → ∀ (I : Imm) (v : Value), I0.le I → RepT I v t →
    Does Try.prog 144 [v, fv] I δf (fun v I' δ' => RepT I' v (rbT f t) ∧ δ' = δf) := by
  intro n
  induction n with
  | zero => intro t ht; have := t.size_pos; omega
  | succ n ih =>
    intro t ht I v hI hv
    obtain ⟨h, ts⟩ := t
    have hv0 := hv
    obtain ⟨ad, c, ss, rfl, hr, hc, hb, hat, hsub⟩ := hv.elim
    have hsz : (T.mk h ts).size = 1 + sizeL ts := by simp [T.size]
    refine Does.intro Try.func144 rfl Try.ntmps144 rfl fun w0 => ?_
    refine code_seq ?_
    refine code_region ?_
    refine o_box rfl rfl rfl (fun b2 => ?_)
    refine o_alloc z47 rfl rfl (fun b4 => ?_)
    refine ops_nil ?_
    refine post_next ?_
    refine code_seq ?_
    refine code_seq ?_
    refine code_region ?_
    first | refine op_v (v_fieldB 0 Try.underlying47 rfl rfl fz3 rfl) rfl ?_ | refine op_v (v_fieldI 0 Try.underlying47 rfl rfl fz3 rfl (by assumption)) rfl ?_ | refine op_v (v_field Try.underlying47 rfl fz3 rfl rfl) rfl ?_
    refine op_v (v_loadA ty3 rfl rfl) rfl ?_
    by_cases hneg : h < 0
    · first | refine op_v (v_cmptA rfl rfl rfl) rfl ?_ | refine op_v (v_cmpfA rfl rfl rfl) rfl ?_ | refine op_v (v_cmp rfl rfl rfl) rfl ?_
      refine ops_nil ?_
      refine post_next ?_
      refine code_cond_t rfl ?_
      refine code_seq ?_
      refine code_region ?_
      refine op_v (v_move rfl) rfl ?_
      refine op_v (v_loadA ty47 rfl rfl) rfl ?_
      refine op_fcall rfl rfl rfl ((hf _ _ _ hI hv0)) (List.perm_append_comm (l₁ := [_, _])) ?_
      rintro v13 I13 _ hI13 ⟨hv13, rfl⟩
      obtain ⟨a13, c13, rfl, _⟩ := hv13.shape
      refine OpsJ.view (View.perm (List.perm_append_comm (l₂ := [_, _]))) ?_
      refine o_store ty47 rfl rfl rfl rfl rfl (by repeat (first | exact Swap.here | apply Swap.there)) rfl ?_
      refine ops_nil ?_
      refine post_next ?_
      refine code_ret ?_
      refine post_ret_then ?_
      refine post_ret (rs := [.cell 4 47]) rfl (List.Perm.refl _) (.cons (.cell rfl ty47 (by repeat (first | exact Has.here | apply Has.there)) rfl) .nil) (List.Sublist.cons _ (List.Sublist.cons _ (List.Sublist.refl _))) ?_
      exact ⟨by simp only [rbT]; rw [if_pos hneg]; exact hv13, rfl⟩
    · first | refine op_v (v_cmptA rfl rfl rfl) rfl ?_ | refine op_v (v_cmpfA rfl rfl rfl) rfl ?_ | refine op_v (v_cmp rfl rfl rfl) rfl ?_
      refine ops_nil ?_
      refine post_next ?_
      refine code_cond_f rfl ?_
      refine code_skip ?_
      refine post_next ?_
      refine code_seq ?_
      refine code_region ?_
      first | refine op_v (v_fieldB 0 Try.underlying47 rfl rfl fz3 rfl) rfl ?_ | refine op_v (v_fieldI 0 Try.underlying47 rfl rfl fz3 rfl (by assumption)) rfl ?_ | refine op_v (v_field Try.underlying47 rfl fz3 rfl rfl) rfl ?_
      refine op_v (v_loadA ty3 rfl rfl) rfl ?_
      refine op_v (v_build bl47 rfl rfl) rfl ?_
      refine o_alloc z47 rfl rfl (fun b5 => ?_)
      refine o_store ty47 rfl rfl rfl rfl rfl (by repeat (first | exact Swap.here | apply Swap.there)) rfl ?_
      refine ops_nil ?_
      refine post_next ?_
      refine code_seq ?_
      refine code_seq ?_
      refine code_region ?_
      first | refine op_v (v_fieldB 1 Try.underlying47 rfl rfl fz45 rfl) rfl ?_ | refine op_v (v_fieldI 1 Try.underlying47 rfl rfl fz45 rfl (by assumption)) rfl ?_ | refine op_v (v_field Try.underlying47 rfl fz45 rfl rfl) rfl ?_
      refine op_v (v_loadA ty45 rfl rfl) rfl ?_
      refine op_v (v_len Try.underlying45 rfl) rfl ?_
      refine op_v (v_move rfl) rfl ?_
      refine ops_nil ?_
      refine post_next ?_
      refine code_block ?_
      refine CodeJ.view (View.nilRow 47 2) ?_
      refine code_loop (fun m σ' I' δ' => ∃ (k : Nat) (ar : Option Addr) (cr : Nat) (xs : List Value), m = ts.length - k ∧ k ≤ ts.length ∧ σ' = [(1, fv), (4, .pointer (some ⟨b4, 0, none⟩)), (5, .pointer (some ⟨b5, 0, none⟩)), (18, .slice ad ts.length c), (19, .int .i64 ts.length), (20, .int .i64 k)] ∧ I.le I' ∧ δ' = .row (.slice ar k cr) 47 2 k xs :: .box b5 47 [.int .i64 h, .slice ar k cr] :: .box b4 47 [.int .i64 0, .slice none 0 0] :: .box b2 47 [.int .i64 h, .slice ad ts.length c] :: δf ∧ RowT I' xs (rbL f (ts.take k))) ts.length [(1, fv), (4, .pointer (some ⟨b4, 0, none⟩)), (5, .pointer (some ⟨b5, 0, none⟩)), (18, .slice ad ts.length c), (19, .int .i64 ts.length), (20, .int .i64 (0 : Nat))] ⟨0, none, 0, [], rfl, Nat.zero_le _, rfl, Imm.le_refl _, rfl, RowT.nil _⟩ ⟨rfl, rfl, rfl, rfl, rfl, rfl, trivial⟩ ?_
      rintro m _ I1 _ ⟨k, ar, cr, xs, rfl, hk, rfl, hI1, rfl, hp⟩
      refine code_seq ?_
      refine code_region ?_
      first | refine op_v (v_cmptA rfl rfl rfl) rfl ?_ | refine op_v (v_cmpfA rfl rfl rfl) rfl ?_ | refine op_v (v_cmp rfl rfl rfl) rfl ?_
      refine ops_nil ?_
      refine post_next ?_
      refine code_seq ?_
      refine code_cond rfl (fun hc1 => ?_) (fun hc1 => ?_)
      · have hlt : k < ts.length := by simpa using hc1
        have hs1 := (hat k hlt).isSome
        have hm := sizeL_mem ts k hlt
        refine code_skip ?_
        refine post_next ?_
        refine code_seq ?_
        refine code_block ?_
        refine code_seq ?_
        refine code_region ?_
        first | refine op_v (v_indexA Try.underlying45 sz47 rfl rfl) rfl ?_ | refine op_v (v_indexIA Try.underlying45 sz47 rfl rfl) rfl ?_
        first | refine op_v (v_loadI0 ty47 ((hat k hlt).mono hI1) rfl rfl rfl) rfl ?_ | refine op_v (v_loadI ty47 ((hat k hlt).mono hI1) rfl rfl rfl) rfl ?_
        refine o_alloc z47 rfl rfl (fun b7 => ?_)
        refine o_store ty47 rfl rfl rfl rfl rfl (by repeat (first | exact Swap.here | apply Swap.there)) rfl ?_
        refine ops_nil ?_
        refine post_next ?_
        refine code_draw (.fl 0 (.fl 1 (.fl 2 (.fl 3 (.ef 4 (.ef 5 (.ef 6 (.fl 7 (.ef 8 .done))))))))) (fun _ => .box b7 47 [.int .i64 ts[k].head, .slice (ss k).1 ts[k].args.length (ss k).2] :: .box b5 47 [.int .i64 h, .slice ar k cr] :: .box b4 47 [.int .i64 0, .slice none 0 0] :: .box b2 47 [.int .i64 h, .slice ad ts.length c] :: δf) mixed (by kernel_rfl) (by kernel_rfl) (fun _ => (List.Sublist.cons_cons _ (List.Sublist.cons _ (List.Sublist.refl _)))) ?_
        first | refine e_float rfl rfl (fun hs_ => PF.mk rfl (v_fieldB 1 Try.underlying47 rfl rfl fz45 rfl) hs_) Imm.leA (by intro x hx; simp only [List.mem_cons] at hx ⊢; rcases hx with h | h | h | h | h <;> simp [h, cellsL]) ?_ | refine e_float rfl rfl (fun hs_ => PF.mk rfl (v_fieldI 1 Try.underlying47 rfl rfl fz45 rfl (by assumption)) hs_) Imm.leA (by intro x hx; simp only [List.mem_cons] at hx ⊢; rcases hx with h | h | h | h | h <;> simp [h, cellsL]) ?_ | refine e_float rfl rfl (fun hs_ => PF.mk rfl (v_field Try.underlying47 rfl fz45 rfl rfl) hs_) Imm.leA (by intro x hx; simp only [List.mem_cons] at hx ⊢; rcases hx with h | h | h | h | h <;> simp [h, cellsL]) ?_
        refine e_float rfl rfl (fun hs_ => PF.mk rfl (v_loadA ty45 rfl rfl) hs_) Imm.leA (by intro x hx; simp only [List.mem_cons] at hx ⊢; rcases hx with h | h | h | h | h <;> simp [h, cellsL]) ?_
        refine e_float rfl rfl (fun hs_ => PF.mk rfl (v_loadA ty47 rfl rfl) hs_) Imm.leA (by intro x hx; simp only [List.mem_cons] at hx ⊢; rcases hx with h | h | h | h | h <;> simp [h, cellsL]) ?_
        refine e_float rfl rfl (fun hs_ => PF.mk rfl (v_move rfl) hs_) Imm.leA (by intro x hx; simp only [List.mem_cons] at hx ⊢; rcases hx with h | h | h | h | h <;> simp [h, cellsL]) ?_
        refine e_eff rfl (by intro cs b hc; cases hc) (by intro c hc; cases hc) ?_
        refine op_call pl144 rfl rfl ((ih ts[k] (by omega) _ _ (Imm.le_trans hI hI1) ((hsub k hlt).mono hI1))) (List.perm_append_comm (l₁ := [_, _, _, _, _])) ?_
        rintro v28 I28 _ hI28 ⟨hv28, rfl⟩
        obtain ⟨p28, q28, rfl, _⟩ := hv28.shape
        refine OpsJ.view (View.perm (List.perm_append_comm (l₂ := [_, _, _, _, _]))) ?_
        refine ops_nil ?_
        refine e_next rfl (side_all Imm.leA (fun _ => (by intro x hx; simp only [List.mem_cons] at hx ⊢; rcases hx with h | h | h | h | h <;> simp [h, cellsL]))) ?_
        refine e_eff rfl (by intro cs b hc; cases hc) (by intro c hc; cases hc) ?_
        refine o_buildSlice (xs := [(Go.Operand.tmp 28)]) Try.underlying45 bs47 rfl rfl rfl rfl rfl (fun b29 => ?_)
        refine ops_nil ?_
        refine e_next rfl (side_all Imm.leA (fun _ => (by intro x hx; simp only [List.mem_cons] at hx ⊢; rcases hx with h | h | h | h | h <;> simp [h, cellsL]))) ?_
        refine e_eff rfl (by intro cs b hc; cases hc) (by intro c hc; cases hc) ?_
        refine o_append Try.underlying45 bs47 rfl rfl rfl (fun v' => by repeat (first | exact Swap.here | apply Swap.there)) (Src.ofRow (by repeat (first | exact Has.here | apply Has.there)) rfl) (by first | rfl | omega | simp) (by simp [cat, cellsL, Value.oneCell']) (by omega) (by omega) (fun a30 c30 => ?_)
        refine ops_nil ?_
        refine e_next rfl (side_all Imm.leA (fun _ => (by intro x hx; simp only [List.mem_cons] at hx ⊢; rcases hx with h | h | h | h | h <;> simp [h, cellsL]))) ?_
        first | refine e_float rfl rfl (fun hs_ => PF.mk rfl (v_fieldB 1 Try.underlying47 rfl rfl fz45 rfl) hs_) Imm.leA (by intro x hx; simp only [List.mem_cons] at hx ⊢; rcases hx with h | h | h | h | h <;> simp [h, cellsL]) ?_ | refine e_float rfl rfl (fun hs_ => PF.mk rfl (v_fieldI 1 Try.underlying47 rfl rfl fz45 rfl (by assumption)) hs_) Imm.leA (by intro x hx; simp only [List.mem_cons] at hx ⊢; rcases hx with h | h | h | h | h <;> simp [h, cellsL]) ?_ | refine e_float rfl rfl (fun hs_ => PF.mk rfl (v_field Try.underlying47 rfl fz45 rfl rfl) hs_) Imm.leA (by intro x hx; simp only [List.mem_cons] at hx ⊢; rcases hx with h | h | h | h | h <;> simp [h, cellsL]) ?_
        refine e_eff rfl (by intro cs b hc; cases hc) (by intro c hc; cases hc) ?_
        refine o_store ty45 rfl rfl rfl rfl rfl (by repeat (first | exact Swap.here | apply Swap.there)) rfl ?_
        refine ops_nil ?_
        refine e_next_ (side_nil (by kernel_rfl)) ?_
        refine e_done ?_
        refine post_out ?_
        refine post_next ?_
        refine code_region ?_
        first | refine op_v (v_addb rfl rfl rfl (by omega)) rfl ?_ | refine op_v (v_add rfl rfl) rfl ?_
        refine op_v (v_move rfl) rfl ?_
        refine ops_nil ?_
        refine PostJ.view ((View.drop Del.here).trans (View.drop Del.here)) ?_
        refine post_again (ts.length - (k + 1)) [(1, fv), (4, .pointer (some ⟨b4, 0, none⟩)), (5, .pointer (some ⟨b5, 0, none⟩)), (18, .slice ad ts.length c), (19, .int .i64 ts.length), (20, .int .i64 ((k + 1 : Nat) : Int))] (by omega) ⟨k + 1, a30, c30, xs ++ [.int .i64 (rbT f ts[k]).head, .slice p28 (rbT f ts[k]).args.length q28], rfl, hlt, rfl, Imm.le_trans hI1 hI28, rfl, ?_⟩ ⟨rfl, rfl, rfl, rfl, rfl, rfl, trivial⟩
        rw [rbL_take f ts k hlt]
        exact (hp.mono hI28).app (RowT.one hv28)
      · have hge : k = ts.length := by simp at hc1; omega
        subst hge
        rw [List.take_length] at hp
        refine code_exit ?_
        refine post_exit_then ?_
        refine post_exit_then ?_
        refine post_exit ?_
        refine post_next ?_
        refine code_seq ?_
        refine code_region ?_
        refine OpsJ.freezeRow Del.here ?_
        rintro I33 ar2 cr2 hI33 hvr hcr hlr hcells
        cases hvr
        refine op_v (v_loadA ty47 rfl rfl) rfl ?_
        refine o_store ty47 rfl rfl rfl rfl rfl (by repeat (first | exact Swap.here | apply Swap.there)) rfl ?_
        refine ops_nil ?_
        refine post_next ?_
        refine code_ret ?_
        refine post_ret (rs := [.cell 4 47]) rfl (List.Perm.refl _) (.cons (.cell rfl ty47 (by repeat (first | exact Has.here | apply Has.there)) rfl) .nil) (List.Sublist.cons _ (List.Sublist.cons _ (List.Sublist.cons _ (List.Sublist.refl _)))) ?_
        exact ⟨by simp only [rbT]; rw [if_neg hneg]; have hl := rbL_len f ts; have := RowT.rep (h := h) hcells (hp.mono hI33) hr (by rw [hl]; exact hcr) (by rw [hl]; exact hb); rw [hl] at this; exact this, rfl⟩

/-! ### sizes -/
mutual
theorem rb_sizeT (f : T → T) (m : Nat) (hm : 1 ≤ m) (hf : ∀ t, t.head < 0 → (f t).size ≤ m * t.size) : ∀ t : T, (rbT f t).size ≤ m * t.size
  | .mk h us => by
    simp only [rbT]
    split
    · exact hf _ (by assumption)
    · have := rb_sizeL f m hm hf us
      simp only [T.size, Nat.mul_add]; omega
theorem rb_sizeL (f : T → T) (m : Nat) (hm : 1 ≤ m) (hf : ∀ t, t.head < 0 → (f t).size ≤ m * t.size) : ∀ us : List T, sizeL (rbL f us) ≤ m * sizeL us
  | [] => by simp [rbL, sizeL]
  | t :: r => by
    have h1 := rb_sizeT f m hm hf t
    have h2 := rb_sizeL f m hm hf r
    simp only [rbL, sizeL, Nat.mul_add]; omega
end
theorem ofB_mem : ∀ {bs : List Bi} {v : Int} {t : T}, ofB bs v = some t → ∃ b ∈ bs, b.1 = v ∧ b.2 = t
  | [], v, t, h => by simp [ofB] at h
  | (w, u) :: r, v, t, h => by
    simp only [ofB] at h
    split at h
    · cases h; exact ⟨(w, u), List.mem_cons_self .., by assumption, rfl⟩
    · obtain ⟨b, hb, h1⟩ := ofB_mem h; exact ⟨b, List.mem_cons_of_mem _ hb, h1⟩
theorem ofT_size {bs : List Bi} {m : Nat} (hm : 1 ≤ m) (hb : ∀ b ∈ bs, b.2.size ≤ m) (t : T) : (ofT bs t).size ≤ m * t.size := by
  have hp := t.size_pos
  unfold ofT
  cases h : ofB bs (-1 - t.head) with
  | none =>
    show t.size ≤ _
    calc t.size = 1 * t.size := (Nat.one_mul _).symm
      _ ≤ m * t.size := Nat.mul_le_mul_right _ hm
  | some u =>
    obtain ⟨b, hbm, _, rfl⟩ := ofB_mem h
    have := hb b hbm
    show b.2.size ≤ _
    calc b.2.size ≤ m * 1 := by omega
      _ ≤ m * t.size := Nat.mul_le_mul_left _ hp
def sbT (bs : List Bi) (t : T) : T := rbT (ofT bs) t
theorem sbT_size {bs : List Bi} {m : Nat} (hm : 1 ≤ m) (hb : ∀ b ∈ bs, b.2.size ≤ m) (t : T) : (sbT bs t).size ≤ m * t.size := rb_sizeT _ m hm (fun t _ => ofT_size hm hb t) t

/-! ### rightness -/
def badBi (last : Int) (b : Bi) : Bool := decide (b.1 ≤ last) || (decide (255 < b.1) || (decide (chkT b.2 ≠ 0) || decide (b.2.head = -1 - b.1)))
def chkB (bs : List Bi) : Prop := ∀ i (h : i < bs.length), badBi (if i = 0 then -1 else (bs.getD (i - 1) (0, zeroT)).1) bs[i] = false
theorem SCheck_does {I : Imm} {v : Value} {bs : List Bi} (hv : RepB I v bs) (hbig : ∀ b ∈ bs, b.2.size ≤ 1000000000) :
    Does Try.prog 154 [v] I [] (fun v I' δ' => (∃ e : Int, v = .int .i64 e ∧ (e = 0 ∧ chkB bs ∨ e = 1 ∧ ¬ chkB bs)) ∧ δ' = []) := by
  obtain ⟨ad, c, rfl⟩ := hv.shape
  obtain ⟨_, hc, hb, hr, ss, hat, hsub⟩ := hv.open
  refine Does.intro Try.func154 rfl Try.ntmps154 rfl fun w0 => ?_
  refine code_seq ?_
  refine code_region ?_
  refine op_v (v_assign rfl) rfl ?_
  refine ops_nil ?_
  refine post_next ?_
  refine code_seq ?_
  refine code_region ?_
  refine op_v (v_assign rfl) rfl ?_
  refine ops_nil ?_
  refine post_next ?_
  refine code_seq ?_
  refine code_seq ?_
  refine code_region ?_
  refine op_v (v_move rfl) rfl ?_
  refine op_v (v_len Try.underlying51 rfl) rfl ?_
  refine op_v (v_move rfl) rfl ?_
  refine ops_nil ?_
  refine post_next ?_
  refine code_block ?_
  refine code_loop (fun m σ' I' δ' => ∃ (k : Nat) (last : Int), m = bs.length - k ∧ k ≤ bs.length ∧ σ' = [(3, .int .i64 last), (6, .slice ad bs.length c), (7, .int .i64 bs.length), (8, .int .i64 k)] ∧ I.le I' ∧ δ' = [] ∧ last = (if k = 0 then -1 else (bs.getD (k - 1) (0, zeroT)).1) ∧ ∀ i (h : i < bs.length), i < k → badBi (if i = 0 then -1 else (bs.getD (i - 1) (0, zeroT)).1) bs[i] = false) bs.length [(3, .int .i64 (-1)), (6, .slice ad bs.length c), (7, .int .i64 bs.length), (8, .int .i64 (0 : Nat))] ⟨0, -1, rfl, Nat.zero_le _, rfl, Imm.le_refl _, rfl, rfl, fun i _ h => by omega⟩ ⟨rfl, rfl, rfl, rfl, trivial⟩ ?_
  rintro m _ I0 _ ⟨k, last, rfl, hk, rfl, hI0, rfl, hlast, hp⟩
  refine code_seq ?_
  refine code_region ?_
  first | refine op_v (v_cmptA rfl rfl rfl) rfl ?_ | refine op_v (v_cmpfA rfl rfl rfl) rfl ?_ | refine op_v (v_cmp rfl rfl rfl) rfl ?_
  refine ops_nil ?_
  refine post_next ?_
  refine code_seq ?_
  refine code_cond rfl (fun hc0 => ?_) (fun hc0 => ?_)
  · have hlt : k < bs.length := by simpa using hc0
    have hs1 := (hat k hlt).isSome
    have hkr := hr k hlt
    unfold InR at hkr
    refine code_skip ?_
    refine post_next ?_
    refine code_seq ?_
    refine code_block ?_
    refine code_seq ?_
    refine code_region ?_
    first | refine op_v (v_indexA Try.underlying51 sz54 rfl rfl) rfl ?_ | refine op_v (v_indexIA Try.underlying51 sz54 rfl rfl) rfl ?_
    first | refine op_v (v_loadI0 ty54 ((hat k hlt).mono hI0) rfl rfl rfl) rfl ?_ | refine op_v (v_loadI ty54 ((hat k hlt).mono hI0) rfl rfl rfl) rfl ?_
    refine o_alloc z54 rfl rfl (fun b5 => ?_)
    refine o_store ty54 rfl rfl rfl rfl rfl (by repeat (first | exact Swap.here | apply Swap.there)) rfl ?_
    refine ops_nil ?_
    refine post_next ?_
    refine code_seq ?_
    refine code_seq ?_
    refine code_region ?_
    first | refine op_v (v_fieldB 0 Try.underlying54 rfl rfl fz3 rfl) rfl ?_ | refine op_v (v_fieldI 0 Try.underlying54 rfl rfl fz3 rfl (by assumption)) rfl ?_ | refine op_v (v_field Try.underlying54 rfl fz3 rfl rfl) rfl ?_
    refine op_v (v_loadA ty3 rfl rfl) rfl ?_
    refine op_v (v_move rfl) rfl ?_
    by_cases h15 : bs[k].1 ≤ last
    · first | refine op_v (v_cmptA rfl rfl rfl) rfl ?_ | refine op_v (v_cmpfA rfl rfl rfl) rfl ?_ | refine op_v (v_cmp rfl rfl rfl) rfl ?_
      refine op_v (v_move rfl) rfl ?_
      first
        | (refine op_want rfl rfl ?_
           first | refine op_v (v_fieldB 0 Try.underlying54 rfl rfl fz3 rfl) rfl ?_ | refine op_v (v_fieldI 0 Try.underlying54 rfl rfl fz3 rfl (by assumption)) rfl ?_ | refine op_v (v_field Try.underlying54 rfl fz3 rfl rfl) rfl ?_)
        | (refine op_skip rfl rfl (by simp [undef]) rfl ?_)
      first
        | (refine op_want rfl rfl ?_
           refine op_v (v_loadA ty3 rfl rfl) rfl ?_)
        | (refine op_skip rfl rfl (by simp [undef]) rfl ?_)
      first
        | (refine op_want rfl rfl ?_
           first | refine op_v (v_cmptA rfl rfl rfl) rfl ?_ | refine op_v (v_cmpfA rfl rfl rfl) rfl ?_ | refine op_v (v_cmp rfl rfl rfl) rfl ?_)
        | (refine op_skip rfl rfl (by simp [undef]) rfl ?_)
      first | refine op_v (v_pickt rfl rfl) rfl ?_ | refine op_v (v_pickf rfl rfl) rfl ?_ | refine op_v (v_pickb rfl rfl rfl) rfl ?_
      refine op_v (v_move rfl) rfl ?_
      first
        | (refine op_want rfl rfl ?_
           first | refine op_v (v_fieldB 1 Try.underlying54 rfl rfl fz47 rfl) rfl ?_ | refine op_v (v_fieldI 1 Try.underlying54 rfl rfl fz47 rfl (by assumption)) rfl ?_ | refine op_v (v_field Try.underlying54 rfl fz47 rfl rfl) rfl ?_)
        | (refine op_skip rfl rfl (by simp [undef]) rfl ?_)
      first
        | (refine op_want rfl rfl ?_
           refine op_v (v_loadA ty47 rfl rfl) rfl ?_)
        | (refine op_skip rfl rfl (by simp [undef]) rfl ?_)
      first
        | (refine op_want rfl rfl ?_
           refine op_call pl105 rfl rfl ((TCheck_does ((hsub k hlt).mono hI0) (hbig _ (List.getElem_mem _)))) Parts.none ?_
           rintro v24 I24 _ hI24 ⟨rfl, rfl⟩)
        | (refine op_skip rfl rfl (by simp [undef]) rfl ?_)
      first
        | (refine op_want rfl rfl ?_
           first | refine op_v (v_cmptA rfl rfl rfl) rfl ?_ | refine op_v (v_cmpfA rfl rfl rfl) rfl ?_ | refine op_v (v_cmp rfl rfl rfl) rfl ?_)
        | (refine op_skip rfl rfl (by simp [undef]) rfl ?_)
      first | refine op_v (v_pickt rfl rfl) rfl ?_ | refine op_v (v_pickf rfl rfl) rfl ?_ | refine op_v (v_pickb rfl rfl rfl) rfl ?_
      refine op_v (v_move rfl) rfl ?_
      first
        | (refine op_want rfl rfl ?_
           first | refine op_v (v_fieldB 1 Try.underlying54 rfl rfl fz47 rfl) rfl ?_ | refine op_v (v_fieldI 1 Try.underlying54 rfl rfl fz47 rfl (by assumption)) rfl ?_ | refine op_v (v_field Try.underlying54 rfl fz47 rfl rfl) rfl ?_)
        | (refine op_skip rfl rfl (by simp [undef]) rfl ?_)
      first
        | (refine op_want rfl rfl ?_
           first | refine op_v (v_fieldB 0 Try.underlying47 rfl rfl fz3 rfl) rfl ?_ | refine op_v (v_fieldI 0 Try.underlying47 rfl rfl fz3 rfl (by assumption)) rfl ?_ | refine op_v (v_field Try.underlying47 rfl fz3 rfl rfl) rfl ?_)
        | (refine op_skip rfl rfl (by simp [undef]) rfl ?_)
      first
        | (refine op_want rfl rfl ?_
           refine op_v (v_loadA ty3 rfl rfl) rfl ?_)
        | (refine op_skip rfl rfl (by simp [undef]) rfl ?_)
      first
        | (refine op_want rfl rfl ?_
           first | refine op_v (v_fieldB 0 Try.underlying54 rfl rfl fz3 rfl) rfl ?_ | refine op_v (v_fieldI 0 Try.underlying54 rfl rfl fz3 rfl (by assumption)) rfl ?_ | refine op_v (v_field Try.underlying54 rfl fz3 rfl rfl) rfl ?_)
        | (refine op_skip rfl rfl (by simp [undef]) rfl ?_)
      first
        | (refine op_want rfl rfl ?_
           refine op_v (v_loadA ty3 rfl rfl) rfl ?_)
        | (refine op_skip rfl rfl (by simp [undef]) rfl ?_)
      first
        | (refine op_want rfl rfl ?_
           first | refine op_v (v_subb rfl rfl rfl (by omega)) rfl ?_ | refine op_v (v_sub rfl rfl) rfl ?_)
        | (refine op_skip rfl rfl (by simp [undef]) rfl ?_)
      first
        | (refine op_want rfl rfl ?_
           first | refine op_v (v_cmptA rfl rfl rfl) rfl ?_ | refine op_v (v_cmpfA rfl rfl rfl) rfl ?_ | refine op_v (v_cmp rfl rfl rfl) rfl ?_)
        | (refine op_skip rfl rfl (by simp [undef]) rfl ?_)
      first | refine op_v (v_pickt rfl rfl) rfl ?_ | refine op_v (v_pickf rfl rfl) rfl ?_ | refine op_v (v_pickb rfl rfl rfl) rfl ?_
      refine ops_nil ?_
      refine post_next ?_
      refine code_cond_t rfl ?_
      refine code_seq ?_
      refine code_region ?_
      refine op_v (v_assign rfl) rfl ?_
      refine ops_nil ?_
      refine post_next ?_
      refine code_ret ?_
      refine post_ret_then ?_
      refine post_ret_block ?_
      refine post_ret_then ?_
      refine post_ret_then ?_
      refine post_ret_block ?_
      refine post_ret_then ?_
      refine post_ret (rs := [.tmp 2]) rfl (List.Perm.refl _) (.cons (.tmp rfl) .nil) (List.nil_sublist _) ?_
      exact ⟨⟨1, rfl, .inr ⟨rfl, fun h => by have := h k hlt; rw [← hlast] at this; simp [badBi, h15] at this⟩⟩, rfl⟩
    · first | refine op_v (v_cmptA rfl rfl rfl) rfl ?_ | refine op_v (v_cmpfA rfl rfl rfl) rfl ?_ | refine op_v (v_cmp rfl rfl rfl) rfl ?_
      refine op_v (v_move rfl) rfl ?_
      first
        | (refine op_want rfl rfl ?_
           first | refine op_v (v_fieldB 0 Try.underlying54 rfl rfl fz3 rfl) rfl ?_ | refine op_v (v_fieldI 0 Try.underlying54 rfl rfl fz3 rfl (by assumption)) rfl ?_ | refine op_v (v_field Try.underlying54 rfl fz3 rfl rfl) rfl ?_)
        | (refine op_skip rfl rfl (by simp [undef]) rfl ?_)
      first
        | (refine op_want rfl rfl ?_
           refine op_v (v_loadA ty3 rfl rfl) rfl ?_)
        | (refine op_skip rfl rfl (by simp [undef]) rfl ?_)
      by_cases h19 : 255 < bs[k].1
      · first
          | (refine op_want rfl rfl ?_
             first | refine op_v (v_cmptA rfl rfl rfl) rfl ?_ | refine op_v (v_cmpfA rfl rfl rfl) rfl ?_ | refine op_v (v_cmp rfl rfl rfl) rfl ?_)
          | (refine op_skip rfl rfl (by simp [undef]) rfl ?_)
        first | refine op_v (v_pickt rfl rfl) rfl ?_ | refine op_v (v_pickf rfl rfl) rfl ?_ | refine op_v (v_pickb rfl rfl rfl) rfl ?_
        refine op_v (v_move rfl) rfl ?_
        first
          | (refine op_want rfl rfl ?_
             first | refine op_v (v_fieldB 1 Try.underlying54 rfl rfl fz47 rfl) rfl ?_ | refine op_v (v_fieldI 1 Try.underlying54 rfl rfl fz47 rfl (by assumption)) rfl ?_ | refine op_v (v_field Try.underlying54 rfl fz47 rfl rfl) rfl ?_)
          | (refine op_skip rfl rfl (by simp [undef]) rfl ?_)
        first
          | (refine op_want rfl rfl ?_
             refine op_v (v_loadA ty47 rfl rfl) rfl ?_)
          | (refine op_skip rfl rfl (by simp [undef]) rfl ?_)
        first
          | (refine op_want rfl rfl ?_
             refine op_call pl105 rfl rfl ((TCheck_does ((hsub k hlt).mono hI0) (hbig _ (List.getElem_mem _)))) Parts.none ?_
             rintro v24 I24 _ hI24 ⟨rfl, rfl⟩)
          | (refine op_skip rfl rfl (by simp [undef]) rfl ?_)
        first
          | (refine op_want rfl rfl ?_
             first | refine op_v (v_cmptA rfl rfl rfl) rfl ?_ | refine op_v (v_cmpfA rfl rfl rfl) rfl ?_ | refine op_v (v_cmp rfl rfl rfl) rfl ?_)
          | (refine op_skip rfl rfl (by simp [undef]) rfl ?_)
        first | refine op_v (v_pickt rfl rfl) rfl ?_ | refine op_v (v_pickf rfl rfl) rfl ?_ | refine op_v (v_pickb rfl rfl rfl) rfl ?_
        refine op_v (v_move rfl) rfl ?_
        first
          | (refine op_want rfl rfl ?_
             first | refine op_v (v_fieldB 1 Try.underlying54 rfl rfl fz47 rfl) rfl ?_ | refine op_v (v_fieldI 1 Try.underlying54 rfl rfl fz47 rfl (by assumption)) rfl ?_ | refine op_v (v_field Try.underlying54 rfl fz47 rfl rfl) rfl ?_)
          | (refine op_skip rfl rfl (by simp [undef]) rfl ?_)
        first
          | (refine op_want rfl rfl ?_
             first | refine op_v (v_fieldB 0 Try.underlying47 rfl rfl fz3 rfl) rfl ?_ | refine op_v (v_fieldI 0 Try.underlying47 rfl rfl fz3 rfl (by assumption)) rfl ?_ | refine op_v (v_field Try.underlying47 rfl fz3 rfl rfl) rfl ?_)
          | (refine op_skip rfl rfl (by simp [undef]) rfl ?_)
        first
          | (refine op_want rfl rfl ?_
             refine op_v (v_loadA ty3 rfl rfl) rfl ?_)
          | (refine op_skip rfl rfl (by simp [undef]) rfl ?_)
        first
          | (refine op_want rfl rfl ?_
             first | refine op_v (v_fieldB 0 Try.underlying54 rfl rfl fz3 rfl) rfl ?_ | refine op_v (v_fieldI 0 Try.underlying54 rfl rfl fz3 rfl (by assumption)) rfl ?_ | refine op_v (v_field Try.underlying54 rfl fz3 rfl rfl) rfl ?_)
          | (refine op_skip rfl rfl (by simp [undef]) rfl ?_)
        first
          | (refine op_want rfl rfl ?_
             refine op_v (v_loadA ty3 rfl rfl) rfl ?_)
          | (refine op_skip rfl rfl (by simp [undef]) rfl ?_)
        first
          | (refine op_want rfl rfl ?_
             first | refine op_v (v_subb rfl rfl rfl (by omega)) rfl ?_ | refine op_v (v_sub rfl rfl) rfl ?_)
          | (refine op_skip rfl rfl (by simp [undef]) rfl ?_)
        first
          | (refine op_want rfl rfl ?_
             first | refine op_v (v_cmptA rfl rfl rfl) rfl ?_ | refine op_v (v_cmpfA rfl rfl rfl) rfl ?_ | refine op_v (v_cmp rfl rfl rfl) rfl ?_)
          | (refine op_skip rfl rfl (by simp [undef]) rfl ?_)
        first | refine op_v (v_pickt rfl rfl) rfl ?_ | refine op_v (v_pickf rfl rfl) rfl ?_ | refine op_v (v_pickb rfl rfl rfl) rfl ?_
        refine ops_nil ?_
        refine post_next ?_
        refine code_cond_t rfl ?_
        refine code_seq ?_
        refine code_region ?_
        refine op_v (v_assign rfl) rfl ?_
        refine ops_nil ?_
        refine post_next ?_
        refine code_ret ?_
        refine post_ret_then ?_
        refine post_ret_block ?_
        refine post_ret_then ?_
        refine post_ret_then ?_
        refine post_ret_block ?_
        refine post_ret_then ?_
        refine post_ret (rs := [.tmp 2]) rfl (List.Perm.refl _) (.cons (.tmp rfl) .nil) (List.nil_sublist _) ?_
        exact ⟨⟨1, rfl, .inr ⟨rfl, fun h => by have := h k hlt; rw [← hlast] at this; simp [badBi, h19] at this⟩⟩, rfl⟩
      · first
          | (refine op_want rfl rfl ?_
             first | refine op_v (v_cmptA rfl rfl rfl) rfl ?_ | refine op_v (v_cmpfA rfl rfl rfl) rfl ?_ | refine op_v (v_cmp rfl rfl rfl) rfl ?_)
          | (refine op_skip rfl rfl (by simp [undef]) rfl ?_)
        first | refine op_v (v_pickt rfl rfl) rfl ?_ | refine op_v (v_pickf rfl rfl) rfl ?_ | refine op_v (v_pickb rfl rfl rfl) rfl ?_
        refine op_v (v_move rfl) rfl ?_
        first
          | (refine op_want rfl rfl ?_
             first | refine op_v (v_fieldB 1 Try.underlying54 rfl rfl fz47 rfl) rfl ?_ | refine op_v (v_fieldI 1 Try.underlying54 rfl rfl fz47 rfl (by assumption)) rfl ?_ | refine op_v (v_field Try.underlying54 rfl fz47 rfl rfl) rfl ?_)
          | (refine op_skip rfl rfl (by simp [undef]) rfl ?_)
        first
          | (refine op_want rfl rfl ?_
             refine op_v (v_loadA ty47 rfl rfl) rfl ?_)
          | (refine op_skip rfl rfl (by simp [undef]) rfl ?_)
        first
          | (refine op_want rfl rfl ?_
             refine op_call pl105 rfl rfl ((TCheck_does ((hsub k hlt).mono hI0) (hbig _ (List.getElem_mem _)))) Parts.none ?_
             rintro v24 I24 _ hI24 ⟨rfl, rfl⟩)
          | (refine op_skip rfl rfl (by simp [undef]) rfl ?_)
        by_cases h25 : chkT bs[k].2 ≠ 0
        · first
            | (refine op_want rfl rfl ?_
               first | refine op_v (v_cmptA rfl rfl rfl) rfl ?_ | refine op_v (v_cmpfA rfl rfl rfl) rfl ?_ | refine op_v (v_cmp rfl rfl rfl) rfl ?_)
            | (refine op_skip rfl rfl (by simp [undef]) rfl ?_)
          first | refine op_v (v_pickt rfl rfl) rfl ?_ | refine op_v (v_pickf rfl rfl) rfl ?_ | refine op_v (v_pickb rfl rfl rfl) rfl ?_
          refine op_v (v_move rfl) rfl ?_
          first
            | (refine op_want rfl rfl ?_
               first | refine op_v (v_fieldB 1 Try.underlying54 rfl rfl fz47 rfl) rfl ?_ | refine op_v (v_fieldI 1 Try.underlying54 rfl rfl fz47 rfl (by assumption)) rfl ?_ | refine op_v (v_field Try.underlying54 rfl fz47 rfl rfl) rfl ?_)
            | (refine op_skip rfl rfl (by simp [undef]) rfl ?_)
          first
            | (refine op_want rfl rfl ?_
               first | refine op_v (v_fieldB 0 Try.underlying47 rfl rfl fz3 rfl) rfl ?_ | refine op_v (v_fieldI 0 Try.underlying47 rfl rfl fz3 rfl (by assumption)) rfl ?_ | refine op_v (v_field Try.underlying47 rfl fz3 rfl rfl) rfl ?_)
            | (refine op_skip rfl rfl (by simp [undef]) rfl ?_)
          first
            | (refine op_want rfl rfl ?_
               refine op_v (v_loadA ty3 rfl rfl) rfl ?_)
            | (refine op_skip rfl rfl (by simp [undef]) rfl ?_)
          first
            | (refine op_want rfl rfl ?_
               first | refine op_v (v_fieldB 0 Try.underlying54 rfl rfl fz3 rfl) rfl ?_ | refine op_v (v_fieldI 0 Try.underlying54 rfl rfl fz3 rfl (by assumption)) rfl ?_ | refine op_v (v_field Try.underlying54 rfl fz3 rfl rfl) rfl ?_)
            | (refine op_skip rfl rfl (by simp [undef]) rfl ?_)
          first
            | (refine op_want rfl rfl ?_
               refine op_v (v_loadA ty3 rfl rfl) rfl ?_)
            | (refine op_skip rfl rfl (by simp [undef]) rfl ?_)
          first
            | (refine op_want rfl rfl ?_
               first | refine op_v (v_subb rfl rfl rfl (by omega)) rfl ?_ | refine op_v (v_sub rfl rfl) rfl ?_)
            | (refine op_skip rfl rfl (by simp [undef]) rfl ?_)
          first
            | (refine op_want rfl rfl ?_
               first | refine op_v (v_cmptA rfl rfl rfl) rfl ?_ | refine op_v (v_cmpfA rfl rfl rfl) rfl ?_ | refine op_v (v_cmp rfl rfl rfl) rfl ?_)
            | (refine op_skip rfl rfl (by simp [undef]) rfl ?_)
          first | refine op_v (v_pickt rfl rfl) rfl ?_ | refine op_v (v_pickf rfl rfl) rfl ?_ | refine op_v (v_pickb rfl rfl rfl) rfl ?_
          refine ops_nil ?_
          refine post_next ?_
          refine code_cond_t rfl ?_
          refine code_seq ?_
          refine code_region ?_
          refine op_v (v_assign rfl) rfl ?_
          refine ops_nil ?_
          refine post_next ?_
          refine code_ret ?_
          refine post_ret_then ?_
          refine post_ret_block ?_
          refine post_ret_then ?_
          refine post_ret_then ?_
          refine post_ret_block ?_
          refine post_ret_then ?_
          refine post_ret (rs := [.tmp 2]) rfl (List.Perm.refl _) (.cons (.tmp rfl) .nil) (List.nil_sublist _) ?_
          exact ⟨⟨1, rfl, .inr ⟨rfl, fun h => by have := h k hlt; rw [← hlast] at this; simp [badBi, h25] at this⟩⟩, rfl⟩
        · first
            | (refine op_want rfl rfl ?_
               first | refine op_v (v_cmptA rfl rfl rfl) rfl ?_ | refine op_v (v_cmpfA rfl rfl rfl) rfl ?_ | refine op_v (v_cmp rfl rfl rfl) rfl ?_)
            | (refine op_skip rfl rfl (by simp [undef]) rfl ?_)
          first | refine op_v (v_pickt rfl rfl) rfl ?_ | refine op_v (v_pickf rfl rfl) rfl ?_ | refine op_v (v_pickb rfl rfl rfl) rfl ?_
          refine op_v (v_move rfl) rfl ?_
          first
            | (refine op_want rfl rfl ?_
               first | refine op_v (v_fieldB 1 Try.underlying54 rfl rfl fz47 rfl) rfl ?_ | refine op_v (v_fieldI 1 Try.underlying54 rfl rfl fz47 rfl (by assumption)) rfl ?_ | refine op_v (v_field Try.underlying54 rfl fz47 rfl rfl) rfl ?_)
            | (refine op_skip rfl rfl (by simp [undef]) rfl ?_)
          first
            | (refine op_want rfl rfl ?_
               first | refine op_v (v_fieldB 0 Try.underlying47 rfl rfl fz3 rfl) rfl ?_ | refine op_v (v_fieldI 0 Try.underlying47 rfl rfl fz3 rfl (by assumption)) rfl ?_ | refine op_v (v_field Try.underlying47 rfl fz3 rfl rfl) rfl ?_)
            | (refine op_skip rfl rfl (by simp [undef]) rfl ?_)
          first
            | (refine op_want rfl rfl ?_
               refine op_v (v_loadA ty3 rfl rfl) rfl ?_)
            | (refine op_skip rfl rfl (by simp [undef]) rfl ?_)
          first
            | (refine op_want rfl rfl ?_
               first | refine op_v (v_fieldB 0 Try.underlying54 rfl rfl fz3 rfl) rfl ?_ | refine op_v (v_fieldI 0 Try.underlying54 rfl rfl fz3 rfl (by assumption)) rfl ?_ | refine op_v (v_field Try.underlying54 rfl fz3 rfl rfl) rfl ?_)
            | (refine op_skip rfl rfl (by simp [undef]) rfl ?_)
          first
            | (refine op_want rfl rfl ?_
               refine op_v (v_loadA ty3 rfl rfl) rfl ?_)
            | (refine op_skip rfl rfl (by simp [undef]) rfl ?_)
          first
            | (refine op_want rfl rfl ?_
               first | refine op_v (v_subb rfl rfl rfl (by omega)) rfl ?_ | refine op_v (v_sub rfl rfl) rfl ?_)
            | (refine op_skip rfl rfl (by simp [undef]) rfl ?_)
          by_cases h34 : bs[k].2.head = -1 - bs[k].1
          · first
              | (refine op_want rfl rfl ?_
                 first | refine op_v (v_cmptA rfl rfl rfl) rfl ?_ | refine op_v (v_cmpfA rfl rfl rfl) rfl ?_ | refine op_v (v_cmp rfl rfl rfl) rfl ?_)
              | (refine op_skip rfl rfl (by simp [undef]) rfl ?_)
            first | refine op_v (v_pickt rfl rfl) rfl ?_ | refine op_v (v_pickf rfl rfl) rfl ?_ | refine op_v (v_pickb rfl rfl rfl) rfl ?_
            refine ops_nil ?_
            refine post_next ?_
            refine code_cond_t rfl ?_
            refine code_seq ?_
            refine code_region ?_
            refine op_v (v_assign rfl) rfl ?_
            refine ops_nil ?_
            refine post_next ?_
            refine code_ret ?_
            refine post_ret_then ?_
            refine post_ret_block ?_
            refine post_ret_then ?_
            refine post_ret_then ?_
            refine post_ret_block ?_
            refine post_ret_then ?_
            refine post_ret (rs := [.tmp 2]) rfl (List.Perm.refl _) (.cons (.tmp rfl) .nil) (List.nil_sublist _) ?_
            exact ⟨⟨1, rfl, .inr ⟨rfl, fun h => by have := h k hlt; rw [← hlast] at this; simp [badBi, h34] at this⟩⟩, rfl⟩
          · first
              | (refine op_want rfl rfl ?_
                 first | refine op_v (v_cmptA rfl rfl rfl) rfl ?_ | refine op_v (v_cmpfA rfl rfl rfl) rfl ?_ | refine op_v (v_cmp rfl rfl rfl) rfl ?_)
              | (refine op_skip rfl rfl (by simp [undef]) rfl ?_)
            first | refine op_v (v_pickt rfl rfl) rfl ?_ | refine op_v (v_pickf rfl rfl) rfl ?_ | refine op_v (v_pickb rfl rfl rfl) rfl ?_
            refine ops_nil ?_
            refine post_next ?_
            refine code_cond_f rfl ?_
            refine code_skip ?_
            refine post_next ?_
            refine code_region ?_
            first | refine op_v (v_fieldB 0 Try.underlying54 rfl rfl fz3 rfl) rfl ?_ | refine op_v (v_fieldI 0 Try.underlying54 rfl rfl fz3 rfl (by assumption)) rfl ?_ | refine op_v (v_field Try.underlying54 rfl fz3 rfl rfl) rfl ?_
            refine op_v (v_loadA ty3 rfl rfl) rfl ?_
            refine op_v (v_assign rfl) rfl ?_
            refine ops_nil ?_
            refine post_out ?_
            refine post_next ?_
            refine code_region ?_
            first | refine op_v (v_addb rfl rfl rfl (by omega)) rfl ?_ | refine op_v (v_add rfl rfl) rfl ?_
            refine op_v (v_move rfl) rfl ?_
            refine ops_nil ?_
            refine PostJ.view (View.drop Del.here) ?_
            refine post_again (bs.length - (k + 1)) [(3, .int .i64 bs[k].1), (6, .slice ad bs.length c), (7, .int .i64 bs.length), (8, .int .i64 (k + 1 : Nat))] (by omega) ⟨k + 1, bs[k].1, rfl, hlt, rfl, Imm.leA, rfl, by simp [List.getElem?_eq_getElem hlt], ?_⟩ ⟨rfl, rfl, rfl, rfl, trivial⟩
            intro i h hi
            rcases Nat.lt_or_ge i k with hik | hik
            · exact hp i h hik
            have hik2 : i = k := by omega
            subst hik2
            rw [← hlast]
            simp [badBi, h25, h34]
            omega
  · have hge : k = bs.length := by simp at hc0; omega
    refine code_exit ?_
    refine post_exit_then ?_
    refine post_exit_then ?_
    refine post_exit ?_
    refine post_next ?_
    refine code_seq ?_
    refine code_region ?_
    refine op_v (v_assign rfl) rfl ?_
    refine ops_nil ?_
    refine post_next ?_
    refine code_ret ?_
    refine post_ret (rs := [.tmp 2]) rfl (List.Perm.refl _) (.cons (.tmp rfl) .nil) (List.nil_sublist _) ?_
    exact ⟨⟨0, rfl, .inl ⟨rfl, fun i h => hp i h (by omega)⟩⟩, rfl⟩
theorem end_does {I : Imm} {v : Value} {t : T} (hv : RepT I v t) (hbig : t.size ≤ 1000000000) :
    Does Try.prog 143 [v] I [] (fun v I' δ' => (∃ u, v = .tuple #[u, .int .i64 (chkT t)] ∧ RepT I' u (if chkT t = 0 then t else zeroT)) ∧ δ' = []) := by
  obtain ⟨a0, c0, rfl, hr0⟩ := hv.shape
  refine Does.intro Try.func143 rfl Try.ntmps143 rfl fun w0 => ?_
  refine code_seq ?_
  refine code_region ?_
  refine o_box rfl rfl rfl (fun b1 => ?_)
  refine o_alloc z47 rfl rfl (fun b2 => ?_)
  refine op_v (v_assign rfl) rfl ?_
  refine ops_nil ?_
  refine post_next ?_
  refine code_seq ?_
  refine code_seq ?_
  refine code_region ?_
  refine op_v (v_loadA ty47 rfl rfl) rfl ?_
  refine op_call pl105 rfl rfl ((TCheck_does hv hbig)) Parts.none ?_
  rintro v6 I6 _ hI6 ⟨rfl, rfl⟩
  refine op_v (v_assign rfl) rfl ?_
  refine ops_nil ?_
  refine post_next ?_
  refine code_seq ?_
  refine code_region ?_
  refine op_v (v_move rfl) rfl ?_
  by_cases h8 : chkT t ≠ 0
  · first | refine op_v (v_cmptA rfl rfl rfl) rfl ?_ | refine op_v (v_cmpfA rfl rfl rfl) rfl ?_ | refine op_v (v_cmp rfl rfl rfl) rfl ?_
    refine ops_nil ?_
    refine post_next ?_
    refine code_cond_t rfl ?_
    refine code_seq ?_
    refine code_region ?_
    refine op_v (v_build bl47 rfl rfl) rfl ?_
    refine op_v (v_move rfl) rfl ?_
    refine o_store ty47 rfl rfl rfl rfl rfl (by repeat (first | exact Swap.here | apply Swap.there)) rfl ?_
    refine op_v (v_assign rfl) rfl ?_
    refine ops_nil ?_
    refine post_next ?_
    refine code_ret ?_
    refine post_ret_then ?_
    refine post_ret (rs := [.cell 2 47, .tmp 3]) rfl (List.Perm.refl _) (.cons (.cell rfl ty47 (by repeat (first | exact Has.here | apply Has.there)) rfl) (.cons (.tmp rfl) .nil)) (List.nil_sublist _) ?_
    exact ⟨⟨_, rfl, by rw [if_neg h8]; exact zeroT_rep _⟩, rfl⟩
  · first | refine op_v (v_cmptA rfl rfl rfl) rfl ?_ | refine op_v (v_cmpfA rfl rfl rfl) rfl ?_ | refine op_v (v_cmp rfl rfl rfl) rfl ?_
    refine ops_nil ?_
    refine post_next ?_
    refine code_cond_f rfl ?_
    refine code_skip ?_
    refine post_next ?_
    refine code_seq ?_
    refine code_region ?_
    refine op_v (v_loadA ty47 rfl rfl) rfl ?_
    refine o_store ty47 rfl rfl rfl rfl rfl (by repeat (first | exact Swap.here | apply Swap.there)) rfl ?_
    refine op_v (v_assign rfl) rfl ?_
    refine ops_nil ?_
    refine post_next ?_
    refine code_ret ?_
    refine post_ret (rs := [.cell 2 47, .tmp 3]) rfl (List.Perm.refl _) (.cons (.cell rfl ty47 (by repeat (first | exact Has.here | apply Has.there)) rfl) (.cons (.tmp rfl) .nil)) (List.nil_sublist _) ?_
    have h8' : chkT t = 0 := by simpa using h8
    exact ⟨⟨_, by rw [h8']; rfl, by rw [if_pos h8']; exact hv.mono hI6⟩, rfl⟩
end Go.Proofs.Ytdbadicpbmndbaa
/- Walks: a term's parts, how often heads stand in it. -/
set_option linter.unusedVariables false
set_option linter.unusedSimpArgs false
/- short -/
namespace Go.Proofs.Ytdbadicpbmndbaa
open Go Lg

mutual
def visT : Bool → T → List (Bool × T)
  | b, .mk h us => (b, .mk h us) :: visL us
def visL : List T → List (Bool × T)
  | [] => []
  | t :: r => visT false t ++ visL r
end
mutual
theorem visT_length : ∀ (b : Bool) (t : T), (visT b t).length = t.size
  | b, .mk h us => by simp [visT, T.size, visL_length us]; omega
theorem visL_length : ∀ ts : List T, (visL ts).length = sizeL ts
  | [] => rfl
  | t :: r => by simp [visL, sizeL, visT_length false t, visL_length r]
end
theorem visT_eq (b : Bool) (t : T) : visT b t = (b, t) :: visL t.args := by cases t; rfl
theorem visL_app : ∀ a b : List T, visL (a ++ b) = visL a ++ visL b
  | [], b => rfl
  | t :: r, b => by simp [visL, visL_app r b]
theorem visL_take (l : List T) (k : Nat) (h : k < l.length) : visL (l.take (k + 1)) = visL (l.take k) ++ visT false l[k] := by
  rw [List.take_succ_eq_append_getElem h, visL_app]; simp [visL]

theorem gwalk_does {see : Value} (J : List (Bool × T) → Imm → List Ent → Prop) (hm : ∀ l I1 I2 δ, I1.le I2 → J l I1 δ → J l I2 δ)
    (hsee : ∀ pre x I v δ, pre.length ≤ 1000000000 → RepT I v x.2 → J pre I δ → FDoes Try.prog see [v, .bool x.1] I δ (fun _ I' δ' => J (pre ++ [x]) I' δ')) :
    ∀ (n : Nat) (t : T), t.size ≤ n → ∀ (top : Bool) (pre : List (Bool × T)) (I : Imm) (v : Value) (δ : List Ent), pre.length + t.size ≤ 1000000000 → RepT I v t → J pre I δ →
      Does Try.prog 178 [v, .bool top, see] I δ (fun _ I' δ' => J (pre ++ visT top t) I' δ') := by
  intro n
  induction n with
  | zero => intro t h; have := t.size_pos; omega
  | succ n ih =>
    intro t hn top pre I v δ hbig hv hJ
    obtain ⟨a0, c0, rfl, hr0⟩ := hv.shape
    obtain ⟨_, _, _, hc, hb, ss, hat, hsub⟩ := hv.open
    have hsz := size_eqT t
    have hb0 : J (pre ++ visT top t) I δ → True := fun _ => trivial
    refine Does.intro Try.func178 rfl Try.ntmps178 rfl fun w0 => ?_
    refine code_seq ?_
    refine code_region ?_
    refine o_box rfl rfl rfl (fun b3 => ?_)
    refine ops_nil ?_
    refine post_next ?_
    refine code_seq ?_
    refine code_region ?_
    refine op_v (v_move rfl) rfl ?_
    refine op_v (v_loadA ty47 rfl rfl) rfl ?_
    refine op_v (v_move rfl) rfl ?_
    refine op_fcall rfl rfl rfl ((hsee pre (top, t) _ _ _ (by omega) hv hJ)) (List.perm_append_comm (l₁ := [_])) ?_
    rintro v11 I11 δ11 hI11 hJ11
    refine OpsJ.view (View.perm (List.perm_append_comm (l₂ := [_]))) ?_
    refine ops_nil ?_
    refine post_next ?_
    refine code_seq ?_
    refine code_region ?_
    first | refine op_v (v_fieldB 1 Try.underlying47 rfl rfl fz45 rfl) rfl ?_ | refine op_v (v_fieldI 1 Try.underlying47 rfl rfl fz45 rfl (by assumption)) rfl ?_ | refine op_v (v_field Try.underlying47 rfl fz45 rfl rfl) rfl ?_
    refine op_v (v_loadA ty45 rfl rfl) rfl ?_
    refine op_v (v_len Try.underlying45 rfl) rfl ?_
    refine op_v (v_move rfl) rfl ?_
    refine ops_nil ?_
    refine post_next ?_
    refine code_block ?_
    refine code_loop (fun m σ' I' δ' => ∃ (k : Nat) (δJ : List Ent), m = t.args.length - k ∧ k ≤ t.args.length ∧ σ' = [(2, see), (13, .slice a0 t.args.length c0), (14, .int .i64 t.args.length), (15, .int .i64 k)] ∧ I.le I' ∧ δ' = .box b3 47 [.int .i64 t.head, .slice a0 t.args.length c0] :: δJ ∧ J (pre ++ (top, t) :: visL (t.args.take k)) I' δJ) t.args.length [(2, see), (13, .slice a0 t.args.length c0), (14, .int .i64 t.args.length), (15, .int .i64 (0 : Nat))] ⟨0, δ11, rfl, Nat.zero_le _, rfl, hI11, rfl, hJ11⟩ ⟨rfl, rfl, rfl, rfl, trivial⟩ ?_
    rintro m _ I0 _ ⟨k, δJ, rfl, hk, rfl, hI0, rfl, hJ0⟩
    refine code_seq ?_
    refine code_region ?_
    first | refine op_v (v_cmptA rfl rfl rfl) rfl ?_ | refine op_v (v_cmpfA rfl rfl rfl) rfl ?_ | refine op_v (v_cmp rfl rfl rfl) rfl ?_
    refine ops_nil ?_
    refine post_next ?_
    refine code_seq ?_
    refine code_cond rfl (fun hc0 => ?_) (fun hc0 => ?_)
    · have hlt : k < t.args.length := by simpa using hc0
      have hs1 := (hat k hlt).isSome
      have hks := sizeL_mem t.args k hlt
      have hlen : (pre ++ (top, t) :: visL (t.args.take k)).length + t.args[k].size ≤ 1000000000 := by
        have h1 := congrArg List.length (visL_take t.args k hlt)
        have h2 : sizeL (t.args.take (k + 1)) ≤ sizeL t.args := by
          have h3 := congrArg List.length (visL_app (t.args.take (k + 1)) (t.args.drop (k + 1)))
          rw [List.take_append_drop, List.length_append, visL_length, visL_length, visL_length] at h3
          omega
        rw [List.length_append, visL_length, visL_length, visT_length] at h1
        rw [List.length_append, List.length_cons, visL_length]
        omega
      refine code_skip ?_
      refine post_next ?_
      refine code_seq ?_
      refine code_block ?_
      refine code_seq ?_
      refine code_region ?_
      first | refine op_v (v_indexA Try.underlying45 sz47 rfl rfl) rfl ?_ | refine op_v (v_indexIA Try.underlying45 sz47 rfl rfl) rfl ?_
      first | refine op_v (v_loadI0 ty47 ((hat k hlt).mono hI0) rfl rfl rfl) rfl ?_ | refine op_v (v_loadI ty47 ((hat k hlt).mono hI0) rfl rfl rfl) rfl ?_
      refine o_alloc z47 rfl rfl (fun b7 => ?_)
      refine o_store ty47 rfl rfl rfl rfl rfl (by repeat (first | exact Swap.here | apply Swap.there)) rfl ?_
      refine ops_nil ?_
      refine post_next ?_
      refine code_region ?_
      refine op_v (v_loadA ty47 rfl rfl) rfl ?_
      refine op_v (v_move rfl) rfl ?_
      refine op_call pl178 rfl rfl ((ih t.args[k] (by omega) false _ _ _ _ hlen ((hsub k hlt).mono hI0) hJ0)) (List.perm_append_comm (l₁ := [_, _])) ?_
      rintro v21 I21 δ21 hI21 hJ21
      refine OpsJ.view (View.perm (List.perm_append_comm (l₂ := [_, _]))) ?_
      rw [List.append_assoc, List.cons_append, ← visL_take t.args k hlt] at hJ21
      refine ops_nil ?_
      refine post_out ?_
      refine post_next ?_
      refine code_region ?_
      first | refine op_v (v_addb rfl rfl rfl (by omega)) rfl ?_ | refine op_v (v_add rfl rfl) rfl ?_
      refine op_v (v_move rfl) rfl ?_
      refine ops_nil ?_
      refine PostJ.view (View.drop Del.here) ?_
      refine post_again (t.args.length - (k + 1)) [(2, see), (13, .slice a0 t.args.length c0), (14, .int .i64 t.args.length), (15, .int .i64 (k + 1 : Nat))] (by omega) ⟨k + 1, δ21, rfl, hlt, rfl, Imm.le_trans hI0 hI21, rfl, hJ21⟩ ⟨rfl, rfl, rfl, rfl, trivial⟩
    · have hge : k = t.args.length := by simp at hc0; omega
      refine code_exit ?_
      refine post_exit_then ?_
      refine post_exit_then ?_
      refine post_exit ?_
      rw [hge, List.take_length, ← visT_eq] at hJ0
      exact post_end (rs := []) rfl (List.Perm.refl _) .nil (List.sublist_cons_self _ _) hJ0

/-! ### heads -/
def ivl : Value → Int
  | .int _ n => n
  | _ => 0
def cval (m : Mp) (k : Int) : Int := ivl ((mget m k).getD (.int .i64 0))
def cntM (l : List Int) : Mp := l.foldl (fun m h => mput m h (.int .i64 (cval m h + 1))) []
theorem cntM_snoc (l : List Int) (h : Int) : cntM (l ++ [h]) = mput (cntM l) h (.int .i64 (cval (cntM l) h + 1)) := by simp [cntM]
theorem snoc_ind {α : Type} {P : List α → Prop} (h0 : P []) (h1 : ∀ l x, P l → P (l ++ [x])) (l : List α) : P l := by
  have : ∀ m : List α, P m.reverse := fun m => by
    induction m with
    | nil => exact h0
    | cons x m ih => rw [List.reverse_cons]; exact h1 _ _ ih
  simpa using this l.reverse
theorem cntM_get (l : List Int) : ∀ k, mget (cntM l) k = if l.count k = 0 then none else some (.int .i64 (l.count k)) := by
  induction l using snoc_ind with
  | h0 => intro k; rfl
  | h1 l x ih =>
    intro k
    rw [cntM_snoc, mget_mput]
    have hx : cval (cntM l) x = l.count x := by
      unfold cval
      rw [ih x]
      split
      · rename_i h; simp [h, ivl]
      · simp [ivl]
    by_cases h : x = k
    · subst h
      rw [if_pos rfl, hx]
      simp [List.count_append]
    · rw [if_neg h, ih k]
      have : (l ++ [x]).count k = l.count k := by simp [List.count_append, List.count_singleton, h]
      rw [this]
theorem cval_cnt (l : List Int) (k : Int) : cval (cntM l) k = l.count k := by
  unfold cval
  rw [cntM_get]
  split
  · rename_i h; simp [h, ivl]
  · simp [ivl]
theorem cval_val (l : List Int) (k : Int) : (mget (cntM l) k).getD (.int .i64 0) = .int .i64 (l.count k) := by
  rw [cntM_get]
  split
  · rename_i h; simp [h]
  · simp
theorem cntM_nodup (l : List Int) : ((cntM l).map (·.1)).Nodup := by
  induction l using snoc_ind with
  | h0 => simp [cntM]
  | h1 l x ih => rw [cntM_snoc]; exact mput_nodup ih
theorem cntM_mem {l : List Int} {p : Int × Value} (h : p ∈ cntM l) : p.2 = .int .i64 (l.count p.1) ∧ 0 < l.count p.1 := by
  have := (mget_mem (cntM_nodup l) (k := p.1) (v := p.2)).1 h
  rw [cntM_get] at this
  split at this
  · cases this
  · rename_i h0; exact ⟨(Option.some.inj this).symm, by omega⟩
def sumM (w : Int → Int) (m : Mp) : Int := (m.map fun p => w p.1 * ivl p.2).sum
theorem sumM_put (w : Int → Int) (m : Mp) (k : Int) : sumM w (mput m k (.int .i64 (cval m k + 1))) = sumM w m + w k := by
  induction m with
  | nil => simp [mput, sumM, cval, mget, ivl]
  | cons p r ih =>
    obtain ⟨k', z⟩ := p
    by_cases h : k' = k
    · subst h
      simp only [mput, if_true, sumM, List.map_cons, List.sum_cons, cval, mget, Option.getD_some, ivl]
      rw [Int.mul_add, Int.mul_one]; omega
    · have hc : cval ((k', z) :: r) k = cval r k := by simp [cval, mget, h]
      simp only [mput, if_neg h, sumM, List.map_cons, List.sum_cons, hc]
      have := ih
      unfold sumM at this
      rw [this]; omega
theorem sumM_cnt (w : Int → Int) (l : List Int) : sumM w (cntM l) = (l.map w).sum := by
  induction l using snoc_ind with
  | h0 => rfl
  | h1 l x ih => rw [cntM_snoc, sumM_put, ih]; simp
theorem sumM_mid (w : Int → Int) (l q : Mp) (k : Int) (v : Value) : sumM w (l ++ (k, v) :: q) = sumM w (l ++ q) + w k * ivl v := by
  simp [sumM]; omega

theorem heads1_does {I : Imm} {b3 m : Nat} {l : List Int} {v : Value} {t : T} {x : Bool} (hv : RepT I v t) (hl : l.length ≤ 1000000000) :
    Does Try.prog 185 [v, .bool x, .pointer (some ⟨b3, 0, none⟩)] I [.box b3 139 [.map (some m)], .map m (cntM l)] (fun _ _ δ' => δ' = [.box b3 139 [.map (some m)], .map m (cntM (l ++ [t.head]))]) := by
  obtain ⟨a0, c0, rfl, hr0⟩ := hv.shape
  have hcl : l.count t.head ≤ l.length := List.count_le_length
  refine Does.intro Try.func185 rfl Try.ntmps185 rfl fun w0 => ?_
  refine code_seq ?_
  refine code_region ?_
  refine o_box rfl rfl rfl (fun b3 => ?_)
  refine ops_nil ?_
  refine post_next ?_
  refine code_region ?_
  refine op_v (v_loadA ty139 rfl rfl) rfl ?_
  first | refine op_v (v_fieldB 0 Try.underlying47 rfl rfl fz3 rfl) rfl ?_ | refine op_v (v_fieldI 0 Try.underlying47 rfl rfl fz3 rfl (by assumption)) rfl ?_ | refine op_v (v_field Try.underlying47 rfl fz3 rfl rfl) rfl ?_
  refine op_v (v_loadA ty3 rfl rfl) rfl ?_
  refine op_v (v_mlook Try.underlying139 Try.underlying3 z3 rfl rfl (Has.there (Has.there Has.here)) (cval_val l t.head)) rfl ?_
  first | refine op_v (v_addb rfl rfl rfl (by omega)) rfl ?_ | refine op_v (v_add rfl rfl) rfl ?_
  refine o_mapUpdate Try.underlying139 Try.underlying3 rfl rfl rfl rfl (by repeat (first | exact Swap.here | apply Swap.there)) ?_
  refine ops_nil ?_
  exact post_end (rs := []) rfl (List.Perm.refl _) .nil (List.sublist_cons_self _ _) (by rw [cntM_snoc, cval_cnt])
def hds (t : T) : List Int := (visT true t).map (·.2.head)
theorem hds_length (t : T) : (hds t).length = t.size := by simp [hds, visT_length]
theorem heads_does {I : Imm} {v : Value} {t : T} (hv : RepT I v t) (hbig : t.size ≤ 1000000000) :
    Does Try.prog 182 [v] I [] (fun v _ δ' => ∃ b, v = .map (some b) ∧ δ' = [.map b (cntM (hds t))]) := by
  obtain ⟨a0, c0, rfl, hr0⟩ := hv.shape
  refine Does.intro Try.func182 rfl Try.ntmps182 rfl fun w0 => ?_
  refine code_seq ?_
  refine code_region ?_
  refine o_box rfl rfl rfl (fun b1 => ?_)
  refine op_v (v_assign rfl) rfl ?_
  refine ops_nil ?_
  refine post_next ?_
  refine code_seq ?_
  refine code_region ?_
  refine o_makeMap rfl (fun b4 => ?_)
  refine o_alloc z139 rfl rfl (fun b3 => ?_)
  refine o_store ty139 rfl rfl rfl rfl rfl (by repeat (first | exact Swap.here | apply Swap.there)) rfl ?_
  refine ops_nil ?_
  refine post_next ?_
  refine code_seq ?_
  refine code_region ?_
  refine op_v (v_loadA ty47 rfl rfl) rfl ?_
  refine op_v (v_makeFunc rfl rfl) rfl ?_
  refine op_call pl178 rfl rfl ((gwalk_does (fun l _ δ' => δ' = [.box b3 139 [.map (some b4)], .map b4 (cntM (l.map (·.2.head)))]) (fun l _ _ δ _ h => h) (fun pre x J v δ hp hxv hd => by subst hd; refine FDoes.ofFunc (caps := [_]) pl185 ((heads1_does hxv (by rw [List.length_map]; exact hp)).mono fun _ _ _ _ h => ?_); rw [h, List.map_append]; rfl) t.size t (Nat.le_refl _) true [] _ _ _ (by simpa using hbig) hv rfl)) (List.Perm.refl _) ?_
  rintro v7 I7 _ hI7 rfl
  refine ops_nil ?_
  refine post_next ?_
  refine code_seq ?_
  refine code_region ?_
  refine op_v (v_loadA ty139 rfl rfl) rfl ?_
  refine op_v (v_assign rfl) rfl ?_
  refine ops_nil ?_
  refine post_next ?_
  refine code_ret ?_
  refine post_ret (rs := [.tmp 2]) rfl (List.Perm.refl _) (.cons (.tmp rfl) .nil) (List.Sublist.cons _ (List.Sublist.cons_cons _ (List.nil_sublist _))) ?_
  exact ⟨b4, rfl, rfl⟩
end Go.Proofs.Ytdbadicpbmndbaa
/- Walks: whether a term is one of a signature. -/
set_option linter.unusedVariables false
set_option linter.unusedSimpArgs false
/- short -/
namespace Go.Proofs.Ytdbadicpbmndbaa
open Go Lg

def arG (gs : List Sy) (h : Int) : Int := (gs[h.toNat]?.map Sy.ar).getD 0
def trG (gs : List Sy) (h : Int) : Bool := (gs[h.toNat]?.map Sy.tr).getD false
def unkB (gs : List Sy) (x : Bool × T) : Bool := decide (0 ≤ x.2.head) && (decide ((gs.length : Int) ≤ x.2.head) || decide ((x.2.args.length : Int) ≠ arG gs x.2.head))
def mixB (gs : List Sy) (x : Bool × T) : Bool := decide (0 ≤ x.2.head) && (!(unkB gs x) && (trG gs x.2.head && !x.1))
def SeeG (gs : List Sy) (b8 b7 b3 b2 : Nat) (cs gc : List Value) (l : List (Bool × T)) : List Ent :=
  [.box b8 4 [.bool (l.any (mixB gs))], .box b7 4 [.bool (l.any (unkB gs))], .box b3 47 cs, .box b2 22 gc]
theorem any_snoc {α : Type} (p : α → Bool) (l : List α) (x : α) : (l ++ [x]).any p = (l.any p || p x) := by simp
theorem arG_at {gs : List Sy} {h : Int} (h0 : 0 ≤ h) (hl : h < gs.length) : arG gs h = (gs[h.toNat]'(by omega)).ar := by
  have : h.toNat < gs.length := by omega
  simp [arG, this]
theorem trG_at {gs : List Sy} {h : Int} (h0 : 0 ≤ h) (hl : h < gs.length) : trG gs h = (gs[h.toNat]'(by omega)).tr := by
  have : h.toNat < gs.length := by omega
  simp [trG, this]

theorem Term1_does {I : Imm} {gs : List Sy} {b8 b7 b3 b2 c : Nat} {ad : Option Addr} {cs : List Value} {pre : List (Bool × T)} {v : Value} {x : Bool × T} (hv : RepT I v x.2) (hg : RepG I (.slice ad gs.length c) gs) :
    Does Try.prog 179 [v, .bool x.1, .pointer (some ⟨b2, 0, none⟩), .pointer (some ⟨b7, 0, none⟩), .pointer (some ⟨b8, 0, none⟩)] I (SeeG gs b8 b7 b3 b2 cs [.slice ad gs.length c] pre) (fun _ _ δ' => δ' = SeeG gs b8 b7 b3 b2 cs [.slice ad gs.length c] (pre ++ [x])) := by
  obtain ⟨top, t⟩ := x
  obtain ⟨a0, c0, rfl, hr0⟩ := hv.shape
  obtain ⟨_, hc, hb, hat, hok⟩ := hg.open
  have hu : ∀ b, unkB gs (top, t) = b → (pre ++ [(top, t)]).any (unkB gs) = (pre.any (unkB gs) || b) := fun b hb => by rw [any_snoc, hb]
  have hx : ∀ b, mixB gs (top, t) = b → (pre ++ [(top, t)]).any (mixB gs) = (pre.any (mixB gs) || b) := fun b hb => by rw [any_snoc, hb]
  simp only at hr0
  unfold SeeG
  refine Does.intro Try.func179 rfl Try.ntmps179 rfl fun w0 => ?_
  refine code_seq ?_
  refine code_region ?_
  refine o_box rfl rfl rfl (fun b5 => ?_)
  refine ops_nil ?_
  refine post_next ?_
  refine code_block ?_
  refine code_seq ?_
  refine code_region ?_
  first | refine op_v (v_fieldB 0 Try.underlying47 rfl rfl fz3 rfl) rfl ?_ | refine op_v (v_fieldI 0 Try.underlying47 rfl rfl fz3 rfl (by assumption)) rfl ?_ | refine op_v (v_field Try.underlying47 rfl fz3 rfl rfl) rfl ?_
  refine op_v (v_loadA ty3 rfl rfl) rfl ?_
  by_cases h10 : t.head < 0
  · first | refine op_v (v_cmptA rfl rfl rfl) rfl ?_ | refine op_v (v_cmpfA rfl rfl rfl) rfl ?_ | refine op_v (v_cmp rfl rfl rfl) rfl ?_
    refine op_v (v_assign rfl) rfl ?_
    refine ops_nil ?_
    refine post_next ?_
    refine code_cond_t rfl ?_
    refine code_skip ?_
    refine post_out ?_
    have hn : ¬ 0 ≤ t.head := by omega
    have e1 : unkB gs (top, t) = false := by simp [unkB, hn]
    have e2 : mixB gs (top, t) = false := by simp [mixB, hn]
    exact post_end (rs := []) rfl (List.Perm.refl _) .nil (List.sublist_cons_self _ _) (by rw [hu _ e1, hx _ e2]; simp)
  · first | refine op_v (v_cmptA rfl rfl rfl) rfl ?_ | refine op_v (v_cmpfA rfl rfl rfl) rfl ?_ | refine op_v (v_cmp rfl rfl rfl) rfl ?_
    refine op_v (v_assign rfl) rfl ?_
    refine ops_nil ?_
    refine post_next ?_
    refine code_cond_f rfl ?_
    refine code_seq ?_
    refine code_draw (.fl 0 (.fl 1 (.fl 2 (.fl 3 (.fl 4 (.fl 5 (.fl 6 (.fl 7 (.fl 8 (.fl 9 (.fl 10 (.fl 11 (.fl 12 (.fl 13 (.fl 14 (.fl 15 (.fl 16 (.ef 17 .done)))))))))))))))))) (fun _ => _) mixed (by kernel_rfl) (by kernel_rfl) (fun _ => (List.Sublist.refl _)) ?_
    first | refine e_fl rfl rfl (fun hs_ => PF.mk rfl (v_fieldB 0 Try.underlying47 rfl rfl fz3 rfl) hs_) ?_ | refine e_fl rfl rfl (fun hs_ => PF.mk rfl (v_fieldI 0 Try.underlying47 rfl rfl fz3 rfl (by assumption)) hs_) ?_ | refine e_fl rfl rfl (fun hs_ => PF.mk rfl (v_field Try.underlying47 rfl fz3 rfl rfl) hs_) ?_
    refine e_fl rfl rfl (fun hs_ => PF.mk rfl (v_loadA ty3 rfl rfl) hs_) ?_
    refine e_fl rfl rfl (fun hs_ => PF.mk rfl (v_loadA ty22 rfl rfl) hs_) ?_
    refine e_fl rfl rfl (fun hs_ => PF.mk rfl (v_len Try.underlying22 rfl) hs_) ?_
    by_cases h16 : (gs.length : Int) ≤ t.head
    · first | refine e_fl rfl rfl (fun hs_ => PF.mk rfl (v_cmptA rfl rfl rfl) hs_) ?_ | refine e_fl rfl rfl (fun hs_ => PF.mk rfl (v_cmpfA rfl rfl rfl) hs_) ?_ | refine e_fl rfl rfl (fun hs_ => PF.mk rfl (v_cmp rfl rfl rfl) hs_) ?_
      refine e_fl rfl rfl (fun hs_ => PF.mk rfl (v_move rfl) hs_) ?_
      first | refine e_fl rfl rfl (fun hs_ => PF.mkg rfl rfl rfl (v_fieldB 1 Try.underlying47 rfl rfl fz45 rfl) hs_) ?_ | refine e_fl rfl rfl (fun hs_ => PF.mkg rfl rfl rfl (v_fieldI 1 Try.underlying47 rfl rfl fz45 rfl (by assumption)) hs_) ?_ | refine e_fl rfl rfl (fun hs_ => PF.mkg rfl rfl rfl (v_field Try.underlying47 rfl fz45 rfl rfl) hs_) ?_ | refine e_fl rfl rfl (fun hs_ => PF.mks rfl (by intro c hc; cases hc) rfl rfl (by simp [undef]) hs_) ?_
      first | refine e_fl rfl rfl (fun hs_ => PF.mkg rfl rfl rfl (v_loadA ty45 rfl rfl) hs_) ?_ | refine e_fl rfl rfl (fun hs_ => PF.mks rfl (by intro c hc; cases hc) rfl rfl (by simp [undef]) hs_) ?_
      first | refine e_fl rfl rfl (fun hs_ => PF.mkg rfl rfl rfl (v_len Try.underlying45 rfl) hs_) ?_ | refine e_fl rfl rfl (fun hs_ => PF.mks rfl (by intro c hc; cases hc) rfl rfl (by simp [undef]) hs_) ?_
      first | refine e_fl rfl rfl (fun hs_ => PF.mkg rfl rfl rfl (v_loadA ty22 rfl rfl) hs_) ?_ | refine e_fl rfl rfl (fun hs_ => PF.mks rfl (by intro c hc; cases hc) rfl rfl (by simp [undef]) hs_) ?_
      first | refine e_fl rfl rfl (fun hs_ => PF.mkg rfl rfl rfl (v_fieldB 0 Try.underlying47 rfl rfl fz3 rfl) hs_) ?_ | refine e_fl rfl rfl (fun hs_ => PF.mkg rfl rfl rfl (v_fieldI 0 Try.underlying47 rfl rfl fz3 rfl (by assumption)) hs_) ?_ | refine e_fl rfl rfl (fun hs_ => PF.mkg rfl rfl rfl (v_field Try.underlying47 rfl fz3 rfl rfl) hs_) ?_ | refine e_fl rfl rfl (fun hs_ => PF.mks rfl (by intro c hc; cases hc) rfl rfl (by simp [undef]) hs_) ?_
      first | refine e_fl rfl rfl (fun hs_ => PF.mkg rfl rfl rfl (v_loadA ty3 rfl rfl) hs_) ?_ | refine e_fl rfl rfl (fun hs_ => PF.mks rfl (by intro c hc; cases hc) rfl rfl (by simp [undef]) hs_) ?_
      first | refine e_fl rfl rfl (fun hs_ => PF.mkg rfl rfl rfl (v_indexA Try.underlying22 sz79 rfl rfl) hs_) ?_ | refine e_fl rfl rfl (fun hs_ => PF.mkg rfl rfl rfl (v_indexIA Try.underlying22 sz79 rfl rfl) hs_) ?_ | refine e_fl rfl rfl (fun hs_ => PF.mks rfl (by intro c hc; cases hc) rfl rfl (by simp [undef]) hs_) ?_
      first | refine e_fl rfl rfl (fun hs_ => PF.mkg rfl rfl rfl (v_fieldB 1 Try.underlying79 rfl rfl fz3 rfl) hs_) ?_ | refine e_fl rfl rfl (fun hs_ => PF.mkg rfl rfl rfl (v_fieldI 1 Try.underlying79 rfl rfl fz3 rfl (by assumption)) hs_) ?_ | refine e_fl rfl rfl (fun hs_ => PF.mkg rfl rfl rfl (v_field Try.underlying79 rfl fz3 rfl rfl) hs_) ?_ | refine e_fl rfl rfl (fun hs_ => PF.mks rfl (by intro c hc; cases hc) rfl rfl (by simp [undef]) hs_) ?_
      first | refine e_fl rfl rfl (fun hs_ => PF.mkg rfl rfl rfl (v_loadI0 ty3 (hat _ hlt) rfl rfl rfl) hs_) ?_ | refine e_fl rfl rfl (fun hs_ => PF.mkg rfl rfl rfl (v_loadI ty3 (hat _ hlt) rfl rfl rfl) hs_) ?_ | refine e_fl rfl rfl (fun hs_ => PF.mks rfl (by intro c hc; cases hc) rfl rfl (by simp [undef]) hs_) ?_
      first | refine e_fl rfl rfl (fun hs_ => PF.mkg rfl rfl rfl (v_cmptA rfl rfl rfl) hs_) ?_ | refine e_fl rfl rfl (fun hs_ => PF.mkg rfl rfl rfl (v_cmpfA rfl rfl rfl) hs_) ?_ | refine e_fl rfl rfl (fun hs_ => PF.mkg rfl rfl rfl (v_cmp rfl rfl rfl) hs_) ?_ | refine e_fl rfl rfl (fun hs_ => PF.mks rfl (by intro c hc; cases hc) rfl rfl (by simp [undef]) hs_) ?_
      first | refine e_fl rfl rfl (fun hs_ => PF.mk rfl (v_pickt rfl rfl) hs_) ?_ | refine e_fl rfl rfl (fun hs_ => PF.mk rfl (v_pickf rfl rfl) hs_) ?_ | refine e_fl rfl rfl (fun hs_ => PF.mk rfl (v_pickb rfl rfl rfl) hs_) ?_
      refine e_eff rfl (by intro cs b hc; cases hc) (by intro c hc; cases hc) ?_
      refine op_v (v_assign rfl) rfl ?_
      refine ops_nil ?_
      refine e_next rfl side_allA ?_
      refine e_done ?_
      refine post_next ?_
      refine code_cond_t rfl ?_
      refine code_region ?_
      refine o_store ty4 rfl rfl rfl rfl rfl (by repeat (first | exact Swap.here | apply Swap.there)) rfl ?_
      refine ops_nil ?_
      refine post_out ?_
      have e1 : unkB gs (top, t) = true := by simp [unkB, h16]; omega
      have e2 : mixB gs (top, t) = false := by simp [mixB, e1]
      exact post_end (rs := []) rfl (List.Perm.refl _) .nil (List.sublist_cons_self _ _) (by rw [hu _ e1, hx _ e2]; simp)
    · have h0 : 0 ≤ t.head := by omega
      have hlt : t.head.toNat < gs.length := by omega
      have hs1 := (hat _ hlt).isSome
      have hl0 : t.head < gs.length := by omega
      first | refine e_fl rfl rfl (fun hs_ => PF.mk rfl (v_cmptA rfl rfl rfl) hs_) ?_ | refine e_fl rfl rfl (fun hs_ => PF.mk rfl (v_cmpfA rfl rfl rfl) hs_) ?_ | refine e_fl rfl rfl (fun hs_ => PF.mk rfl (v_cmp rfl rfl rfl) hs_) ?_
      refine e_fl rfl rfl (fun hs_ => PF.mk rfl (v_move rfl) hs_) ?_
      first | refine e_fl rfl rfl (fun hs_ => PF.mkg rfl rfl rfl (v_fieldB 1 Try.underlying47 rfl rfl fz45 rfl) hs_) ?_ | refine e_fl rfl rfl (fun hs_ => PF.mkg rfl rfl rfl (v_fieldI 1 Try.underlying47 rfl rfl fz45 rfl (by assumption)) hs_) ?_ | refine e_fl rfl rfl (fun hs_ => PF.mkg rfl rfl rfl (v_field Try.underlying47 rfl fz45 rfl rfl) hs_) ?_ | refine e_fl rfl rfl (fun hs_ => PF.mks rfl (by intro c hc; cases hc) rfl rfl (by simp [undef]) hs_) ?_
      first | refine e_fl rfl rfl (fun hs_ => PF.mkg rfl rfl rfl (v_loadA ty45 rfl rfl) hs_) ?_ | refine e_fl rfl rfl (fun hs_ => PF.mks rfl (by intro c hc; cases hc) rfl rfl (by simp [undef]) hs_) ?_
      first | refine e_fl rfl rfl (fun hs_ => PF.mkg rfl rfl rfl (v_len Try.underlying45 rfl) hs_) ?_ | refine e_fl rfl rfl (fun hs_ => PF.mks rfl (by intro c hc; cases hc) rfl rfl (by simp [undef]) hs_) ?_
      first | refine e_fl rfl rfl (fun hs_ => PF.mkg rfl rfl rfl (v_loadA ty22 rfl rfl) hs_) ?_ | refine e_fl rfl rfl (fun hs_ => PF.mks rfl (by intro c hc; cases hc) rfl rfl (by simp [undef]) hs_) ?_
      first | refine e_fl rfl rfl (fun hs_ => PF.mkg rfl rfl rfl (v_fieldB 0 Try.underlying47 rfl rfl fz3 rfl) hs_) ?_ | refine e_fl rfl rfl (fun hs_ => PF.mkg rfl rfl rfl (v_fieldI 0 Try.underlying47 rfl rfl fz3 rfl (by assumption)) hs_) ?_ | refine e_fl rfl rfl (fun hs_ => PF.mkg rfl rfl rfl (v_field Try.underlying47 rfl fz3 rfl rfl) hs_) ?_ | refine e_fl rfl rfl (fun hs_ => PF.mks rfl (by intro c hc; cases hc) rfl rfl (by simp [undef]) hs_) ?_
      first | refine e_fl rfl rfl (fun hs_ => PF.mkg rfl rfl rfl (v_loadA ty3 rfl rfl) hs_) ?_ | refine e_fl rfl rfl (fun hs_ => PF.mks rfl (by intro c hc; cases hc) rfl rfl (by simp [undef]) hs_) ?_
      first | refine e_fl rfl rfl (fun hs_ => PF.mkg rfl rfl rfl (v_indexA Try.underlying22 sz79 rfl rfl) hs_) ?_ | refine e_fl rfl rfl (fun hs_ => PF.mkg rfl rfl rfl (v_indexIA Try.underlying22 sz79 rfl rfl) hs_) ?_ | refine e_fl rfl rfl (fun hs_ => PF.mks rfl (by intro c hc; cases hc) rfl rfl (by simp [undef]) hs_) ?_
      first | refine e_fl rfl rfl (fun hs_ => PF.mkg rfl rfl rfl (v_fieldB 1 Try.underlying79 rfl rfl fz3 rfl) hs_) ?_ | refine e_fl rfl rfl (fun hs_ => PF.mkg rfl rfl rfl (v_fieldI 1 Try.underlying79 rfl rfl fz3 rfl (by assumption)) hs_) ?_ | refine e_fl rfl rfl (fun hs_ => PF.mkg rfl rfl rfl (v_field Try.underlying79 rfl fz3 rfl rfl) hs_) ?_ | refine e_fl rfl rfl (fun hs_ => PF.mks rfl (by intro c hc; cases hc) rfl rfl (by simp [undef]) hs_) ?_
      first | refine e_fl rfl rfl (fun hs_ => PF.mkg rfl rfl rfl (v_loadI0 ty3 (hat _ hlt) rfl rfl rfl) hs_) ?_ | refine e_fl rfl rfl (fun hs_ => PF.mkg rfl rfl rfl (v_loadI ty3 (hat _ hlt) rfl rfl rfl) hs_) ?_ | refine e_fl rfl rfl (fun hs_ => PF.mks rfl (by intro c hc; cases hc) rfl rfl (by simp [undef]) hs_) ?_
      by_cases h27 : (t.args.length : Int) ≠ (gs[t.head.toNat]'hlt).ar
      · first | refine e_fl rfl rfl (fun hs_ => PF.mkg rfl rfl rfl (v_cmptA rfl rfl rfl) hs_) ?_ | refine e_fl rfl rfl (fun hs_ => PF.mkg rfl rfl rfl (v_cmpfA rfl rfl rfl) hs_) ?_ | refine e_fl rfl rfl (fun hs_ => PF.mkg rfl rfl rfl (v_cmp rfl rfl rfl) hs_) ?_ | refine e_fl rfl rfl (fun hs_ => PF.mks rfl (by intro c hc; cases hc) rfl rfl (by simp [undef]) hs_) ?_
        first | refine e_fl rfl rfl (fun hs_ => PF.mk rfl (v_pickt rfl rfl) hs_) ?_ | refine e_fl rfl rfl (fun hs_ => PF.mk rfl (v_pickf rfl rfl) hs_) ?_ | refine e_fl rfl rfl (fun hs_ => PF.mk rfl (v_pickb rfl rfl rfl) hs_) ?_
        refine e_eff rfl (by intro cs b hc; cases hc) (by intro c hc; cases hc) ?_
        refine op_v (v_assign rfl) rfl ?_
        refine ops_nil ?_
        refine e_next rfl side_allA ?_
        refine e_done ?_
        refine post_next ?_
        refine code_cond_t rfl ?_
        refine code_region ?_
        refine o_store ty4 rfl rfl rfl rfl rfl (by repeat (first | exact Swap.here | apply Swap.there)) rfl ?_
        refine ops_nil ?_
        refine post_out ?_
        have e1 : unkB gs (top, t) = true := by simp [unkB, arG_at h0 hl0, h0, h27]
        have e2 : mixB gs (top, t) = false := by simp [mixB, e1]
        exact post_end (rs := []) rfl (List.Perm.refl _) .nil (List.sublist_cons_self _ _) (by rw [hu _ e1, hx _ e2]; simp)
      · first | refine e_fl rfl rfl (fun hs_ => PF.mkg rfl rfl rfl (v_cmptA rfl rfl rfl) hs_) ?_ | refine e_fl rfl rfl (fun hs_ => PF.mkg rfl rfl rfl (v_cmpfA rfl rfl rfl) hs_) ?_ | refine e_fl rfl rfl (fun hs_ => PF.mkg rfl rfl rfl (v_cmp rfl rfl rfl) hs_) ?_ | refine e_fl rfl rfl (fun hs_ => PF.mks rfl (by intro c hc; cases hc) rfl rfl (by simp [undef]) hs_) ?_
        first | refine e_fl rfl rfl (fun hs_ => PF.mk rfl (v_pickt rfl rfl) hs_) ?_ | refine e_fl rfl rfl (fun hs_ => PF.mk rfl (v_pickf rfl rfl) hs_) ?_ | refine e_fl rfl rfl (fun hs_ => PF.mk rfl (v_pickb rfl rfl rfl) hs_) ?_
        refine e_eff rfl (by intro cs b hc; cases hc) (by intro c hc; cases hc) ?_
        refine op_v (v_assign rfl) rfl ?_
        refine ops_nil ?_
        refine e_next rfl side_allA ?_
        refine e_done ?_
        refine post_next ?_
        refine code_cond_f rfl ?_
        refine code_seq ?_
        refine code_region ?_
        refine op_v (v_loadA ty22 rfl rfl) rfl ?_
        first | refine op_v (v_fieldB 0 Try.underlying47 rfl rfl fz3 rfl) rfl ?_ | refine op_v (v_fieldI 0 Try.underlying47 rfl rfl fz3 rfl (by assumption)) rfl ?_ | refine op_v (v_field Try.underlying47 rfl fz3 rfl rfl) rfl ?_
        refine op_v (v_loadA ty3 rfl rfl) rfl ?_
        first | refine op_v (v_indexA Try.underlying22 sz79 rfl rfl) rfl ?_ | refine op_v (v_indexIA Try.underlying22 sz79 rfl rfl) rfl ?_
        first | refine op_v (v_fieldB 3 Try.underlying79 rfl rfl fz4 rfl) rfl ?_ | refine op_v (v_fieldI 3 Try.underlying79 rfl rfl fz4 rfl (by assumption)) rfl ?_ | refine op_v (v_field Try.underlying79 rfl fz4 rfl rfl) rfl ?_
        first | refine op_v (v_loadI0 ty4 (hat _ hlt) rfl rfl rfl) rfl ?_ | refine op_v (v_loadI ty4 (hat _ hlt) rfl rfl rfl) rfl ?_
        skip
        by_cases h36 : (gs[t.head.toNat]'hlt).tr = true
        · rw [h36]
          refine op_v (v_move rfl) rfl ?_
          first
            | (refine op_want rfl rfl ?_
               refine op_v (v_move rfl) rfl ?_)
            | (refine op_skip rfl rfl (by simp [undef]) rfl ?_)
          by_cases h38 : top = true
          · subst h38
            first
              | (refine op_want rfl rfl ?_
                 refine op_v (v_not rfl) rfl ?_)
              | (refine op_skip rfl rfl (by simp [undef]) rfl ?_)
            first | refine op_v (v_pickt rfl rfl) rfl ?_ | refine op_v (v_pickf rfl rfl) rfl ?_ | refine op_v (v_pickb rfl rfl rfl) rfl ?_
            refine op_v (v_assign rfl) rfl ?_
            refine ops_nil ?_
            refine post_next ?_
            refine code_cond_f rfl ?_
            refine code_skip ?_
            refine post_out ?_
            have e1 : unkB gs (true, t) = false := by simp [unkB, arG_at h0 hl0]; omega
            have e2 : mixB gs (true, t) = false := by simp [mixB, e1]
            exact post_end (rs := []) rfl (List.Perm.refl _) .nil (List.sublist_cons_self _ _) (by rw [hu _ e1, hx _ e2]; simp)
          · have h38' : top = false := by simpa using h38
            subst h38'
            first
              | (refine op_want rfl rfl ?_
                 refine op_v (v_not rfl) rfl ?_)
              | (refine op_skip rfl rfl (by simp [undef]) rfl ?_)
            first | refine op_v (v_pickt rfl rfl) rfl ?_ | refine op_v (v_pickf rfl rfl) rfl ?_ | refine op_v (v_pickb rfl rfl rfl) rfl ?_
            refine op_v (v_assign rfl) rfl ?_
            refine ops_nil ?_
            refine post_next ?_
            refine code_cond_t rfl ?_
            refine code_region ?_
            refine o_store ty4 rfl rfl rfl rfl rfl (by repeat (first | exact Swap.here | apply Swap.there)) rfl ?_
            refine ops_nil ?_
            refine post_out ?_
            have e1 : unkB gs (false, t) = false := by simp [unkB, arG_at h0 hl0]; omega
            have e2 : mixB gs (false, t) = true := by simp [mixB, e1, trG_at h0 hl0, h36, h0]
            exact post_end (rs := []) rfl (List.Perm.refl _) .nil (List.sublist_cons_self _ _) (by rw [hu _ e1, hx _ e2]; simp)
        · have h36' : (gs[t.head.toNat]'hlt).tr = false := by simpa using h36
          rw [h36']
          refine op_v (v_move rfl) rfl ?_
          first
            | (refine op_want rfl rfl ?_
               refine op_v (v_move rfl) rfl ?_)
            | (refine op_skip rfl rfl (by simp [undef]) rfl ?_)
          first
            | (refine op_want rfl rfl ?_
               refine op_v (v_not rfl) rfl ?_)
            | (refine op_skip rfl rfl (by simp [undef]) rfl ?_)
          first | refine op_v (v_pickt rfl rfl) rfl ?_ | refine op_v (v_pickf rfl rfl) rfl ?_ | refine op_v (v_pickb rfl rfl rfl) rfl ?_
          refine op_v (v_assign rfl) rfl ?_
          refine ops_nil ?_
          refine post_next ?_
          refine code_cond_f rfl ?_
          refine code_skip ?_
          refine post_out ?_
          have e1 : unkB gs (top, t) = false := by simp [unkB, arG_at h0 hl0]; omega
          have e2 : mixB gs (top, t) = false := by simp [mixB, e1, trG_at h0 hl0, h36']
          exact post_end (rs := []) rfl (List.Perm.refl _) .nil (List.sublist_cons_self _ _) (by rw [hu _ e1, hx _ e2]; simp)

def unkG (gs : List Sy) (t : T) : Bool := (visT true t).any (unkB gs)
def mixG (gs : List Sy) (t : T) : Bool := (visT true t).any (mixB gs)
def termG (gs : List Sy) (t : T) : Int := if chkG gs ≠ 0 then chkG gs else if chkT t ≠ 0 then chkT t else if unkG gs t = true then 1 else if mixG gs t = true then 10 else 0
theorem GTerm_does {I : Imm} {vg v : Value} {gs : List Sy} {t : T} (hg : RepG I vg gs) (hv : RepT I v t) (hbig : t.size ≤ 1000000000) :
    Does Try.prog 163 [vg, v] I [] (fun v _ δ' => v = .int .i64 (termG gs t) ∧ δ' = []) := by
  obtain ⟨ad, c, rfl⟩ := hg.shape
  obtain ⟨a0, c0, rfl, hr0⟩ := hv.shape
  refine Does.intro Try.func163 rfl Try.ntmps163 rfl fun w0 => ?_
  refine code_seq ?_
  refine code_region ?_
  refine o_box rfl rfl rfl (fun b2 => ?_)
  refine o_box rfl rfl rfl (fun b3 => ?_)
  refine op_v (v_assign rfl) rfl ?_
  refine ops_nil ?_
  refine post_next ?_
  refine code_seq ?_
  refine code_seq ?_
  refine code_region ?_
  refine op_v (v_loadA ty22 rfl rfl) rfl ?_
  refine op_call pl93 rfl rfl ((GCheck_does hg)) Parts.none ?_
  rintro v10 I10 _ hI10 ⟨rfl, rfl⟩
  refine op_v (v_assign rfl) rfl ?_
  refine ops_nil ?_
  refine post_next ?_
  refine code_seq ?_
  refine code_region ?_
  refine op_v (v_move rfl) rfl ?_
  by_cases h12 : chkG gs ≠ 0
  · first | refine op_v (v_cmptA rfl rfl rfl) rfl ?_ | refine op_v (v_cmpfA rfl rfl rfl) rfl ?_ | refine op_v (v_cmp rfl rfl rfl) rfl ?_
    refine ops_nil ?_
    refine post_next ?_
    refine code_cond_t rfl ?_
    refine code_seq ?_
    refine code_region ?_
    refine op_v (v_move rfl) rfl ?_
    refine op_v (v_assign rfl) rfl ?_
    refine ops_nil ?_
    refine post_next ?_
    refine code_ret ?_
    refine post_ret_then ?_
    refine post_ret (rs := [.tmp 4]) rfl (List.Perm.refl _) (.cons (.tmp rfl) .nil) (List.nil_sublist _) ?_
    exact ⟨by simp [outV, termG, h12], rfl⟩
  · first | refine op_v (v_cmptA rfl rfl rfl) rfl ?_ | refine op_v (v_cmpfA rfl rfl rfl) rfl ?_ | refine op_v (v_cmp rfl rfl rfl) rfl ?_
    refine ops_nil ?_
    refine post_next ?_
    refine code_cond_f rfl ?_
    refine code_skip ?_
    refine post_next ?_
    refine code_seq ?_
    refine code_seq ?_
    refine code_region ?_
    refine op_v (v_loadA ty47 rfl rfl) rfl ?_
    refine op_call pl105 rfl rfl ((TCheck_does (hv.mono Imm.leA) hbig)) Parts.none ?_
    rintro v15 I15 _ hI15 ⟨rfl, rfl⟩
    refine op_v (v_assign rfl) rfl ?_
    refine ops_nil ?_
    refine post_next ?_
    refine code_seq ?_
    refine code_region ?_
    refine op_v (v_move rfl) rfl ?_
    by_cases h17 : chkT t ≠ 0
    · first | refine op_v (v_cmptA rfl rfl rfl) rfl ?_ | refine op_v (v_cmpfA rfl rfl rfl) rfl ?_ | refine op_v (v_cmp rfl rfl rfl) rfl ?_
      refine ops_nil ?_
      refine post_next ?_
      refine code_cond_t rfl ?_
      refine code_seq ?_
      refine code_region ?_
      refine op_v (v_move rfl) rfl ?_
      refine op_v (v_assign rfl) rfl ?_
      refine ops_nil ?_
      refine post_next ?_
      refine code_ret ?_
      refine post_ret_then ?_
      refine post_ret (rs := [.tmp 4]) rfl (List.Perm.refl _) (.cons (.tmp rfl) .nil) (List.nil_sublist _) ?_
      exact ⟨by simp only [outV, termG]; rw [if_neg h12, if_pos h17], rfl⟩
    · first | refine op_v (v_cmptA rfl rfl rfl) rfl ?_ | refine op_v (v_cmpfA rfl rfl rfl) rfl ?_ | refine op_v (v_cmp rfl rfl rfl) rfl ?_
      refine ops_nil ?_
      refine post_next ?_
      refine code_cond_f rfl ?_
      refine code_skip ?_
      refine post_next ?_
      refine code_seq ?_
      refine code_region ?_
      refine o_alloc z4 rfl rfl (fun b7 => ?_)
      refine o_alloc z4 rfl rfl (fun b8 => ?_)
      refine o_store ty4 rfl rfl rfl rfl rfl (by repeat (first | exact Swap.here | apply Swap.there)) rfl ?_
      refine o_store ty4 rfl rfl rfl rfl rfl (by repeat (first | exact Swap.here | apply Swap.there)) rfl ?_
      refine ops_nil ?_
      refine post_next ?_
      refine code_seq ?_
      refine code_region ?_
      refine op_v (v_loadA ty47 rfl rfl) rfl ?_
      refine op_v (v_makeFunc rfl rfl) rfl ?_
      refine op_call pl178 rfl rfl ((gwalk_does (fun l I' δ' => RepG I' (.slice ad gs.length c) gs ∧ δ' = SeeG gs b8 b7 b3 b2 [.int .i64 t.head, .slice a0 t.args.length c0] [.slice ad gs.length c] l) (fun l _ _ δ hle h => ⟨h.1.mono hle, h.2⟩) (fun pre x J v δ hp hxv hd => by obtain ⟨hd1, hd⟩ := hd; subst hd; exact FDoes.mono (FDoes.ofFunc (caps := [_, _, _]) pl179 (Term1_does hxv hd1)) (fun _ _ _ hle h => ⟨hd1.mono hle, h⟩)) t.size t (Nat.le_refl _) true [] _ _ _ (by simpa using hbig) (hv.mono Imm.leA) ⟨hg.mono Imm.leA, rfl⟩)) Parts.all ?_
      rintro v21 I21 _ hI21 ⟨_, rfl⟩
      rw [List.append_nil, List.nil_append]
      unfold SeeG
      refine ops_nil ?_
      refine post_next ?_
      refine code_seq ?_
      refine code_block ?_
      refine code_seq ?_
      refine code_region ?_
      refine op_v (v_loadA ty4 rfl rfl) rfl ?_
      by_cases h22 : unkG gs t = true
      · rw [show (visT true t).any (unkB gs) = true from h22]
        refine op_v (v_assign rfl) rfl ?_
        refine ops_nil ?_
        refine post_next ?_
        refine code_cond_t rfl ?_
        refine code_seq ?_
        refine code_region ?_
        refine op_v (v_assign rfl) rfl ?_
        refine ops_nil ?_
        refine post_next ?_
        refine code_ret ?_
        refine post_ret_block ?_
        refine post_ret_then ?_
        refine post_ret (rs := [.tmp 4]) rfl (List.Perm.refl _) (.cons (.tmp rfl) .nil) (List.nil_sublist _) ?_
        exact ⟨by simp only [outV, termG]; rw [if_neg h12, if_neg h17, if_pos h22], rfl⟩
      · rw [show (visT true t).any (unkB gs) = false by simpa [unkG] using h22]
        refine op_v (v_assign rfl) rfl ?_
        refine ops_nil ?_
        refine post_next ?_
        refine code_cond_f rfl ?_
        refine code_seq ?_
        refine code_region ?_
        refine op_v (v_loadA ty4 rfl rfl) rfl ?_
        by_cases h24 : mixG gs t = true
        · rw [show (visT true t).any (mixB gs) = true from h24]
          refine op_v (v_assign rfl) rfl ?_
          refine ops_nil ?_
          refine post_next ?_
          refine code_cond_t rfl ?_
          refine code_seq ?_
          refine code_region ?_
          refine op_v (v_assign rfl) rfl ?_
          refine ops_nil ?_
          refine post_next ?_
          refine code_ret ?_
          refine post_ret_block ?_
          refine post_ret_then ?_
          refine post_ret (rs := [.tmp 4]) rfl (List.Perm.refl _) (.cons (.tmp rfl) .nil) (List.nil_sublist _) ?_
          exact ⟨by simp only [outV, termG]; rw [if_neg h12, if_neg h17, if_neg h22, if_pos h24], rfl⟩
        · rw [show (visT true t).any (mixB gs) = false by simpa [mixG] using h24]
          refine op_v (v_assign rfl) rfl ?_
          refine ops_nil ?_
          refine post_next ?_
          refine code_cond_f rfl ?_
          refine code_skip ?_
          refine post_out ?_
          refine post_next ?_
          refine code_seq ?_
          refine code_region ?_
          refine op_v (v_assign rfl) rfl ?_
          refine ops_nil ?_
          refine post_next ?_
          refine code_ret ?_
          refine post_ret (rs := [.tmp 4]) rfl (List.Perm.refl _) (.cons (.tmp rfl) .nil) (List.nil_sublist _) ?_
          exact ⟨by simp only [outV, termG]; rw [if_neg h12, if_neg h17, if_neg h22, if_neg h24], rfl⟩
end Go.Proofs.Ytdbadicpbmndbaa
/- Walks: how heavy a term is, how often its variables stand in it. -/
set_option linter.unusedVariables false
set_option linter.unusedSimpArgs false
/- short -/
namespace Go.Proofs.Ytdbadicpbmndbaa
open Go Lg

def wtG (gs : List Sy) (h : Int) : Int := (gs[h.toNat]?.map Sy.wt).getD 0
def wB (gs : List Sy) (h : Int) : Int := if h < 0 then 1 else wtG gs h
def wgtG (gs : List Sy) (t : T) : Int := ((hds t).map (wB gs)).sum
theorem wtG_at {gs : List Sy} {h : Int} (h0 : 0 ≤ h) (hl : h < gs.length) : wtG gs h = (gs[h.toNat]'(by omega)).wt := by
  have : h.toNat < gs.length := by omega
  simp [wtG, this]
structure OkG (gs : List Sy) (t : T) : Prop where
  right : rightG gs = true
  chk : chkT t = 0
  unk : unkG gs t = false
  mix : mixG gs t = false
theorem termG_ok {gs : List Sy} {t : T} : termG gs t = 0 ↔ OkG gs t := by
  unfold termG
  constructor
  · intro h
    split at h
    · rename_i h1; exact absurd h h1
    · rename_i h1
      split at h
      · rename_i h2; exact absurd h h2
      · rename_i h2
        split at h
        · cases h
        · rename_i h3
          split at h
          · cases h
          · rename_i h4
            refine ⟨?_, by simpa using h2, by simpa using h3, by simpa using h4⟩
            unfold chkG at h1
            by_cases hr : rightG gs = true
            · exact hr
            · rw [if_neg hr] at h1; simp at h1
  · rintro ⟨h1, h2, h3, h4⟩
    have : chkG gs = 0 := by simp [chkG, h1]
    simp [this, h2, h3, h4]
theorem chkT_size {t : T} (h : chkT t = 0) : t.size ≤ 400 := by
  unfold chkT at h
  split at h
  · cases h
  · omega
theorem OkG.head {gs : List Sy} {t : T} (h : OkG gs t) : ∀ k ∈ hds t, k < 0 ∨ (0 ≤ k ∧ k < gs.length) := by
  intro k hk
  obtain ⟨x, hx, rfl⟩ := List.mem_map.1 hk
  have h1 := h.unk
  unfold unkG at h1
  rw [List.any_eq_false] at h1
  have h2 := h1 x hx
  simp only [unkB, Bool.and_eq_true, decide_eq_true_eq, Bool.or_eq_true, not_and, not_or] at h2
  by_cases h3 : x.2.head < 0
  · exact .inl h3
  · have := (h2 (by omega)).1; exact .inr ⟨by omega, by omega⟩
theorem right_wt {gs : List Sy} (h : rightG gs = true) (i : Nat) (hi : i < gs.length) : 1 ≤ gs[i].wt ∧ gs[i].wt ≤ 1000 := by
  have := rightG_at h i hi
  simp only [badS, Bool.or_eq_false_iff, decide_eq_false_iff_not] at this
  omega
theorem wB_range {gs : List Sy} (h : rightG gs = true) {k : Int} (hk : k < 0 ∨ (0 ≤ k ∧ k < gs.length)) : 1 ≤ wB gs k ∧ wB gs k ≤ 1000 := by
  unfold wB
  rcases hk with hk | ⟨h0, h1⟩
  · rw [if_pos hk]; omega
  · rw [if_neg (by omega), wtG_at h0 h1]; exact right_wt h _ _
theorem sum_range (w : Int → Int) : ∀ l : List Int, (∀ k ∈ l, 1 ≤ w k ∧ w k ≤ 1000) → (l.length : Int) ≤ (l.map w).sum ∧ (l.map w).sum ≤ 1000 * l.length
  | [], _ => by simp
  | x :: r, h => by
    have h1 := h x (List.mem_cons_self ..)
    have h2 := sum_range w r (fun k hk => h k (List.mem_cons_of_mem _ hk))
    simp only [List.map_cons, List.sum_cons, List.length_cons]
    omega
theorem wgtG_range {gs : List Sy} {t : T} (h : OkG gs t) : (t.size : Int) ≤ wgtG gs t ∧ wgtG gs t ≤ 400000 := by
  have h1 := sum_range (wB gs) (hds t) (fun k hk => wB_range h.right (h.head k hk))
  have h2 := chkT_size h.chk
  rw [hds_length] at h1
  unfold wgtG
  omega
theorem sumM_nonneg (w : Int → Int) : ∀ m : Mp, (∀ p ∈ m, 0 ≤ w p.1 * ivl p.2) → 0 ≤ sumM w m
  | [], _ => by simp [sumM]
  | p :: r, h => by
    have h1 := h p (List.mem_cons_self ..)
    have h2 := sumM_nonneg w r (fun q hq => h q (List.mem_cons_of_mem _ hq))
    unfold sumM at *
    simp only [List.map_cons, List.sum_cons]; omega
theorem cnt_nonneg {gs : List Sy} {t : T} (h : OkG gs t) {p : Int × Value} (hp : p ∈ cntM (hds t)) : p.2 = .int .i64 ((hds t).count p.1) ∧ 0 < (hds t).count p.1 ∧ 0 ≤ wB gs p.1 * ivl p.2 ∧ (p.1 < 0 ∨ (0 ≤ p.1 ∧ p.1 < gs.length)) := by
  obtain ⟨h1, h2⟩ := cntM_mem hp
  have h3 := h.head p.1 (List.count_pos_iff.1 h2)
  have h4 := wB_range h.right h3
  refine ⟨h1, h2, ?_, h3⟩
  rw [h1]
  exact Int.mul_nonneg (by omega) (by simp [ivl])

theorem GWeight_does {I : Imm} {vg v : Value} {gs : List Sy} {t : T} (hg : RepG I vg gs) (hv : RepT I v t) (hbig : t.size ≤ 1000000000) :
    Does Try.prog 173 [vg, v] I [] (fun v _ δ' => v = .tuple #[.int .i64 (if termG gs t = 0 then wgtG gs t else 0), .int .i64 (termG gs t)] ∧ δ' = []) := by
  obtain ⟨ad, c, rfl⟩ := hg.shape
  obtain ⟨_, hc, hb, hat, hok⟩ := hg.open
  obtain ⟨a0, c0, rfl, hr0⟩ := hv.shape
  refine Does.intro Try.func173 rfl Try.ntmps173 rfl fun w0 => ?_
  refine code_seq ?_
  refine code_region ?_
  refine o_box rfl rfl rfl (fun b3 => ?_)
  refine op_v (v_assign rfl) rfl ?_
  refine op_v (v_assign rfl) rfl ?_
  refine ops_nil ?_
  refine post_next ?_
  refine code_seq ?_
  refine code_seq ?_
  refine code_region ?_
  refine op_v (v_move rfl) rfl ?_
  refine op_v (v_loadA ty47 rfl rfl) rfl ?_
  refine op_call pl163 rfl rfl ((GTerm_does hg hv hbig)) Parts.none ?_
  rintro v12 I12 _ hI12 ⟨rfl, rfl⟩
  refine op_v (v_assign rfl) rfl ?_
  refine ops_nil ?_
  refine post_next ?_
  refine code_seq ?_
  refine code_region ?_
  refine op_v (v_move rfl) rfl ?_
  by_cases h14 : termG gs t ≠ 0
  · first | refine op_v (v_cmptA rfl rfl rfl) rfl ?_ | refine op_v (v_cmpfA rfl rfl rfl) rfl ?_ | refine op_v (v_cmp rfl rfl rfl) rfl ?_
    refine ops_nil ?_
    refine post_next ?_
    refine code_cond_t rfl ?_
    refine code_seq ?_
    refine code_region ?_
    refine op_v (v_move rfl) rfl ?_
    refine op_v (v_assign rfl) rfl ?_
    refine op_v (v_assign rfl) rfl ?_
    refine ops_nil ?_
    refine post_next ?_
    refine code_ret ?_
    refine post_ret_then ?_
    refine post_ret (rs := [.tmp 4, .tmp 5]) rfl (List.Perm.refl _) (.cons (.tmp rfl) (.cons (.tmp rfl) .nil)) (List.nil_sublist _) ?_
    exact ⟨by simp [outV, h14], rfl⟩
  · have h14' : termG gs t = 0 := by simpa using h14
    have hG := termG_ok.1 h14'
    have hS := wgtG_range hG
    first | refine op_v (v_cmptA rfl rfl rfl) rfl ?_ | refine op_v (v_cmpfA rfl rfl rfl) rfl ?_ | refine op_v (v_cmp rfl rfl rfl) rfl ?_
    refine ops_nil ?_
    refine post_next ?_
    refine code_cond_f rfl ?_
    refine code_skip ?_
    refine post_next ?_
    refine code_seq ?_
    refine code_region ?_
    refine op_v (v_assign rfl) rfl ?_
    refine ops_nil ?_
    refine post_next ?_
    refine code_seq ?_
    refine code_seq ?_
    refine code_region ?_
    refine op_v (v_loadA ty47 rfl rfl) rfl ?_
    refine op_call pl182 rfl rfl ((heads_does (hv.mono Imm.leA) hbig)) Parts.none ?_
    rintro v17 I17 _ hI17 ⟨b17, rfl, rfl⟩
    refine OpsJ.openMap (δ' := fun es ck => [.obj b17 (.map es ck), .box b3 47 [.int .i64 t.head, .slice a0 t.args.length c0]]) (fun _ _ => Swap.here) ?_
    intro es ck hmi
    refine o_range Try.underlying139 rfl Has.here hmi rfl (fun r18 hL0 => ?_)
    refine ops_nil ?_
    refine post_next ?_
    refine code_block ?_
    refine code_loop (fun m σ' I' δ' => ∃ (n : Int) (left : Mp) (seen : Array Nat), m = left.length ∧ σ' = [(0, .slice ad gs.length c), (18, .pointer (some ⟨r18, 0, none⟩)), (7, .int .i64 n)] ∧ I' = I17 ∧ δ' = [.obj r18 (.mapIter (some b17) ck seen ck), .obj b17 (.map es ck), .box b3 47 [.int .i64 t.head, .slice a0 t.args.length c0]] ∧ LeftM es ck ck seen ck (cntM (hds t)) left ∧ n + sumM (wB gs) left = wgtG gs t ∧ 0 ≤ n ∧ ∀ p ∈ left, p ∈ cntM (hds t)) (cntM (hds t)).length [(0, .slice ad gs.length c), (18, .pointer (some ⟨r18, 0, none⟩)), (7, .int .i64 0)] ⟨0, _, _, rfl, rfl, rfl, rfl, hL0, by rw [sumM_cnt]; simp [wgtG], Int.le_refl _, fun _ h => h⟩ ⟨rfl, rfl, rfl, trivial⟩ ?_
    rintro m _ _ _ ⟨n, left, seen, rfl, rfl, rfl, rfl, hL, hsum, hn0, hin⟩
    refine code_seq ?_
    refine code_region ?_
    by_cases hls : left = []
    · refine o_mnext0 hls hL rfl (Has.there Has.here) (fun _ => Swap.here) rfl ?_
      refine op_v (v_extract rfl rfl) rfl ?_
      refine ops_nil ?_
      refine post_next ?_
      refine code_seq ?_
      refine code_cond_f rfl ?_
      refine code_exit ?_
      refine post_exit_then ?_
      refine post_exit_then ?_
      refine post_exit ?_
      refine post_next ?_
      refine code_seq ?_
      refine code_region ?_
      refine op_v (v_move rfl) rfl ?_
      refine op_v (v_assign rfl) rfl ?_
      refine op_v (v_assign rfl) rfl ?_
      refine ops_nil ?_
      refine post_next ?_
      refine code_ret ?_
      refine post_ret (rs := [.tmp 4, .tmp 5]) rfl (List.Perm.refl _) (.cons (.tmp rfl) (.cons (.tmp rfl) .nil)) (List.nil_sublist _) ?_
      exact ⟨by rw [if_pos h14', h14']; simp [outV]; simp only [hls, sumM] at hsum; simpa using hsum, rfl⟩
    · refine o_mnext1 hls hL rfl (Has.there Has.here) (fun _ => Swap.here) rfl (fun l k u q seen' hl hL' hcur => ?_)
      subst hl
      obtain ⟨hu, hc1, hc2, hc3⟩ := cnt_nonneg hG (hin (k, u) (by simp))
      simp only at hu hc1 hc2 hc3
      subst hu
      rw [sumM_mid] at hsum
      have hrest := sumM_nonneg (wB gs) (l ++ q) (fun p hp => (cnt_nonneg hG (hin p (by rcases List.mem_append.1 hp with h | h; exact List.mem_append_left _ h; exact List.mem_append_right _ (List.mem_cons_of_mem _ h)))).2.2.1)
      have hin' : ∀ p ∈ l ++ q, p ∈ cntM (hds t) := fun p hp => hin p (by rcases List.mem_append.1 hp with h | h; exact List.mem_append_left _ h; exact List.mem_append_right _ (List.mem_cons_of_mem _ h))
      have hmeas : (l ++ q).length < (l ++ (k, Value.int .i64 ((hds t).count k)) :: q).length := by simp
      refine op_v (v_extract rfl rfl) rfl ?_
      refine ops_nil ?_
      refine post_next ?_
      refine code_seq ?_
      refine code_cond_t rfl ?_
      refine code_skip ?_
      refine post_next ?_
      refine code_block ?_
      refine code_seq ?_
      refine code_region ?_
      refine op_v (v_entry hL' rfl hcur (Has.there Has.here) Has.here) rfl ?_
      refine op_v (v_extract rfl rfl) rfl ?_
      refine op_v (v_extract rfl rfl) rfl ?_
      refine op_v (v_assign rfl) rfl ?_
      refine op_v (v_assign rfl) rfl ?_
      refine ops_nil ?_
      refine post_next ?_
      refine code_seq ?_
      refine code_region ?_
      refine op_v (v_move rfl) rfl ?_
      by_cases hk : k < 0
      · have hw : wB gs k = 1 := by simp [wB, hk]
        rw [hw, Int.one_mul] at hsum
        simp only [ivl] at hsum
        first | refine op_v (v_cmptA rfl rfl rfl) rfl ?_ | refine op_v (v_cmpfA rfl rfl rfl) rfl ?_ | refine op_v (v_cmp rfl rfl rfl) rfl ?_
        refine ops_nil ?_
        refine post_next ?_
        refine code_cond_t rfl ?_
        refine code_region ?_
        refine op_v (v_move rfl) rfl ?_
        refine op_v (v_move rfl) rfl ?_
        first | refine op_v (v_addb rfl rfl rfl (by omega)) rfl ?_ | refine op_v (v_add rfl rfl) rfl ?_
        refine op_v (v_assign rfl) rfl ?_
        refine ops_nil ?_
        refine post_out ?_
        refine post_again _ [(0, .slice ad gs.length c), (18, .pointer (some ⟨r18, 0, none⟩)), (7, .int .i64 (n + (((hds t).count k : Nat) : Int)))] hmeas ⟨_, l ++ q, seen', rfl, rfl, rfl, rfl, hL', by omega, by omega, hin'⟩ ⟨rfl, rfl, rfl, trivial⟩
      · have hlt : k.toNat < gs.length := by omega
        have hs1 := (hat _ hlt).isSome
        have hw : wB gs k = (gs[k.toNat]'hlt).wt := by rw [wB, if_neg hk, wtG_at (by omega) (by omega)]
        rw [hw] at hsum hc2
        simp only [ivl] at hsum hc2
        have hmq : ∃ q2 : Int, q2 = (((hds t).count k : Nat) : Int) * (gs[k.toNat]'hlt).wt := ⟨_, rfl⟩
        obtain ⟨q2, hq2⟩ := hmq
        rw [Int.mul_comm, ← hq2] at hsum hc2
        first | refine op_v (v_cmptA rfl rfl rfl) rfl ?_ | refine op_v (v_cmpfA rfl rfl rfl) rfl ?_ | refine op_v (v_cmp rfl rfl rfl) rfl ?_
        refine ops_nil ?_
        refine post_next ?_
        refine code_cond_f rfl ?_
        refine code_region ?_
        refine op_v (v_move rfl) rfl ?_
        refine op_v (v_move rfl) rfl ?_
        refine op_v (v_move rfl) rfl ?_
        refine op_v (v_move rfl) rfl ?_
        first | refine op_v (v_indexA Try.underlying22 sz79 rfl rfl) rfl ?_ | refine op_v (v_indexIA Try.underlying22 sz79 rfl rfl) rfl ?_
        first | refine op_v (v_fieldB 2 Try.underlying79 rfl rfl fz3 rfl) rfl ?_ | refine op_v (v_fieldI 2 Try.underlying79 rfl rfl fz3 rfl (by assumption)) rfl ?_ | refine op_v (v_field Try.underlying79 rfl fz3 rfl rfl) rfl ?_
        first | refine op_v (v_loadI0 ty3 ((hat _ hlt).mono Imm.leA) rfl rfl rfl) rfl ?_ | refine op_v (v_loadI ty3 ((hat _ hlt).mono Imm.leA) rfl rfl rfl) rfl ?_
        refine op_v (v_mulb (c := q2) rfl rfl hq2.symm ⟨by omega, by omega⟩) rfl ?_
        first | refine op_v (v_addb rfl rfl rfl (by omega)) rfl ?_ | refine op_v (v_add rfl rfl) rfl ?_
        refine op_v (v_assign rfl) rfl ?_
        refine ops_nil ?_
        refine post_out ?_
        refine post_again _ [(0, .slice ad gs.length c), (18, .pointer (some ⟨r18, 0, none⟩)), (7, .int .i64 (n + q2))] hmeas ⟨_, l ++ q, seen', rfl, rfl, rfl, rfl, hL', by omega, by omega, hin'⟩ ⟨rfl, rfl, rfl, trivial⟩
end Go.Proofs.Ytdbadicpbmndbaa
/- Walks: how often a term's variables stand in it. -/
set_option linter.unusedVariables false
set_option linter.unusedSimpArgs false
/- short -/
namespace Go.Proofs.Ytdbadicpbmndbaa
open Go Lg

/-- what the numbers are on the way, some entries still to come -/
def CInv (l0 : List Int) (left : Mp) (cs : List Int) : Prop :=
  cs.length ≤ 256 ∧ (∀ v : Nat, v < 256 → cs.getD v 0 = if mget left (-1 - (v : Int)) = none then ((l0.count (-1 - (v : Int)) : Nat) : Int) else 0) ∧ (∀ n, cs.length = n + 1 → cs.getD n 0 ≠ 0)
theorem mget_mid : ∀ {l q : Mp} {k : Int} {u : Value}, ((l ++ (k, u) :: q).map (·.1)).Nodup → ∀ j, mget (l ++ (k, u) :: q) j = if k = j then some u else mget (l ++ q) j
  | [], q, k, u, hn, j => by simp [mget]
  | (k', z) :: l, q, k, u, hn, j => by
    simp only [List.cons_append, List.map_cons, List.nodup_cons] at hn
    have hne : k' ≠ k := fun e => hn.1 (by subst e; simp)
    simp only [List.cons_append, mget, mget_mid hn.2 j]
    by_cases h : k' = j
    · subst h; rw [if_pos rfl, if_neg (fun e => hne e.symm), if_pos rfl]
    · rw [if_neg h, if_neg h]
theorem mget_ne {l q : Mp} {k : Int} {u : Value} {j : Int} (hn : ((l ++ (k, u) :: q).map (·.1)).Nodup) (h : k ≠ j) : mget (l ++ (k, u) :: q) j = mget (l ++ q) j := by rw [mget_mid hn, if_neg h]
theorem mid_none {l q : Mp} {k : Int} {u : Value} (hn : ((l ++ (k, u) :: q).map (·.1)).Nodup) : mget (l ++ q) k = none := by
  rw [mget_none]
  simp only [List.map_append, List.map_cons, List.nodup_append, List.nodup_cons] at hn
  obtain ⟨h1, ⟨h2, h3⟩, h4⟩ := hn
  intro hm
  rw [List.map_append, List.mem_append] at hm
  rcases hm with hm | hm
  · exact h4 k hm k (by simp) rfl
  · exact h2 hm
theorem mid_nodup {l q : Mp} {k : Int} {u : Value} (hn : ((l ++ (k, u) :: q).map (·.1)).Nodup) : ((l ++ q).map (·.1)).Nodup := by
  refine hn.sublist ?_
  rw [List.map_append, List.map_append, List.map_cons]
  exact List.Sublist.append (List.Sublist.refl _) (List.sublist_cons_self _ _)
theorem CInv.start (l0 : List Int) : CInv l0 (cntM l0) [] := by
  refine ⟨by simp, fun v _ => ?_, fun n h => by simp at h⟩
  rw [cntM_get]
  by_cases h : l0.count (-1 - (v : Int)) = 0
  · simp [h]
  · simp [h]
theorem CInv.skip {l0 : List Int} {l q : Mp} {k : Int} {u : Value} {cs : List Int} (hn : ((l ++ (k, u) :: q).map (·.1)).Nodup) (h : CInv l0 (l ++ (k, u) :: q) cs) (hk : -1 - k < 0 ∨ 255 < -1 - k) : CInv l0 (l ++ q) cs := by
  obtain ⟨h1, h2, h3⟩ := h
  refine ⟨h1, fun v hv => ?_, h3⟩
  rw [h2 v hv, mget_ne hn (by omega)]
theorem getD_ext (cs : List Int) (j v : Nat) : (cs ++ List.replicate j 0).getD v 0 = cs.getD v 0 := by
  simp only [List.getD_eq_getElem?_getD]
  by_cases h : v < cs.length
  · rw [List.getElem?_append_left h]
  · rw [List.getElem?_append_right (by omega), List.getElem?_replicate, List.getElem?_eq_none_iff.2 (by omega)]
    split <;> rfl
theorem CInv.step {l0 : List Int} {l q : Mp} {k : Int} {u : Value} {cs : List Int} {v j : Nat} (hn : ((l ++ (k, u) :: q).map (·.1)).Nodup) (h : CInv l0 (l ++ (k, u) :: q) cs) (hk : k = -1 - (v : Int)) (hv : v < 256) (hc : 0 < l0.count k) (hlen : v < cs.length + j) (hj : j = 0 ∨ cs.length + j = v + 1) :
    CInv l0 (l ++ q) ((cs ++ List.replicate j 0).set v (l0.count k : Nat)) := by
  obtain ⟨h1, h2, h3⟩ := h
  have hl : ((cs ++ List.replicate j (0 : Int)).set v ((l0.count k : Nat) : Int)).length = cs.length + j := by simp
  have hg : ∀ w : Nat, ((cs ++ List.replicate j (0 : Int)).set v ((l0.count k : Nat) : Int)).getD w 0 = if w = v then ((l0.count k : Nat) : Int) else cs.getD w 0 := fun w => by
    by_cases hw : w = v
    · subst hw
      rw [if_pos rfl, List.getD_eq_getElem?_getD, List.getElem?_set_self (by simp; omega)]; rfl
    · rw [if_neg hw, ← getD_ext cs j w, List.getD_eq_getElem?_getD, List.getElem?_set_ne (by omega), ← List.getD_eq_getElem?_getD]
  refine ⟨by rw [hl]; omega, fun w hw => ?_, fun n hn' => ?_⟩
  · rw [hg w]
    by_cases e : w = v
    · subst e
      rw [if_pos rfl, ← hk, mid_none hn, if_pos rfl]
    · rw [if_neg e, h2 w hw, mget_ne hn (by omega)]
  · rw [hl] at hn'
    rw [hg n]
    by_cases e : n = v
    · rw [if_pos e]; omega
    · rw [if_neg e]
      have hj0 : j = 0 := by omega
      exact h3 n (by omega)
theorem CInv.last {l0 : List Int} {cs : List Int} (h : CInv l0 [] cs) : ∀ v : Nat, v < 256 → cs.getD v 0 = ((l0.count (-1 - (v : Int)) : Nat) : Int) := fun v hv => by
  rw [h.2.1 v hv]; simp [mget]
theorem CInv.in {l0 : List Int} {left : Mp} {cs : List Int} (h : CInv l0 left cs) (hb : l0.length ≤ 1000000000) : ∀ x ∈ cs, InR x := by
  intro x hx
  obtain ⟨v, hv, rfl⟩ := List.getElem_of_mem hx
  have h1 := h.1
  have h2 := h.2.1 v (by omega)
  rw [List.getD_eq_getElem?_getD, List.getElem?_eq_getElem hv, Option.getD_some] at h2
  rw [h2]
  have := List.count_le_length (a := -1 - (v : Int)) (l := l0)
  unfold InR
  split <;> omega

mutual
theorem repT_heads0 : ∀ (t : T) {I : Imm} {v : Value}, RepT I v t → ∀ k ∈ (visT true t).map (·.2.head), InR k
  | .mk h us, I, v, hv, k, hk => by
    obtain ⟨ad, c, ss, rfl, hr, _, _, _, hsub⟩ := hv.elim
    simp only [visT, List.map_cons, List.mem_cons] at hk
    rcases hk with rfl | hk
    · exact hr
    · exact repL_heads0 us (fun i hi => ⟨I, _, hsub i hi⟩) k hk
theorem repL_heads0 : ∀ (us : List T), (∀ i (h : i < us.length), ∃ I v, RepT I v us[i]) → ∀ k ∈ (visL us).map (·.2.head), InR k
  | [], _, k, hk => by simp [visL] at hk
  | t :: r, h, k, hk => by
    simp only [visL, List.map_append, List.mem_append] at hk
    rcases hk with hk | hk
    · obtain ⟨I, v, hv⟩ := h 0 (by simp)
      refine repT_heads0 t hv k ?_
      rw [visT_eq] at hk ⊢
      exact hk
    · exact repL_heads0 r (fun i hi => h (i + 1) (by simpa using hi)) k hk
end
theorem repT_heads {I : Imm} {v : Value} {t : T} (hv : RepT I v t) {k : Int} (hk : k ∈ hds t) : InR k := repT_heads0 t hv k hk

end Go.Proofs.Ytdbadicpbmndbaa
/- Walks: the example of the chapter on weights. -/
set_option linter.unusedVariables false
set_option linter.unusedSimpArgs false
/- short -/
namespace Go.Proofs.Ytdbadicpbmndbaa
open Go Lg

def toyL : List Sy := [truthS, ⟨⟨#[102]⟩, 1, 1, false⟩, ⟨⟨#[103]⟩, 2, 1, false⟩]
def tC : T := .mk 2 [.mk (-1) [], .mk 1 [.mk (-1) []]]
def tD : T := .mk 1 [.mk 0 []]
theorem toy_right : rightG toyL = true := by decide +kernel
theorem toy_C : termG toyL tC = 0 := by decide +kernel
theorem toy_Cw : wgtG toyL tC = 4 := by decide +kernel
theorem toy_D : termG toyL tD = 10 := by decide +kernel
theorem toy_find : findN toyL ⟨#[103]⟩ = 2 := by decide +kernel
theorem toy_counts {cs : List Int} (h : CInv (hds tC) [] cs) : cs = [2] := by
  have h1 := h.last
  have h2 := h.2.2
  have h3 := h.1
  have hc : ∀ v : Nat, (((hds tC).count (-1 - (v : Int)) : Nat) : Int) = if v = 0 then 2 else 0 := fun v => by
    simp [hds, tC, visT, visL, T.head, List.count_cons]
    by_cases hv : v = 0
    · subst hv; simp
    · rw [if_neg hv]
      have e1 : ¬ (2 : Int) = -1 - v := by omega
      have e2 : ¬ (-1 : Int) = -1 - v := by omega
      have e3 : ¬ (1 : Int) = -1 - v := by omega
      simp [e1, e2, e3]
  cases cs with
  | nil => have := h1 0 (by omega); rw [hc 0] at this; simp at this
  | cons a r =>
    have ha := h1 0 (by omega)
    rw [hc 0] at ha
    cases r with
    | nil => simp at ha; simp [ha]
    | cons b q =>
      exfalso
      have hl := h2 (q.length + 1) rfl
      have hlt : q.length + 1 < 256 := by simp at h3; omega
      rw [h1 _ hlt, hc, if_neg (by omega)] at hl
      exact hl rfl

end Go.Proofs.Ytdbadicpbmndbaa
/- Walks: the example of the chapter on weights; the statement on names. -/
set_option linter.unusedVariables false
set_option linter.unusedSimpArgs false
/- short -/
namespace Go.Proofs.Ytdbadicpbmndbaa
open Go Lg

end Go.Proofs.Ytdbadicpbmndbaa
/- Walk: the statement on places under others. -/
set_option linter.unusedVariables false
set_option linter.unusedSimpArgs false
/- short -/
namespace Go.Proofs.Ytdbadicpbmndbaa
open Go Lg

theorem Ints_is {I : Imm} {va vb : Value} {xs ys : List Int} {a : Bool} (ha : RInts I va xs) (hb : RInts I vb ys) (h : decide (xs = ys) = a) :
    Does Try.prog 43 [va, vb] I [] (fun v I' δ' => v = .bool a ∧ δ' = []) := by subst h; exact Ints_does I ha hb

theorem under_trans {p q o : List Int} (h : underL p q = true) (k : underL q o = true) : underL p o = true := by
  simp only [underL, decide_eq_true_eq] at *
  refine ⟨by omega, ?_⟩
  obtain ⟨h1, h2⟩ := h
  obtain ⟨k1, k2⟩ := k
  rw [k2, List.take_take, Nat.min_eq_left h1] at h2
  exact h2
theorem under_both {p q : List Int} (h : underL p q = true) (k : underL q p = true) : p = q := by
  simp only [underL, decide_eq_true_eq] at *
  have hl : p.length = q.length := by omega
  have := h.2
  rw [hl, List.take_length] at this
  exact this

end Go.Proofs.Ytdbadicpbmndbaa
/- Plain facts on places: what is put is there, what is apart stays. No condition. -/
set_option linter.unusedVariables false
set_option linter.unusedSimpArgs false
namespace Go.Proofs.Ytdbadicpbmndbaa
open Go Lg

theorem putT_c (t u : T) (i : Nat) (r : List Int) (h : i < t.args.length) : putT t ((i : Int) :: r) u = .mk t.head (t.args.set i (putT t.args[i] r u)) := by
  simp [putT, h]
theorem atT_i (t : T) (i : Nat) (r : List Int) (h : i < t.args.length) : atT t ((i : Int) :: r) = atT t.args[i] r := by
  rw [atT_c]; simp [h]
theorem atT_put : ∀ (p : List Int) (t u : T), (atT t p).isSome = true → atT (putT t p u) p = some u
  | [], t, u, _ => by simp [atT, putT]
  | x :: r, t, u, h => by
    obtain ⟨i, rfl, hi, hs⟩ := atT_cons h
    rw [putT_c t u i r hi, atT_i _ i r (by simp [T.args]; exact hi)]
    have e : (T.mk t.head (t.args.set i (putT t.args[i] r u))).args[i]'(by simp [T.args]; exact hi) = putT t.args[i] r u := by simp [T.args]
    rw [e]
    exact atT_put r _ u hs
theorem putT_at : ∀ (p : List Int) (t o : T), atT t p = some o → putT t p o = t
  | [], t, o, h => by simp [atT] at h; simp [putT, h]
  | x :: r, t, o, h => by
    obtain ⟨i, rfl, hi, hs⟩ := atT_cons (t := t) (x := x) (r := r) (by rw [h]; rfl)
    rw [atT_i t i r hi] at h
    rw [putT_c t o i r hi, putT_at r _ o h, List.set_getElem_self]
    cases t; rfl
theorem under_c (i : Int) (r s : List Int) : underL (i :: r) (i :: s) = underL r s := by simp [underL]
theorem under_nil (q : List Int) : underL [] q = true := by simp [underL]
theorem atT_apart : ∀ (p q : List Int) (t u : T), (atT t p).isSome = true → underL p q = false → underL q p = false → atT (putT t p u) q = atT t q
  | [], q, t, u, _, h, _ => by rw [under_nil] at h; cases h
  | x :: r, [], t, u, _, _, h => by rw [under_nil] at h; cases h
  | x :: r, y :: s, t, u, hs, h1, h2 => by
    obtain ⟨i, rfl, hi, hs'⟩ := atT_cons hs
    rw [putT_c t u i r hi, atT_c, atT_c]
    by_cases hy : y = (i : Int)
    · subst hy
      rw [under_c] at h1 h2
      have := atT_apart r s _ u hs' h1 h2
      simp [T.args] at hi ⊢
      simpa [hi, T.args] using this
    · by_cases hyl : 0 ≤ y ∧ y.toNat < t.args.length
      · have hne : i ≠ y.toNat := by omega
        rw [dif_pos hyl, dif_pos ⟨hyl.1, by show y.toNat < (t.args.set i _).length; simp; exact hyl.2⟩]
        have e : (T.mk t.head (t.args.set i (putT t.args[i] r u))).args[y.toNat]'(by show y.toNat < (t.args.set i _).length; simp; exact hyl.2) = t.args[y.toNat]'hyl.2 := by
          show (t.args.set i _)[y.toNat]'_ = _
          exact List.getElem_set_ne hne _
        rw [e]
      · rw [dif_neg hyl, dif_neg (fun hh => hyl ⟨hh.1, by have : y.toNat < (t.args.set i (putT t.args[i] r u)).length := hh.2; simpa using this⟩)]
theorem putT_app : ∀ (p q : List Int) (t a u : T), atT t p = some a → putT t (p ++ q) u = putT t p (putT a q u)
  | [], q, t, a, u, h => by simp [atT] at h; subst h; simp [putT]
  | x :: r, q, t, a, u, h => by
    obtain ⟨i, rfl, hi, hs⟩ := atT_cons (t := t) (x := x) (r := r) (by rw [h]; rfl)
    rw [atT_i t i r hi] at h
    rw [List.cons_append, putT_c t _ i _ hi, putT_c t _ i _ hi, putT_app r q _ a u h]
theorem sizeL_set : ∀ (l : List T) (i : Nat) (x : T) (h : i < l.length), sizeL (l.set i x) + l[i].size = sizeL l + x.size
  | t :: r, 0, x, _ => by simp [sizeL]; omega
  | t :: r, i + 1, x, h => by
    have := sizeL_set r i x (by simpa using h)
    simp [sizeL]; omega
theorem size_eq (t : T) : t.size = 1 + sizeL t.args := by cases t; simp [T.size, T.args]
theorem putT_size : ∀ (p : List Int) (t u : T), (atT t p).isSome = true → (putT t p u).size ≤ t.size + u.size
  | [], t, u, _ => by simp [putT]
  | x :: r, t, u, h => by
    obtain ⟨i, rfl, hi, hs⟩ := atT_cons h
    have h1 := putT_size r _ u hs
    have h2 := sizeL_set t.args i (putT t.args[i] r u) hi
    have h3 := size_eq t
    rw [putT_c t u i r hi, T.size]; omega
theorem atT_size : ∀ (p : List Int) (t : T), ((atT t p).getD zeroT).size ≤ t.size
  | [], t => by simp [atT]
  | x :: r, t => by
    rw [atT_c]
    by_cases h : 0 ≤ x ∧ x.toNat < t.args.length
    · rw [dif_pos h]
      have h1 := atT_size r (t.args[x.toNat]'h.2)
      have h2 := sizeL_mem t.args x.toNat h.2
      have h3 := size_eq t
      omega
    · rw [dif_neg h]
      have := t.size_pos
      simpa [zeroT, T.size, sizeL] using this

/-! ### contracts, with their answers by name -/
theorem Few_is {I : Imm} {v : Value} {t : T} {b : Bool} (hv : RepT I v t) (h : decide (t.size ≤ 500) = b) :
    Does Try.prog 102 [v] I [] (fun v I' δ' => v = .bool b ∧ δ' = []) := by subst h; exact Few_does I v t hv
theorem Same_is {I : Imm} {v w : Value} {t u : T} (hv : RepT I v t) (hw : RepT I w u) (hbt : t.size ≤ 1000000000) (h : t = u) :
    Does Try.prog 76 [v, w] I [] (fun v I' δ' => v = .bool true ∧ δ' = []) := by
  subst h
  exact (Same_does I v w t t hv hw hbt hbt).mono fun _ _ _ _ ⟨h1, h2⟩ => ⟨by rw [h1]; simp, h2⟩
/-- a part, laid out -/
def OutT (g : T) (s : Value) (v : Value) (I : Imm) : Prop := ∃ a c, v = .tuple #[.agg #[.int .i64 g.head, .slice a g.args.length c], s] ∧ RepT I (.agg #[.int .i64 g.head, .slice a g.args.length c]) g
def outP (t : T) (p : List Int) (u : T) : T := if (atT t p).isSome then putT t p u else zeroT
theorem outP_size (t : T) (p : List Int) (u : T) : (outP t p u).size ≤ t.size + u.size := by
  unfold outP
  split
  · exact putT_size p t u ‹_›
  · have := t.size_pos; simp [zeroT, T.size, sizeL]; omega
end Go.Proofs.Ytdbadicpbmndbaa
/- Walks: the statement on how heavy parts are. -/
set_option linter.unusedVariables false
set_option linter.unusedSimpArgs false
/- short -/
namespace Go.Proofs.Ytdbadicpbmndbaa
open Go Lg

def sumV (gs : List Sy) (l : List (Bool × T)) : Int := (l.map fun x => wB gs x.2.head).sum
theorem sumV_app (gs : List Sy) (a b : List (Bool × T)) : sumV gs (a ++ b) = sumV gs a + sumV gs b := by simp [sumV]
theorem wgtG_eq (gs : List Sy) (t : T) : wgtG gs t = wB gs t.head + sumV gs (visL t.args) := by
  unfold wgtG hds sumV
  rw [visT_eq, List.map_cons, List.map_cons, List.sum_cons, List.map_map]
  rfl
theorem sumV_T (gs : List Sy) (b : Bool) (t : T) : sumV gs (visT b t) = wgtG gs t := by
  rw [wgtG_eq, visT_eq]; simp [sumV]
theorem sumV_nonneg {gs : List Sy} (hr : rightG gs = true) : ∀ l : List (Bool × T), (∀ x ∈ l, x.2.head < 0 ∨ (0 ≤ x.2.head ∧ x.2.head < gs.length)) → (l.length : Int) ≤ sumV gs l
  | [], _ => by simp [sumV]
  | x :: r, h => by
    have h1 := wB_range hr (h x (List.mem_cons_self ..))
    have h2 := sumV_nonneg hr r (fun y hy => h y (List.mem_cons_of_mem _ hy))
    unfold sumV at *
    simp only [List.map_cons, List.sum_cons, List.length_cons]; omega
theorem visL_split (us : List T) (i : Nat) (hi : i < us.length) : visL us = visL (us.take i) ++ (visT false us[i] ++ visL (us.drop (i + 1))) := by
  conv => lhs; rw [← List.take_append_drop i us, List.drop_eq_getElem_cons hi]
  rw [visL_app]; rfl
theorem any_visT_unk (gs : List Sy) (a b : Bool) (t : T) : (visT a t).any (unkB gs) = (visT b t).any (unkB gs) := by
  rw [visT_eq, visT_eq]; rfl
theorem OkG.heads {gs : List Sy} {t : T} (h : OkG gs t) : ∀ x ∈ visT true t, x.2.head < 0 ∨ (0 ≤ x.2.head ∧ x.2.head < gs.length) :=
  fun x hx => h.head x.2.head (List.mem_map_of_mem (f := fun y : Bool × T => y.2.head) hx)
theorem OkG.child {gs : List Sy} {t : T} (h : OkG gs t) (i : Nat) (hi : i < t.args.length) : OkG gs t.args[i] ∧ wgtG gs t.args[i] < wgtG gs t := by
  obtain ⟨hd, us⟩ := t
  have hi' : i < us.length := hi
  have hs := visL_split us i hi'
  have hh := h.heads
  rw [visT_eq] at hh
  refine ⟨⟨h.right, chk_part h.chk i hi', ?_, ?_⟩, ?_⟩
  · have h1 := h.unk
    unfold unkG at h1 ⊢
    rw [visT_eq, List.any_cons, Bool.or_eq_false_iff] at h1
    have h2 := h1.2
    change (visL us).any (unkB gs) = false at h2
    rw [hs, List.any_append, List.any_append, Bool.or_eq_false_iff, Bool.or_eq_false_iff] at h2
    rw [any_visT_unk gs true false]
    exact h2.2.1
  · have h1 := h.mix
    unfold mixG at h1 ⊢
    rw [visT_eq, List.any_cons, Bool.or_eq_false_iff] at h1
    have h2 := h1.2
    change (visL us).any (mixB gs) = false at h2
    rw [hs, List.any_append, List.any_append, Bool.or_eq_false_iff, Bool.or_eq_false_iff] at h2
    have h3 := h2.2.1
    rw [visT_eq, List.any_cons, Bool.or_eq_false_iff] at h3
    rw [visT_eq, List.any_cons, Bool.or_eq_false_iff]
    exact ⟨by simp [mixB], h3.2⟩
  · have h1 := wB_range h.right (hh (true, .mk hd us) (List.mem_cons_self ..))
    have e : wgtG gs (T.mk hd us) = wB gs hd + sumV gs (visL us) := wgtG_eq gs _
    have h4 : ∀ x ∈ visL us, x.2.head < 0 ∨ (0 ≤ x.2.head ∧ x.2.head < gs.length) := fun x hx => hh x (List.mem_cons_of_mem _ hx)
    rw [e, hs, sumV_app, sumV_app, sumV_T]
    have h5 := sumV_nonneg h.right (visL (us.take i)) (fun x hx => h4 x (by rw [hs]; exact List.mem_append_left _ hx))
    have h6 := sumV_nonneg h.right (visL (us.drop (i + 1))) (fun x hx => h4 x (by rw [hs]; exact List.mem_append_right _ (List.mem_append_right _ hx)))
    have h7 : 1 ≤ wB gs hd := h1.1
    show wgtG gs us[i] < _
    omega
theorem OkG.at {gs : List Sy} : ∀ (p : List Int) {t u : T}, OkG gs t → atT t p = some u → OkG gs u ∧ (p = [] ∨ wgtG gs u < wgtG gs t)
  | [], t, u, h, hu => by simp [atT] at hu; subst hu; exact ⟨h, .inl rfl⟩
  | x :: r, t, u, h, hu => by
    rw [atT_c] at hu
    split at hu
    · rename_i hx
      obtain ⟨h1, h2⟩ := h.child x.toNat hx.2
      obtain ⟨h3, h4⟩ := OkG.at r h1 hu
      refine ⟨h3, .inr ?_⟩
      rcases h4 with rfl | h4
      · simp [atT] at hu; subst hu; exact h2
      · omega
    · cases hu

end Go.Proofs.Ytdbadicpbmndbaa
/- Walks: a term with all put; how heavy that is. -/
set_option linter.unusedVariables false
set_option linter.unusedSimpArgs false
/- short -/
namespace Go.Proofs.Ytdbadicpbmndbaa
open Go Lg

def OutA (bs : List Bi) (t : T) (e : Int) (u : T) : Prop := (e = 0 ∧ chkB bs ∧ chkT t = 0 ∧ u = sbT bs t ∧ chkT u = 0) ∨ (e ≠ 0 ∧ u = zeroT)
theorem Apply_does {I : Imm} {vs v : Value} {bs : List Bi} {t : T} (hs : RepB I vs bs) (hv : RepT I v t) (hbs : ∀ b ∈ bs, b.2.size ≤ 500) (ht : t.size ≤ 500) :
    Does Try.prog 120 [vs, v] I [] (fun v I' δ' => (∃ e u r, v = .tuple #[r, .int .i64 e] ∧ RepT I' r u ∧ OutA bs t e u) ∧ δ' = []) := by
  obtain ⟨a0, c0, rfl, hr0⟩ := hv.shape
  obtain ⟨sa, sc, rfl⟩ := hs.shape
  have hsz : (sbT bs t).size ≤ 1000000000 := by have := sbT_size (m := 500) (by omega) hbs t; omega
  refine Does.intro Try.func120 rfl Try.ntmps120 rfl fun w0 => ?_
  refine code_seq ?_
  refine code_region ?_
  refine o_box rfl rfl rfl (fun b3 => ?_)
  refine o_alloc z47 rfl rfl (fun b4 => ?_)
  refine op_v (v_assign rfl) rfl ?_
  refine ops_nil ?_
  refine post_next ?_
  refine code_seq ?_
  refine code_seq ?_
  refine code_region ?_
  refine op_v (v_move rfl) rfl ?_
  refine op_call pl154 rfl rfl ((SCheck_does hs (fun b hb => by have := hbs b hb; omega))) Parts.none ?_
  rintro v7 I7 _ hI7 ⟨⟨e7, rfl, he7⟩, rfl⟩
  by_cases h8 : e7 ≠ 0
  · first | refine op_v (v_cmptA rfl rfl rfl) rfl ?_ | refine op_v (v_cmpfA rfl rfl rfl) rfl ?_ | refine op_v (v_cmp rfl rfl rfl) rfl ?_
    refine op_v (v_move rfl) rfl ?_
    first
      | (refine op_want rfl rfl ?_
         refine op_v (v_loadA ty47 rfl rfl) rfl ?_)
      | (refine op_skip rfl rfl (by simp [undef]) rfl ?_)
    first
      | (refine op_want rfl rfl ?_
         refine op_call pl105 rfl rfl ((TCheck_does (hv.mono Imm.leA) (by omega))) Parts.none ?_
         rintro v11 I11 _ hI11 ⟨rfl, rfl⟩)
      | (refine op_skip rfl rfl (by simp [undef]) rfl ?_)
    first
      | (refine op_want rfl rfl ?_
         first | refine op_v (v_cmptA rfl rfl rfl) rfl ?_ | refine op_v (v_cmpfA rfl rfl rfl) rfl ?_ | refine op_v (v_cmp rfl rfl rfl) rfl ?_)
      | (refine op_skip rfl rfl (by simp [undef]) rfl ?_)
    first | refine op_v (v_pickt rfl rfl) rfl ?_ | refine op_v (v_pickf rfl rfl) rfl ?_ | refine op_v (v_pickb rfl rfl rfl) rfl ?_
    refine ops_nil ?_
    refine post_next ?_
    refine code_cond_t rfl ?_
    refine code_seq ?_
    refine code_region ?_
    refine op_v (v_build bl47 rfl rfl) rfl ?_
    refine o_store ty47 rfl rfl rfl rfl rfl (by repeat (first | exact Swap.here | apply Swap.there)) rfl ?_
    refine op_v (v_assign rfl) rfl ?_
    refine ops_nil ?_
    refine post_next ?_
    refine code_ret ?_
    refine post_ret_then ?_
    refine post_ret (rs := [.cell 4 47, .tmp 5]) rfl (List.Perm.refl _) (.cons (.cell rfl ty47 (by repeat (first | exact Has.here | apply Has.there)) rfl) (.cons (.tmp rfl) .nil)) (List.nil_sublist _) ?_
    exact ⟨⟨1, zeroT, _, rfl, zeroT_rep _, .inr ⟨by omega, rfl⟩⟩, rfl⟩
  · first | refine op_v (v_cmptA rfl rfl rfl) rfl ?_ | refine op_v (v_cmpfA rfl rfl rfl) rfl ?_ | refine op_v (v_cmp rfl rfl rfl) rfl ?_
    refine op_v (v_move rfl) rfl ?_
    first
      | (refine op_want rfl rfl ?_
         refine op_v (v_loadA ty47 rfl rfl) rfl ?_)
      | (refine op_skip rfl rfl (by simp [undef]) rfl ?_)
    first
      | (refine op_want rfl rfl ?_
         refine op_call pl105 rfl rfl ((TCheck_does (hv.mono Imm.leA) (by omega))) Parts.none ?_
         rintro v11 I11 _ hI11 ⟨rfl, rfl⟩)
      | (refine op_skip rfl rfl (by simp [undef]) rfl ?_)
    by_cases h12 : chkT t ≠ 0
    · first
        | (refine op_want rfl rfl ?_
           first | refine op_v (v_cmptA rfl rfl rfl) rfl ?_ | refine op_v (v_cmpfA rfl rfl rfl) rfl ?_ | refine op_v (v_cmp rfl rfl rfl) rfl ?_)
        | (refine op_skip rfl rfl (by simp [undef]) rfl ?_)
      first | refine op_v (v_pickt rfl rfl) rfl ?_ | refine op_v (v_pickf rfl rfl) rfl ?_ | refine op_v (v_pickb rfl rfl rfl) rfl ?_
      refine ops_nil ?_
      refine post_next ?_
      refine code_cond_t rfl ?_
      refine code_seq ?_
      refine code_region ?_
      refine op_v (v_build bl47 rfl rfl) rfl ?_
      refine o_store ty47 rfl rfl rfl rfl rfl (by repeat (first | exact Swap.here | apply Swap.there)) rfl ?_
      refine op_v (v_assign rfl) rfl ?_
      refine ops_nil ?_
      refine post_next ?_
      refine code_ret ?_
      refine post_ret_then ?_
      refine post_ret (rs := [.cell 4 47, .tmp 5]) rfl (List.Perm.refl _) (.cons (.cell rfl ty47 (by repeat (first | exact Has.here | apply Has.there)) rfl) (.cons (.tmp rfl) .nil)) (List.nil_sublist _) ?_
      exact ⟨⟨1, zeroT, _, rfl, zeroT_rep _, .inr ⟨by omega, rfl⟩⟩, rfl⟩
    · first
        | (refine op_want rfl rfl ?_
           first | refine op_v (v_cmptA rfl rfl rfl) rfl ?_ | refine op_v (v_cmpfA rfl rfl rfl) rfl ?_ | refine op_v (v_cmp rfl rfl rfl) rfl ?_)
        | (refine op_skip rfl rfl (by simp [undef]) rfl ?_)
      first | refine op_v (v_pickt rfl rfl) rfl ?_ | refine op_v (v_pickf rfl rfl) rfl ?_ | refine op_v (v_pickb rfl rfl rfl) rfl ?_
      refine ops_nil ?_
      refine post_next ?_
      refine code_cond_f rfl ?_
      refine code_skip ?_
      refine post_next ?_
      refine code_seq ?_
      refine code_draw (.fl 0 (.fl 1 (.ef 2 (.fl 3 (.ef 4 (.ef 5 (.fl 6 (.fl 7 (.ef 8 (.ef 9 .done)))))))))) (fun _ => _) mixed (by kernel_rfl) (by kernel_rfl) (fun _ => (List.Sublist.refl _)) ?_
      refine e_fl rfl rfl (fun hs_ => PF.mk rfl (v_loadA ty47 rfl rfl) hs_) ?_
      refine e_fl rfl rfl (fun hs_ => PF.mk rfl (v_move rfl) hs_) ?_
      refine e_eff rfl (by intro cs b hc; cases hc) (by intro c hc; cases hc) ?_
      refine op_call pl155 rfl rfl ((open_does (hs.mono Imm.leA))) Parts.none ?_
      rintro v17 I17 _ hI17 ⟨b17, xs17, rfl, rfl, hM⟩
      refine ops_nil ?_
      refine e_next rfl side_allA ?_
      refine e_fl rfl rfl (fun hs_ => PF.mk rfl (v_makeFunc rfl rfl) hs_) ?_
      refine e_eff rfl (by intro cs b hc; cases hc) (by intro c hc; cases hc) ?_
      refine op_call pl144 rfl rfl ((rebuild_does (I0 := I17) (fun J v u hJ hu => FDoes.ofFirst (firsts := [_]) pl156 (of_does hu (hM.mono hJ))) t.size t (Nat.le_refl _) _ _ (Imm.le_refl _) (hv.mono Imm.leA))) (Parts.one Del.here) ?_
      rintro v19 I19 _ hI19 ⟨hv19, rfl⟩
      change RepT I19 v19 (sbT bs t) at hv19
      refine ops_nil ?_
      refine e_next rfl (side_nil (by kernel_rfl)) ?_
      refine e_eff rfl (by intro cs b hc; cases hc) (by intro c hc; cases hc) ?_
      refine op_call pl143 rfl rfl ((end_does hv19 hsz)) Parts.none ?_
      rintro v20 I20 _ hI20 ⟨⟨u20, rfl, hv20⟩, rfl⟩
      obtain ⟨a20, c20, rfl, _⟩ := hv20.shape
      refine ops_nil ?_
      refine e_next rfl (side_nil (by kernel_rfl)) ?_
      refine e_fl rfl rfl (fun hs_ => PF.mk rfl (v_extract rfl rfl) hs_) ?_
      refine e_fl rfl rfl (fun hs_ => PF.mk rfl (v_extract rfl rfl) hs_) ?_
      refine e_eff rfl (by intro cs b hc; cases hc) (by intro c hc; cases hc) ?_
      refine o_store ty47 rfl rfl rfl rfl rfl (by repeat (first | exact Swap.here | apply Swap.there)) rfl ?_
      refine ops_nil ?_
      refine e_next_ (side_nil (by kernel_rfl)) ?_
      refine e_eff rfl (by intro cs b hc; cases hc) (by intro c hc; cases hc) ?_
      refine op_v (v_assign rfl) rfl ?_
      refine ops_nil ?_
      refine e_next rfl (side_nil (by kernel_rfl)) ?_
      refine e_done ?_
      refine post_next ?_
      refine code_ret ?_
      refine post_ret (rs := [.cell 4 47, .tmp 5]) rfl (List.Perm.refl _) (.cons (.cell rfl ty47 (by repeat (first | exact Has.here | apply Has.there)) rfl) (.cons (.tmp rfl) .nil)) (List.nil_sublist _) ?_
      have he0 : e7 = 0 := by omega
      have hcb : chkB bs := by rcases he7 with h | h; exact h.2; omega
      refine ⟨⟨chkT (sbT bs t), _, _, rfl, hv20, ?_⟩, rfl⟩
      by_cases hq : chkT (sbT bs t) = 0
      · rw [if_pos hq]; exact .inl ⟨hq, hcb, by omega, rfl, hq⟩
      · rw [if_neg hq]; exact .inr ⟨hq, rfl⟩

theorem FewB_does {I : Imm} {v : Value} {bs : List Bi} (hv : RepB I v bs) :
    Does Try.prog 35 [v] I [] (fun v I' δ' => (∃ b, v = .bool b ∧ (b = true → ∀ x ∈ bs, x.2.size ≤ 500)) ∧ δ' = []) := by
  obtain ⟨ad, c, rfl⟩ := hv.shape
  obtain ⟨_, hc, hb, hr, ss, hat, hsub⟩ := hv.open
  refine Does.intro Try.func35 rfl Try.ntmps35 rfl fun w0 => ?_
  refine code_seq ?_
  refine code_region ?_
  refine op_v (v_assign rfl) rfl ?_
  refine ops_nil ?_
  refine post_next ?_
  refine code_seq ?_
  refine code_region ?_
  refine op_v (v_assign rfl) rfl ?_
  refine ops_nil ?_
  refine post_next ?_
  refine code_seq ?_
  refine code_seq ?_
  refine code_region ?_
  refine op_v (v_assign rfl) rfl ?_
  refine ops_nil ?_
  refine post_next ?_
  refine code_block ?_
  refine code_loop (fun m σ' I' δ' => ∃ (k n : Nat), m = bs.length - k ∧ k ≤ bs.length ∧ σ' = [(0, .slice ad bs.length c), (3, .int .i64 n), (4, .int .i64 k)] ∧ I.le I' ∧ δ' = [] ∧ n ≤ 2000 ∧ (n ≤ 500 → ∀ i (h : i < bs.length), i < k → bs[i].2.size ≤ 500)) bs.length [(0, .slice ad bs.length c), (3, .int .i64 (0 : Nat)), (4, .int .i64 (0 : Nat))] ⟨0, 0, rfl, Nat.zero_le _, rfl, Imm.le_refl _, rfl, by omega, fun _ i _ h => by omega⟩ ⟨rfl, rfl, rfl, trivial⟩ ?_
  rintro m _ I0 _ ⟨k, n, rfl, hk, rfl, hI0, rfl, hn, hp⟩
  refine code_seq ?_
  refine code_seq ?_
  refine code_region ?_
  refine op_v (v_move rfl) rfl ?_
  refine op_v (v_move rfl) rfl ?_
  by_cases h7 : k < bs.length
  · have hs1 := (hat k h7).isSome
    refine op_v (v_len Try.underlying51 rfl) rfl ?_
    first | refine op_v (v_cmptA rfl rfl rfl) rfl ?_ | refine op_v (v_cmpfA rfl rfl rfl) rfl ?_ | refine op_v (v_cmp rfl rfl rfl) rfl ?_
    refine op_v (v_move rfl) rfl ?_
    first
      | (refine op_want rfl rfl ?_
         refine op_v (v_move rfl) rfl ?_)
      | (refine op_skip rfl rfl (by simp [undef]) rfl ?_)
    first
      | (refine op_want rfl rfl ?_
         refine op_v (v_len Try.underlying51 rfl) rfl ?_)
      | (refine op_skip rfl rfl (by simp [undef]) rfl ?_)
    by_cases h12 : bs.length ≤ 10
    · first
        | (refine op_want rfl rfl ?_
           first | refine op_v (v_cmptA rfl rfl rfl) rfl ?_ | refine op_v (v_cmpfA rfl rfl rfl) rfl ?_ | refine op_v (v_cmp rfl rfl rfl) rfl ?_)
        | (refine op_skip rfl rfl (by simp [undef]) rfl ?_)
      first | refine op_v (v_pickt rfl rfl) rfl ?_ | refine op_v (v_pickf rfl rfl) rfl ?_ | refine op_v (v_pickb rfl rfl rfl) rfl ?_
      refine op_v (v_move rfl) rfl ?_
      first
        | (refine op_want rfl rfl ?_
           refine op_v (v_move rfl) rfl ?_)
        | (refine op_skip rfl rfl (by simp [undef]) rfl ?_)
      by_cases h16 : n ≤ 500
      · first
          | (refine op_want rfl rfl ?_
             first | refine op_v (v_cmptA rfl rfl rfl) rfl ?_ | refine op_v (v_cmpfA rfl rfl rfl) rfl ?_ | refine op_v (v_cmp rfl rfl rfl) rfl ?_)
          | (refine op_skip rfl rfl (by simp [undef]) rfl ?_)
        first | refine op_v (v_pickt rfl rfl) rfl ?_ | refine op_v (v_pickf rfl rfl) rfl ?_ | refine op_v (v_pickb rfl rfl rfl) rfl ?_
        refine ops_nil ?_
        refine post_next ?_
        refine code_cond_t rfl ?_
        refine code_skip ?_
        refine post_next ?_
        refine code_seq ?_
        refine code_block ?_
        refine code_region ?_
        refine op_v (v_move rfl) rfl ?_
        refine op_v (v_move rfl) rfl ?_
        refine op_v (v_move rfl) rfl ?_
        first | refine op_v (v_indexA Try.underlying51 sz54 rfl rfl) rfl ?_ | refine op_v (v_indexIA Try.underlying51 sz54 rfl rfl) rfl ?_
        first | refine op_v (v_fieldB 1 Try.underlying54 rfl rfl fz47 rfl) rfl ?_ | refine op_v (v_fieldI 1 Try.underlying54 rfl rfl fz47 rfl (by assumption)) rfl ?_ | refine op_v (v_field Try.underlying54 rfl fz47 rfl rfl) rfl ?_
        first | refine op_v (v_loadI0 ty47 ((hat k h7).mono hI0) rfl rfl rfl) rfl ?_ | refine op_v (v_loadI ty47 ((hat k h7).mono hI0) rfl rfl rfl) rfl ?_
        refine op_call pl82 rfl rfl ((Count_does _ _ (Nat.le_refl _) 500 (by omega) _ _ ((hsub k h7).mono hI0))) Parts.none ?_
        rintro v26 I26 _ hI26 ⟨rfl, rfl⟩
        first | refine op_v (v_addb rfl rfl rfl (by omega)) rfl ?_ | refine op_v (v_add rfl rfl) rfl ?_
        refine op_v (v_assign rfl) rfl ?_
        refine ops_nil ?_
        refine post_out ?_
        refine post_next ?_
        refine code_region ?_
        refine op_v (v_move rfl) rfl ?_
        first | refine op_v (v_addb rfl rfl rfl (by omega)) rfl ?_ | refine op_v (v_add rfl rfl) rfl ?_
        refine op_v (v_assign rfl) rfl ?_
        refine ops_nil ?_
        refine post_again (bs.length - (k + 1)) [(0, .slice ad bs.length c), (3, .int .i64 ((n : Int) + ((min bs[k].2.size (500 + 1) : Nat) : Int))), (4, .int .i64 (k + 1 : Nat))] (by omega) ⟨k + 1, n + min bs[k].2.size (500 + 1), rfl, h7, by rw [show ((n + min bs[k].2.size (500 + 1) : Nat) : Int) = (n : Int) + ((min bs[k].2.size (500 + 1) : Nat) : Int) from Int.natCast_add _ _], Imm.leA, rfl, by omega, fun hq i h hi => ?_⟩ ⟨rfl, rfl, rfl, trivial⟩
        rcases Nat.lt_or_ge i k with hik | hik
        · exact hp (by omega) i h hik
        have hik2 : i = k := by omega
        subst hik2
        omega
      · first
          | (refine op_want rfl rfl ?_
             first | refine op_v (v_cmptA rfl rfl rfl) rfl ?_ | refine op_v (v_cmpfA rfl rfl rfl) rfl ?_ | refine op_v (v_cmp rfl rfl rfl) rfl ?_)
          | (refine op_skip rfl rfl (by simp [undef]) rfl ?_)
        first | refine op_v (v_pickt rfl rfl) rfl ?_ | refine op_v (v_pickf rfl rfl) rfl ?_ | refine op_v (v_pickb rfl rfl rfl) rfl ?_
        refine ops_nil ?_
        refine post_next ?_
        refine code_cond_f rfl ?_
        refine code_exit ?_
        refine post_exit_then ?_
        refine post_exit_then ?_
        refine post_exit ?_
        refine post_next ?_
        refine code_seq ?_
        refine code_region ?_
        refine op_v (v_move rfl) rfl ?_
        refine op_v (v_len Try.underlying51 rfl) rfl ?_
        first | refine op_v (v_cmptA rfl rfl rfl) rfl ?_ | refine op_v (v_cmpfA rfl rfl rfl) rfl ?_ | refine op_v (v_cmp rfl rfl rfl) rfl ?_
        refine op_v (v_move rfl) rfl ?_
        first
          | (refine op_want rfl rfl ?_
             refine op_v (v_move rfl) rfl ?_)
          | (refine op_skip rfl rfl (by simp [undef]) rfl ?_)
        first
          | (refine op_want rfl rfl ?_
             first | refine op_v (v_cmptA rfl rfl rfl) rfl ?_ | refine op_v (v_cmpfA rfl rfl rfl) rfl ?_ | refine op_v (v_cmp rfl rfl rfl) rfl ?_)
          | (refine op_skip rfl rfl (by simp [undef]) rfl ?_)
        first | refine op_v (v_pickt rfl rfl) rfl ?_ | refine op_v (v_pickf rfl rfl) rfl ?_ | refine op_v (v_pickb rfl rfl rfl) rfl ?_
        refine op_v (v_assign rfl) rfl ?_
        refine ops_nil ?_
        refine post_next ?_
        refine code_ret ?_
        refine post_ret (rs := [.tmp 2]) rfl (List.Perm.refl _) (.cons (.tmp rfl) .nil) (List.nil_sublist _) ?_
        exact ⟨⟨false, rfl, fun h => by cases h⟩, rfl⟩
    · first
        | (refine op_want rfl rfl ?_
           first | refine op_v (v_cmptA rfl rfl rfl) rfl ?_ | refine op_v (v_cmpfA rfl rfl rfl) rfl ?_ | refine op_v (v_cmp rfl rfl rfl) rfl ?_)
        | (refine op_skip rfl rfl (by simp [undef]) rfl ?_)
      first | refine op_v (v_pickt rfl rfl) rfl ?_ | refine op_v (v_pickf rfl rfl) rfl ?_ | refine op_v (v_pickb rfl rfl rfl) rfl ?_
      refine op_v (v_move rfl) rfl ?_
      first
        | (refine op_want rfl rfl ?_
           refine op_v (v_move rfl) rfl ?_)
        | (refine op_skip rfl rfl (by simp [undef]) rfl ?_)
      first
        | (refine op_want rfl rfl ?_
           first | refine op_v (v_cmptA rfl rfl rfl) rfl ?_ | refine op_v (v_cmpfA rfl rfl rfl) rfl ?_ | refine op_v (v_cmp rfl rfl rfl) rfl ?_)
        | (refine op_skip rfl rfl (by simp [undef]) rfl ?_)
      first | refine op_v (v_pickt rfl rfl) rfl ?_ | refine op_v (v_pickf rfl rfl) rfl ?_ | refine op_v (v_pickb rfl rfl rfl) rfl ?_
      refine ops_nil ?_
      refine post_next ?_
      refine code_cond_f rfl ?_
      refine code_exit ?_
      refine post_exit_then ?_
      refine post_exit_then ?_
      refine post_exit ?_
      refine post_next ?_
      refine code_seq ?_
      refine code_region ?_
      refine op_v (v_move rfl) rfl ?_
      refine op_v (v_len Try.underlying51 rfl) rfl ?_
      first | refine op_v (v_cmptA rfl rfl rfl) rfl ?_ | refine op_v (v_cmpfA rfl rfl rfl) rfl ?_ | refine op_v (v_cmp rfl rfl rfl) rfl ?_
      refine op_v (v_move rfl) rfl ?_
      first
        | (refine op_want rfl rfl ?_
           refine op_v (v_move rfl) rfl ?_)
        | (refine op_skip rfl rfl (by simp [undef]) rfl ?_)
      first
        | (refine op_want rfl rfl ?_
           first | refine op_v (v_cmptA rfl rfl rfl) rfl ?_ | refine op_v (v_cmpfA rfl rfl rfl) rfl ?_ | refine op_v (v_cmp rfl rfl rfl) rfl ?_)
        | (refine op_skip rfl rfl (by simp [undef]) rfl ?_)
      first | refine op_v (v_pickt rfl rfl) rfl ?_ | refine op_v (v_pickf rfl rfl) rfl ?_ | refine op_v (v_pickb rfl rfl rfl) rfl ?_
      refine op_v (v_assign rfl) rfl ?_
      refine ops_nil ?_
      refine post_next ?_
      refine code_ret ?_
      refine post_ret (rs := [.tmp 2]) rfl (List.Perm.refl _) (.cons (.tmp rfl) .nil) (List.nil_sublist _) ?_
      exact ⟨⟨false, rfl, fun h => by cases h⟩, rfl⟩
  · refine op_v (v_len Try.underlying51 rfl) rfl ?_
    first | refine op_v (v_cmptA rfl rfl rfl) rfl ?_ | refine op_v (v_cmpfA rfl rfl rfl) rfl ?_ | refine op_v (v_cmp rfl rfl rfl) rfl ?_
    refine op_v (v_move rfl) rfl ?_
    first
      | (refine op_want rfl rfl ?_
         refine op_v (v_move rfl) rfl ?_)
      | (refine op_skip rfl rfl (by simp [undef]) rfl ?_)
    first
      | (refine op_want rfl rfl ?_
         refine op_v (v_len Try.underlying51 rfl) rfl ?_)
      | (refine op_skip rfl rfl (by simp [undef]) rfl ?_)
    first
      | (refine op_want rfl rfl ?_
         first | refine op_v (v_cmptA rfl rfl rfl) rfl ?_ | refine op_v (v_cmpfA rfl rfl rfl) rfl ?_ | refine op_v (v_cmp rfl rfl rfl) rfl ?_)
      | (refine op_skip rfl rfl (by simp [undef]) rfl ?_)
    first | refine op_v (v_pickt rfl rfl) rfl ?_ | refine op_v (v_pickf rfl rfl) rfl ?_ | refine op_v (v_pickb rfl rfl rfl) rfl ?_
    refine op_v (v_move rfl) rfl ?_
    first
      | (refine op_want rfl rfl ?_
         refine op_v (v_move rfl) rfl ?_)
      | (refine op_skip rfl rfl (by simp [undef]) rfl ?_)
    first
      | (refine op_want rfl rfl ?_
         first | refine op_v (v_cmptA rfl rfl rfl) rfl ?_ | refine op_v (v_cmpfA rfl rfl rfl) rfl ?_ | refine op_v (v_cmp rfl rfl rfl) rfl ?_)
      | (refine op_skip rfl rfl (by simp [undef]) rfl ?_)
    first | refine op_v (v_pickt rfl rfl) rfl ?_ | refine op_v (v_pickf rfl rfl) rfl ?_ | refine op_v (v_pickb rfl rfl rfl) rfl ?_
    refine ops_nil ?_
    refine post_next ?_
    refine code_cond_f rfl ?_
    refine code_exit ?_
    refine post_exit_then ?_
    refine post_exit_then ?_
    refine post_exit ?_
    refine post_next ?_
    refine code_seq ?_
    refine code_region ?_
    refine op_v (v_move rfl) rfl ?_
    refine op_v (v_len Try.underlying51 rfl) rfl ?_
    by_cases h30 : bs.length ≤ 10
    · first | refine op_v (v_cmptA rfl rfl rfl) rfl ?_ | refine op_v (v_cmpfA rfl rfl rfl) rfl ?_ | refine op_v (v_cmp rfl rfl rfl) rfl ?_
      refine op_v (v_move rfl) rfl ?_
      first
        | (refine op_want rfl rfl ?_
           refine op_v (v_move rfl) rfl ?_)
        | (refine op_skip rfl rfl (by simp [undef]) rfl ?_)
      by_cases h33 : n ≤ 500
      · first
          | (refine op_want rfl rfl ?_
             first | refine op_v (v_cmptA rfl rfl rfl) rfl ?_ | refine op_v (v_cmpfA rfl rfl rfl) rfl ?_ | refine op_v (v_cmp rfl rfl rfl) rfl ?_)
          | (refine op_skip rfl rfl (by simp [undef]) rfl ?_)
        first | refine op_v (v_pickt rfl rfl) rfl ?_ | refine op_v (v_pickf rfl rfl) rfl ?_ | refine op_v (v_pickb rfl rfl rfl) rfl ?_
        refine op_v (v_assign rfl) rfl ?_
        refine ops_nil ?_
        refine post_next ?_
        refine code_ret ?_
        refine post_ret (rs := [.tmp 2]) rfl (List.Perm.refl _) (.cons (.tmp rfl) .nil) (List.nil_sublist _) ?_
        exact ⟨⟨true, rfl, fun _ x hx => by obtain ⟨i, hi, rfl⟩ := List.getElem_of_mem hx; exact hp h33 i hi (by omega)⟩, rfl⟩
      · first
          | (refine op_want rfl rfl ?_
             first | refine op_v (v_cmptA rfl rfl rfl) rfl ?_ | refine op_v (v_cmpfA rfl rfl rfl) rfl ?_ | refine op_v (v_cmp rfl rfl rfl) rfl ?_)
          | (refine op_skip rfl rfl (by simp [undef]) rfl ?_)
        first | refine op_v (v_pickt rfl rfl) rfl ?_ | refine op_v (v_pickf rfl rfl) rfl ?_ | refine op_v (v_pickb rfl rfl rfl) rfl ?_
        refine op_v (v_assign rfl) rfl ?_
        refine ops_nil ?_
        refine post_next ?_
        refine code_ret ?_
        refine post_ret (rs := [.tmp 2]) rfl (List.Perm.refl _) (.cons (.tmp rfl) .nil) (List.nil_sublist _) ?_
        exact ⟨⟨false, rfl, fun h => by cases h⟩, rfl⟩
    · first | refine op_v (v_cmptA rfl rfl rfl) rfl ?_ | refine op_v (v_cmpfA rfl rfl rfl) rfl ?_ | refine op_v (v_cmp rfl rfl rfl) rfl ?_
      refine op_v (v_move rfl) rfl ?_
      first
        | (refine op_want rfl rfl ?_
           refine op_v (v_move rfl) rfl ?_)
        | (refine op_skip rfl rfl (by simp [undef]) rfl ?_)
      first
        | (refine op_want rfl rfl ?_
           first | refine op_v (v_cmptA rfl rfl rfl) rfl ?_ | refine op_v (v_cmpfA rfl rfl rfl) rfl ?_ | refine op_v (v_cmp rfl rfl rfl) rfl ?_)
        | (refine op_skip rfl rfl (by simp [undef]) rfl ?_)
      first | refine op_v (v_pickt rfl rfl) rfl ?_ | refine op_v (v_pickf rfl rfl) rfl ?_ | refine op_v (v_pickb rfl rfl rfl) rfl ?_
      refine op_v (v_assign rfl) rfl ?_
      refine ops_nil ?_
      refine post_next ?_
      refine code_ret ?_
      refine post_ret (rs := [.tmp 2]) rfl (List.Perm.refl _) (.cons (.tmp rfl) .nil) (List.nil_sublist _) ?_
      exact ⟨⟨false, rfl, fun h => by cases h⟩, rfl⟩

/-! ### the plain law -/
mutual
theorem snd_T : ∀ (d : Nat) (b : Bool) (t : T), (partsT d t).map (·.2) = (visT b t).map (·.2)
  | d, b, .mk h us => by simp only [partsT, visT, List.map_cons, snd_L (d + 1) us]
theorem snd_L : ∀ (d : Nat) (us : List T), (partsL d us).map (·.2) = (visL us).map (·.2)
  | _, [] => rfl
  | d, t :: r => by simp only [partsL, visL, List.map_append, snd_T d false t, snd_L d r]
end
theorem chk_vis {t : T} (h : chkT t = 0) : ∀ x ∈ visT true t, (x.2.head < 0 → x.2.args = []) ∧ -256 ≤ x.2.head := by
  intro x hx
  have h1 : (partsT 1 t).any badN = false := by
    unfold chkT at h
    split at h
    · cases h
    · split at h
      · cases h
      · split at h
        · cases h
        · rename_i hq; exact Bool.eq_false_iff.2 hq
  have h2 : x.2 ∈ (partsT 1 t).map (·.2) := by rw [snd_T 1 true t]; exact List.mem_map_of_mem hx
  obtain ⟨y, hy, hyx⟩ := List.mem_map.1 h2
  rw [List.any_eq_false] at h1
  have h3 := h1 y hy
  simp only [badN, Bool.or_eq_true, Bool.and_eq_true, decide_eq_true_eq, not_or, not_and, hyx] at h3
  obtain ⟨⟨⟨h4, h5⟩, _⟩, _⟩ := h3
  refine ⟨fun hn => List.eq_nil_of_length_eq_zero (by have := h4 hn; omega), by omega⟩
mutual
theorem wgt_rb (gs : List Sy) (f : T → T) : ∀ (t : T), (∀ x ∈ visT true t, x.2.head < 0 → x.2.args = []) → wgtG gs (rbT f t) = ((visT true t).map fun x => if x.2.head < 0 then wgtG gs (f (.mk x.2.head [])) else wB gs x.2.head).sum
  | .mk h us, hx => by
    have h0 := hx (true, .mk h us) (by simp [visT])
    have e0 : (T.mk h us).head = h := rfl
    have e1 : (T.mk h us).args = us := rfl
    simp only [e0, e1] at h0
    simp only [rbT, visT, List.map_cons, List.sum_cons, e0]
    by_cases hn : h < 0
    · have := h0 hn
      subst this
      rw [if_pos hn, if_pos hn]; simp [visL]
    · rw [if_neg hn, if_neg hn, wgtG_eq]
      show wB gs h + sumV gs (visL (rbL f us)) = _
      rw [wgt_rbL gs f us (fun x hx' => hx x (by simp [visT, hx']))]
theorem wgt_rbL (gs : List Sy) (f : T → T) : ∀ (us : List T), (∀ x ∈ visL us, x.2.head < 0 → x.2.args = []) → sumV gs (visL (rbL f us)) = ((visL us).map fun x => if x.2.head < 0 then wgtG gs (f (.mk x.2.head [])) else wB gs x.2.head).sum
  | [], _ => by simp [rbL, visL, sumV]
  | t :: r, hx => by
    simp only [rbL, visL, sumV_app, sumV_T, List.map_append, List.sum_append]
    rw [wgt_rbL gs f r (fun x hx' => hx x (by simp [visL, hx']))]
    have e : ∀ x ∈ visT true t, x.2.head < 0 → x.2.args = [] := fun x hx' => by
      rw [visT_eq] at hx'
      rcases List.mem_cons.1 hx' with rfl | hx'
      · exact hx (false, t) (by simp [visL, visT_eq])
      · exact hx x (by simp [visL, visT_eq, hx'])
    rw [wgt_rb gs f t e]
    congr 1
    rw [visT_eq true, visT_eq false]; rfl
end
theorem vis_ok {gs : List Sy} (f : T → T) : ∀ (n : Nat) (t : T), t.size ≤ n → ∀ b, (∀ x ∈ visT b t, x.2.head < 0 → x.2.args = []) → OkG gs (rbT f t) → ∀ x ∈ visT b t, x.2.head < 0 → OkG gs (f x.2) := by
  intro n
  induction n with
  | zero => intro t h; have := t.size_pos; omega
  | succ n ih =>
    intro t hn b hx hO x hxm hneg
    obtain ⟨h, us⟩ := t
    rw [visT_eq] at hxm
    rcases List.mem_cons.1 hxm with rfl | hxm
    · have e : rbT f (.mk h us) = f (.mk h us) := by simp only [rbT]; rw [if_pos (show h < 0 from hneg)]
      rw [e] at hO; exact hO
    · have hh : ¬ h < 0 := fun hn => by
        have := hx (b, .mk h us) (by simp [visT]) hn
        change us = [] at this
        change x ∈ visL us at hxm
        subst this
        simp [visL] at hxm
      have e : rbT f (.mk h us) = .mk h (rbL f us) := by simp only [rbT]; rw [if_neg hh]
      rw [e] at hO
      change x ∈ visL us at hxm
      have key : ∀ (l : List T), x ∈ visL l → ∃ i, ∃ hi : i < l.length, x ∈ visT false l[i] := by
        intro l
        induction l with
        | nil => intro hm; simp [visL] at hm
        | cons a r ihr =>
          intro hm
          simp only [visL, List.mem_append] at hm
          rcases hm with hm | hm
          · exact ⟨0, by simp, hm⟩
          · obtain ⟨i, hi, h3⟩ := ihr hm
            exact ⟨i + 1, by simpa using hi, by simpa using h3⟩
      obtain ⟨i, hi, hxi⟩ := key us hxm
      have hch := (hO.child i (by show i < (rbL f us).length; rw [rbL_len]; exact hi)).1
      have e2 : (rbL f us)[i]'(by rw [rbL_len]; exact hi) = rbT f us[i] := by simp [rbL_map]
      change OkG gs ((rbL f us)[i]'(by rw [rbL_len]; exact hi)) at hch
      rw [e2] at hch
      have hs1 := sizeL_mem us i hi
      have hs2 : (T.mk h us).size = 1 + sizeL us := by simp [T.size]
      refine ih us[i] (by omega) false (fun y hy => hx y ?_) hch x hxi hneg
      rw [visT_eq]
      refine List.mem_cons_of_mem _ ?_
      show y ∈ visL us
      rw [visL_split us i hi]
      exact List.mem_append_right _ (List.mem_append_left _ hy)

def accF (F : Int → Int) (l : List Int) : Nat → Int
  | 0 => 0
  | n + 1 => accF F l n + ((l.count (-1 - (n : Int)) : Nat) : Int) * F (-1 - (n : Int))
theorem accF_cons (F : Int → Int) (x : Int) (l : List Int) : ∀ n : Nat, accF F (x :: l) n = accF F l n + (if -(n : Int) ≤ x ∧ x < 0 then F x else 0)
  | 0 => by rw [if_neg (by omega)]; simp [accF]
  | n + 1 => by
    simp only [accF, accF_cons F x l n, List.count_cons]
    by_cases h : x = -1 - (n : Int)
    · subst h
      have h1 : ¬ (-(n : Int) ≤ -1 - (n : Int) ∧ -1 - (n : Int) < 0) := by omega
      have h2 : -((n + 1 : Nat) : Int) ≤ -1 - (n : Int) ∧ -1 - (n : Int) < 0 := by omega
      rw [if_neg h1, if_pos h2]
      simp only [beq_self_eq_true, if_true, Int.natCast_add, Int.add_mul, Int.natCast_one, Int.one_mul]; omega
    · have hb : (x == -1 - (n : Int)) = false := by simp [h]
      rw [hb]
      simp only [Bool.false_eq_true, if_false, Nat.add_zero]
      by_cases h2 : -(n : Int) ≤ x ∧ x < 0
      · have h3 : -((n + 1 : Nat) : Int) ≤ x ∧ x < 0 := by omega
        rw [if_pos h2, if_pos h3]; omega
      · have h3 : ¬ (-((n + 1 : Nat) : Int) ≤ x ∧ x < 0) := by omega
        rw [if_neg h2, if_neg h3]; omega
theorem accF_sum (F : Int → Int) : ∀ (l : List Int), (∀ k ∈ l, -256 ≤ k) → accF F l 256 = (l.map fun k => if k < 0 then F k else 0).sum
  | [], _ => by
    have : ∀ n, accF F [] n = 0 := fun n => by induction n with | zero => rfl | succ n ih => simp [accF, ih]
    simp [this]
  | x :: r, h => by
    rw [accF_cons, accF_sum F r (fun k hk => h k (List.mem_cons_of_mem _ hk)), List.map_cons, List.sum_cons]
    have hx := h x (List.mem_cons_self ..)
    by_cases hn : x < 0
    · rw [if_pos ⟨by omega, hn⟩, if_pos hn]; omega
    · rw [if_neg (by omega), if_neg hn]; omega
theorem accF_flat (F : Int → Int) (l : List Int) (a : Nat) : ∀ n : Nat, (∀ v, a ≤ v → v < a + n → l.count (-1 - (v : Int)) = 0) → accF F l (a + n) = accF F l a
  | 0, _ => rfl
  | n + 1, h => by
    rw [← Nat.add_assoc]
    simp only [accF]
    rw [h (a + n) (by omega) (by omega), accF_flat F l a n (fun v h1 h2 => h v h1 (by omega))]; simp
theorem accF_mono (F : Int → Int) (l : List Int) (a : Nat) : ∀ n : Nat, (∀ v, v < a + n → 0 ≤ ((l.count (-1 - (v : Int)) : Nat) : Int) * F (-1 - (v : Int))) → accF F l a ≤ accF F l (a + n)
  | 0, _ => Int.le_refl _
  | n + 1, h => by
    rw [← Nat.add_assoc]
    simp only [accF]
    have h1 := h (a + n) (by omega)
    have h2 := accF_mono F l a n (fun v hv => h v (by omega))
    omega
def moreF (gs : List Sy) (bs : List Bi) (k : Int) : Int := wgtG gs (ofT bs (.mk k [])) - 1
structure Puts (gs : List Sy) (bs : List Bi) (t : T) (cs : List Int) : Prop where
  tot : wgtG gs (sbT bs t) = wgtG gs t + accF (moreF gs bs) (hds t) cs.length
  ok : ∀ v : Nat, v < cs.length → cs.getD v 0 ≠ 0 → OkG gs (ofT bs (.mk (-1 - (v : Int)) []))
  get : ∀ v : Nat, v < cs.length → cs.getD v 0 = (((hds t).count (-1 - (v : Int)) : Nat) : Int)
  le : ∀ v : Nat, v ≤ cs.length → 0 ≤ accF (moreF gs bs) (hds t) v ∧ accF (moreF gs bs) (hds t) v ≤ 400000
  one : ∀ v : Nat, v < cs.length → 0 ≤ (((hds t).count (-1 - (v : Int)) : Nat) : Int) * moreF gs bs (-1 - (v : Int))
  len : cs.length ≤ 256
theorem puts_of {gs : List Sy} {bs : List Bi} {t : T} {cs : List Int} (hO : OkG gs t) (hU : OkG gs (sbT bs t)) (hC : CInv (hds t) [] cs) : Puts gs bs t cs := by
  have hv := chk_vis hO.chk
  have hlast := hC.last
  have hlen := hC.1
  have okv : ∀ v : Nat, 0 < (hds t).count (-1 - (v : Int)) → OkG gs (ofT bs (.mk (-1 - (v : Int)) [])) := fun v hc => by
    have hm := List.count_pos_iff.1 hc
    obtain ⟨x, hx, hxh⟩ := List.mem_map.1 hm
    have hneg : x.2.head < 0 := by omega
    have := vis_ok (ofT bs) t.size t (Nat.le_refl _) true (fun y hy => (hv y hy).1) hU x hx hneg
    have ha := (hv x hx).1 hneg
    have e : x.2 = .mk (-1 - (v : Int)) [] := by
      obtain ⟨b, h, us⟩ := x
      change h = _ at hxh
      change us = [] at ha
      subst hxh; subst ha; rfl
    rw [e] at this; exact this
  have one : ∀ v : Nat, 0 ≤ (((hds t).count (-1 - (v : Int)) : Nat) : Int) * moreF gs bs (-1 - (v : Int)) := fun v => by
    by_cases hc : (hds t).count (-1 - (v : Int)) = 0
    · rw [hc]; simp
    · have h1 := okv v (by omega)
      have h2 := wgtG_range h1
      have h3 := (ofT bs (.mk (-1 - (v : Int)) [])).size_pos
      exact Int.mul_nonneg (by omega) (by unfold moreF; omega)
  have tot : wgtG gs (sbT bs t) = wgtG gs t + accF (moreF gs bs) (hds t) 256 := by
    rw [accF_sum _ _ (fun k hk => by obtain ⟨x, hx, rfl⟩ := List.mem_map.1 hk; exact (hv x hx).2)]
    unfold sbT
    rw [wgt_rb gs (ofT bs) t (fun x hx => (hv x hx).1)]
    unfold wgtG hds
    rw [List.map_map, List.map_map]
    generalize visT true t = l
    induction l with
    | nil => rfl
    | cons x r ih =>
      simp only [List.map_cons, List.sum_cons, ih, Function.comp]
      by_cases hn : x.2.head < 0
      · simp only [if_pos hn, wB, moreF, wgtG, hds]; omega
      · simp only [if_neg hn, wB]; omega
  have flat : accF (moreF gs bs) (hds t) 256 = accF (moreF gs bs) (hds t) cs.length := by
    have := accF_flat (moreF gs bs) (hds t) cs.length (256 - cs.length) (fun v h1 h2 => by
      have := hlast v (by omega)
      rw [List.getD_eq_getElem?_getD, List.getElem?_eq_none_iff.2 h1] at this
      simp at this; omega)
    rw [show cs.length + (256 - cs.length) = 256 by omega] at this
    exact this
  rw [flat] at tot
  refine ⟨tot, fun v hvl hne => okv v (by have := hlast v (by omega); omega), fun v hvl => hlast v (by omega), fun v hvl => ?_, fun v _ => one v, hlen⟩
  have h1 := accF_mono (moreF gs bs) (hds t) 0 v (fun w _ => one w)
  have h2 := accF_mono (moreF gs bs) (hds t) v (cs.length - v) (fun w _ => one w)
  rw [show v + (cs.length - v) = cs.length by omega] at h2
  rw [Nat.zero_add] at h1
  have h3 := wgtG_range hU
  have h4 := wgtG_range hO
  simp only [accF] at h1
  omega
end Go.Proofs.Ytdbadicpbmndbaa
/- The order of terms: plain facts. No condition. -/
set_option linter.unusedVariables false
set_option linter.unusedSimpArgs false
namespace Go.Proofs.Ytdbadicpbmndbaa

abbrev cn (t : T) (k : Int) : Nat := (hds t).count k
def vleB (a b : T) : Bool := (hds b).all fun k => decide (0 ≤ k) || decide (cn b k ≤ cn a k)
theorem vleB_iff {a b : T} : vleB a b = true ↔ ∀ k : Int, k < 0 → cn b k ≤ cn a k := by
  unfold vleB
  rw [List.all_eq_true]
  constructor
  · intro h k hk
    by_cases hm : k ∈ hds b
    · have := h k hm
      simp only [Bool.or_eq_true, decide_eq_true_eq] at this
      rcases this with h1 | h1
      · omega
      · exact h1
    · have : cn b k = 0 := List.count_eq_zero.2 hm
      omega
  · intro h k hm
    simp only [Bool.or_eq_true, decide_eq_true_eq]
    by_cases hk : k < 0
    · exact .inr (h k hk)
    · exact .inl (by omega)
theorem vle_self (a : T) : vleB a a = true := vleB_iff.2 fun _ _ => Nat.le_refl _
theorem vle_trans {a b c : T} (h : vleB a b = true) (k : vleB b c = true) : vleB a c = true :=
  vleB_iff.2 fun j hj => Nat.le_trans (vleB_iff.1 k j hj) (vleB_iff.1 h j hj)
def sideG (a b : T) (n : Int) : Int := if 0 < n ∧ vleB a b = true then 1 else if n < 0 ∧ vleB b a = true then -1 else 2
mutual
def stT (gs : List Sy) : T → T → Int
  | .mk h us, b =>
    if T.mk h us = b then 0
    else if wgtG gs (.mk h us) ≠ wgtG gs b then sideG (.mk h us) b (wgtG gs (.mk h us) - wgtG gs b)
    else if h < 0 ∨ b.head < 0 then 2
    else if h ≠ b.head then sideG (.mk h us) b (h - b.head)
    else if stL gs us b.args = 0 then 0
    else if stL gs us b.args = 2 then 2
    else sideG (.mk h us) b (stL gs us b.args)
def stL (gs : List Sy) : List T → List T → Int
  | a :: r, b :: q => if stT gs a b ≠ 0 then stT gs a b else stL gs r q
  | _, _ => 0
end
theorem stT_eq (gs : List Sy) (a b : T) : stT gs a b =
    if a = b then 0
    else if wgtG gs a ≠ wgtG gs b then sideG a b (wgtG gs a - wgtG gs b)
    else if a.head < 0 ∨ b.head < 0 then 2
    else if a.head ≠ b.head then sideG a b (a.head - b.head)
    else if stL gs a.args b.args = 0 then 0
    else if stL gs a.args b.args = 2 then 2
    else sideG a b (stL gs a.args b.args) := by
  cases a; rw [stT]; rfl
def ngS (x : Int) : Int := if x = 2 then 2 else -x
theorem sideG_neg (a b : T) (n : Int) : sideG b a (-n) = ngS (sideG a b n) := by
  unfold sideG ngS
  rcases Int.lt_trichotomy n 0 with h | h | h
  · have h1 : 0 < -n := by omega
    have h2 : ¬ 0 < n := by omega
    have h3 : ¬ -n < 0 := by omega
    cases vleB b a <;> simp [h, h1, h2, h3]
  · subst h; simp
  · have h1 : -n < 0 := by omega
    have h2 : ¬ n < 0 := by omega
    have h3 : ¬ 0 < -n := by omega
    cases vleB a b <;> simp [h, h1, h2, h3]
theorem sideG_vals (a b : T) (n : Int) : sideG a b n = 1 ∨ sideG a b n = -1 ∨ sideG a b n = 2 := by
  unfold sideG; split
  · exact .inl rfl
  · split
    · exact .inr (.inl rfl)
    · exact .inr (.inr rfl)
mutual
theorem stT_vals (gs : List Sy) : ∀ (a b : T), stT gs a b = 0 ∨ stT gs a b = 1 ∨ stT gs a b = -1 ∨ stT gs a b = 2
  | .mk h us, b => by
    rw [stT]
    split
    · exact .inl rfl
    · split
      · exact .inr (sideG_vals _ _ _)
      · split
        · exact .inr (.inr (.inr rfl))
        · split
          · exact .inr (sideG_vals _ _ _)
          · split
            · exact .inl rfl
            · split
              · exact .inr (.inr (.inr rfl))
              · exact .inr (sideG_vals _ _ _)
theorem stL_vals (gs : List Sy) : ∀ (l m : List T), stL gs l m = 0 ∨ stL gs l m = 1 ∨ stL gs l m = -1 ∨ stL gs l m = 2
  | [], m => by cases m <;> exact .inl rfl
  | a :: r, [] => .inl rfl
  | a :: r, b :: q => by
    simp only [stL]
    split
    · exact stT_vals gs a b
    · exact stL_vals gs r q
end
mutual
theorem stT_neg (gs : List Sy) : ∀ (a b : T), stT gs b a = ngS (stT gs a b)
  | .mk h us, b => by
    rw [stT_eq gs b, stT_eq gs (.mk h us)]
    have e1 : (T.mk h us).head = h := rfl
    have e2 : (T.mk h us).args = us := rfl
    rw [e1, e2, stL_neg gs us b.args]
    by_cases h1 : T.mk h us = b
    · subst h1; rw [if_pos rfl, if_pos rfl]; rfl
    · rw [if_neg (fun e => h1 e.symm), if_neg h1]
      by_cases h2 : wgtG gs (.mk h us) = wgtG gs b
      · rw [if_neg (show ¬ (wgtG gs b ≠ wgtG gs (.mk h us)) by omega), if_neg (show ¬ (wgtG gs (.mk h us) ≠ wgtG gs b) by omega)]
        by_cases h3 : h < 0 ∨ b.head < 0
        · rw [if_pos (show b.head < 0 ∨ h < 0 by omega), if_pos h3]; rfl
        · rw [if_neg (show ¬ (b.head < 0 ∨ h < 0) by omega), if_neg h3]
          by_cases h4 : h = b.head
          · rw [if_neg (show ¬ (b.head ≠ h) by omega), if_neg (show ¬ (h ≠ b.head) by omega)]
            have hv := stL_vals gs us b.args
            generalize stL gs us b.args = c at hv
            rcases hv with rfl | rfl | rfl | rfl
            · rfl
            · exact sideG_neg _ _ 1
            · exact sideG_neg _ _ (-1)
            · rfl
          · rw [if_pos (show b.head ≠ h by omega), if_pos (show h ≠ b.head from h4), show b.head - h = -(h - b.head) by omega]; exact sideG_neg _ _ _
      · rw [if_pos (show wgtG gs b ≠ wgtG gs (.mk h us) by omega), if_pos (show wgtG gs (.mk h us) ≠ wgtG gs b from h2), show wgtG gs b - wgtG gs (.mk h us) = -(wgtG gs (.mk h us) - wgtG gs b) by omega]; exact sideG_neg _ _ _
theorem stL_neg (gs : List Sy) : ∀ (l m : List T), stL gs m l = ngS (stL gs l m)
  | [], m => by cases m <;> rfl
  | a :: r, [] => rfl
  | a :: r, b :: q => by
    simp only [stL]
    rw [stT_neg gs a b, stL_neg gs r q]
    by_cases h : stT gs a b = 0
    · rw [h]; rfl
    · have h2 : ngS (stT gs a b) ≠ 0 := by unfold ngS; split <;> omega
      rw [if_pos h, if_pos h2]
end
theorem stT_self (gs : List Sy) (a : T) : stT gs a a = 0 := by rw [stT_eq, if_pos rfl]
theorem stL_self (gs : List Sy) : ∀ l : List T, stL gs l l = 0
  | [] => rfl
  | a :: r => by simp [stL, stT_self, stL_self gs r]
/-- when a term is greater -/
theorem stT_one (gs : List Sy) (a b : T) : stT gs a b = 1 ↔ vleB a b = true ∧ (wgtG gs b < wgtG gs a ∨ (wgtG gs a = wgtG gs b ∧ 0 ≤ a.head ∧ 0 ≤ b.head ∧ (b.head < a.head ∨ (a.head = b.head ∧ stL gs a.args b.args = 1)))) := by
  rw [stT_eq]
  by_cases h1 : a = b
  · subst h1
    rw [if_pos rfl, stL_self]
    constructor
    · intro h; omega
    · rintro ⟨_, h | ⟨_, _, _, h | ⟨_, h⟩⟩⟩ <;> omega
  · rw [if_neg h1]
    by_cases h2 : wgtG gs a = wgtG gs b
    · rw [if_neg (by omega)]
      by_cases h3 : a.head < 0 ∨ b.head < 0
      · rw [if_pos h3]
        constructor
        · intro h; omega
        · rintro ⟨_, h | ⟨_, h, h', _⟩⟩ <;> omega
      · rw [if_neg h3]
        by_cases h4 : a.head = b.head
        · rw [if_neg (by omega)]
          have hv := stL_vals gs a.args b.args
          generalize stL gs a.args b.args = c at hv
          have h5 : 0 ≤ a.head ∧ 0 ≤ b.head := by omega
          rcases hv with rfl | rfl | rfl | rfl
          · simp [h2, h4]
          · unfold sideG; cases vleB a b <;> simp [h2, h4] <;> omega
          · unfold sideG; cases vleB b a <;> simp [h2, h4]
          · simp [h2, h4]
        · rw [if_pos h4]
          unfold sideG
          cases vleB a b
          · simp; split <;> omega
          · by_cases h5 : b.head < a.head
            · simp [h2, h5] <;> omega
            · simp [h2, h5, h4]; split <;> omega
    · rw [if_pos h2]
      unfold sideG
      cases vleB a b
      · simp; split <;> omega
      · by_cases h5 : wgtG gs b < wgtG gs a
        · simp [h5] <;> omega
        · simp [h5, h2]; split <;> omega

/-! ### on right terms -/
theorem OkG.arity {gs : List Sy} {t : T} (h : OkG gs t) (h0 : 0 ≤ t.head) : (t.args.length : Int) = arG gs t.head := by
  have h1 := h.unk
  unfold unkG at h1
  rw [visT_eq, List.any_cons, Bool.or_eq_false_iff] at h1
  have h2 := h1.1
  simp only [unkB, Bool.and_eq_false_iff, decide_eq_false_iff_not, Bool.or_eq_false_iff] at h2
  rcases h2 with h2 | h2
  · exact absurd h0 h2
  · have := h2.2; simpa using this
theorem OkG.args {gs : List Sy} {t : T} (h : OkG gs t) : ∀ x ∈ t.args, OkG gs x := fun x hx => by
  obtain ⟨i, hi, rfl⟩ := List.getElem_of_mem hx
  exact (h.child i hi).1
theorem OkG.leaf {gs : List Sy} {t : T} (h : OkG gs t) (hn : t.head < 0) : t.args = [] := (chk_vis h.chk (true, t) (by rw [visT_eq]; exact List.mem_cons_self ..)).1 hn
mutual
theorem stT_zero {gs : List Sy} : ∀ {a b : T}, OkG gs a → OkG gs b → stT gs a b = 0 → a = b
  | .mk h us, b, ha, hb, e => by
    rw [stT_eq] at e
    by_cases h1 : T.mk h us = b
    · exact h1
    · rw [if_neg h1] at e
      have hs : ∀ n, sideG (T.mk h us) b n ≠ 0 := fun n => by rcases sideG_vals (T.mk h us) b n with q | q | q <;> omega
      by_cases h2 : wgtG gs (T.mk h us) = wgtG gs b
      · rw [if_neg (by omega)] at e
        by_cases h3 : (T.mk h us).head < 0 ∨ b.head < 0
        · rw [if_pos h3] at e; omega
        · rw [if_neg h3] at e
          by_cases h4 : (T.mk h us).head = b.head
          · have ea : (T.mk h us).args = us := rfl
            rw [if_neg (by omega), ea] at e
            by_cases h5 : stL gs us b.args = 0
            · have l1 := ha.arity (by omega)
              have l2 := hb.arity (by omega)
              rw [h4] at l1
              have hl : us.length = b.args.length := by
                have : ((T.mk h us).args.length : Int) = b.args.length := by omega
                exact Int.ofNat.inj this
              have := stL_zero hl ha.args hb.args h5
              cases b
              simp only [T.args] at this
              simp only [T.head] at h4
              rw [this, h4]
            · rw [if_neg h5] at e
              split at e
              · omega
              · exact absurd e (hs _)
          · rw [if_pos h4] at e; exact absurd e (hs _)
      · rw [if_pos h2] at e; exact absurd e (hs _)
theorem stL_zero {gs : List Sy} : ∀ {l m : List T}, l.length = m.length → (∀ x ∈ l, OkG gs x) → (∀ x ∈ m, OkG gs x) → stL gs l m = 0 → l = m
  | [], [], _, _, _, _ => rfl
  | [], _ :: _, h, _, _, _ => by simp at h
  | _ :: _, [], h, _, _, _ => by simp at h
  | a :: r, b :: q, h, ha, hb, e => by
    simp only [stL] at e
    by_cases h1 : stT gs a b = 0
    · rw [if_neg (by omega)] at e
      rw [stT_zero (ha a (List.mem_cons_self ..)) (hb b (List.mem_cons_self ..)) h1, stL_zero (by simpa using h) (fun x hx => ha x (List.mem_cons_of_mem _ hx)) (fun x hx => hb x (List.mem_cons_of_mem _ hx)) e]
    · rw [if_pos h1] at e; exact absurd e h1
end
theorem stT_trans {gs : List Sy} : ∀ (n : Nat) (a b c : T), a.size ≤ n → OkG gs a → OkG gs b → OkG gs c → stT gs a b = 1 → stT gs b c = 1 → stT gs a c = 1 := by
  intro n
  induction n with
  | zero => intro a b c h; have := a.size_pos; omega
  | succ n ih =>
    intro a b c hn ha hb hc h1 h2
    rw [stT_one] at h1 h2 ⊢
    obtain ⟨v1, h1⟩ := h1
    obtain ⟨v2, h2⟩ := h2
    refine ⟨vle_trans v1 v2, ?_⟩
    rcases h1 with h1 | ⟨e1, p1, q1, h1⟩
    · left; rcases h2 with h2 | ⟨e2, _⟩ <;> omega
    · rcases h2 with h2 | ⟨e2, p2, q2, h2⟩
      · left; omega
      · right
        refine ⟨by omega, p1, q2, ?_⟩
        rcases h1 with h1 | ⟨f1, h1⟩
        · left; rcases h2 with h2 | ⟨f2, _⟩ <;> omega
        · rcases h2 with h2 | ⟨f2, h2⟩
          · left; omega
          · right
            refine ⟨by omega, ?_⟩
            have key : ∀ (l m p : List T), (∀ x ∈ l, x.size ≤ n ∧ OkG gs x) → (∀ x ∈ m, OkG gs x) → (∀ x ∈ p, OkG gs x) → stL gs l m = 1 → stL gs m p = 1 → stL gs l p = 1 := by
              intro l
              induction l with
              | nil => intro m p _ _ _ h; cases m <;> simp [stL] at h
              | cons x l ihl =>
                intro m p hl hm hp g1 g2
                cases m with
                | nil => simp [stL] at g1
                | cons y m =>
                  cases p with
                  | nil => simp [stL] at g2
                  | cons z p =>
                    simp only [stL] at g1 g2 ⊢
                    obtain ⟨hx1, hx2⟩ := hl x (List.mem_cons_self ..)
                    have hy := hm y (List.mem_cons_self ..)
                    have hz := hp z (List.mem_cons_self ..)
                    by_cases c1 : stT gs x y = 0
                    · rw [if_neg (by omega)] at g1
                      have exy := stT_zero hx2 hy c1
                      subst exy
                      by_cases c2 : stT gs x z = 0
                      · rw [if_neg (by omega)] at g2
                        rw [if_neg (by omega)]
                        exact ihl m p (fun w hw => hl w (List.mem_cons_of_mem _ hw)) (fun w hw => hm w (List.mem_cons_of_mem _ hw)) (fun w hw => hp w (List.mem_cons_of_mem _ hw)) g1 g2
                      · rw [if_pos c2] at g2
                        rw [if_pos c2]; exact g2
                    · rw [if_pos c1] at g1
                      by_cases c2 : stT gs y z = 0
                      · have eyz := stT_zero hy hz c2
                        subst eyz
                        rw [if_pos c1]; exact g1
                      · rw [if_pos c2] at g2
                        have := ih x y z hx1 hx2 hy hz g1 g2
                        rw [this]; simp
            refine key a.args b.args c.args (fun x hx => ⟨?_, ha.args x hx⟩) hb.args hc.args h1 h2
            obtain ⟨i, hi, rfl⟩ := List.getElem_of_mem hx
            have := sizeL_mem a.args i hi
            have := size_eqT a
            omega
/-- without variables -/
theorem stT_ground {gs : List Sy} : ∀ (n : Nat) (a b : T), a.size ≤ n → OkG gs a → OkG gs b → (∀ k ∈ hds a, 0 ≤ k) → (∀ k ∈ hds b, 0 ≤ k) → stT gs a b ≠ 2 := by
  intro n
  induction n with
  | zero => intro a b h; have := a.size_pos; omega
  | succ n ih =>
    intro a b hn ha hb va vb
    have q1 : vleB a b = true := vleB_iff.2 fun k hk => by
      have : cn b k = 0 := List.count_eq_zero.2 (fun hm => by have := vb k hm; omega)
      omega
    have q2 : vleB b a = true := vleB_iff.2 fun k hk => by
      have : cn a k = 0 := List.count_eq_zero.2 (fun hm => by have := va k hm; omega)
      omega
    have hs : ∀ n, n ≠ 0 → sideG a b n ≠ 2 := fun n hn => by
      unfold sideG; rw [q1, q2]; simp only [and_true]; split
      · omega
      · rw [if_pos (by omega)]; omega
    have hah : 0 ≤ a.head := va _ (by unfold hds; rw [visT_eq]; simp)
    have hbh : 0 ≤ b.head := vb _ (by unfold hds; rw [visT_eq]; simp)
    rw [stT_eq]
    by_cases h1 : a = b
    · rw [if_pos h1]; omega
    · rw [if_neg h1]
      by_cases h2 : wgtG gs a = wgtG gs b
      · rw [if_neg (by omega), if_neg (by omega)]
        by_cases h4 : a.head = b.head
        · rw [if_neg (by omega)]
          have key : ∀ (l m : List T), (∀ x ∈ l, x.size ≤ n ∧ OkG gs x ∧ ∀ k ∈ hds x, 0 ≤ k) → (∀ x ∈ m, OkG gs x ∧ ∀ k ∈ hds x, 0 ≤ k) → stL gs l m ≠ 2 := by
            intro l
            induction l with
            | nil => intro m _ _; cases m <;> simp [stL]
            | cons x l ihl =>
              intro m hl hm
              cases m with
              | nil => simp [stL]
              | cons y m =>
                simp only [stL]
                split
                · obtain ⟨x1, x2, x3⟩ := hl x (List.mem_cons_self ..)
                  obtain ⟨y2, y3⟩ := hm y (List.mem_cons_self ..)
                  exact ih x y x1 x2 y2 x3 y3
                · exact ihl m (fun w hw => hl w (List.mem_cons_of_mem _ hw)) (fun w hw => hm w (List.mem_cons_of_mem _ hw))
          have sub : ∀ {t : T} {x : T}, x ∈ t.args → ∀ k ∈ hds x, k ∈ hds t := fun {t x} hx k hk => by
            obtain ⟨i, hi, rfl⟩ := List.getElem_of_mem hx
            unfold hds at hk ⊢
            rw [visT_eq, List.map_cons, List.mem_cons]
            right
            obtain ⟨y, hy, rfl⟩ := List.mem_map.1 hk
            rw [visL_split t.args i hi, List.map_append, List.map_append, List.mem_append, List.mem_append]
            right; left
            rw [visT_eq] at hy ⊢
            rcases List.mem_cons.1 hy with rfl | hy
            · simp
            · rw [List.map_cons]; exact List.mem_cons_of_mem _ (List.mem_map_of_mem (f := fun y : Bool × T => y.2.head) hy)
          have hk := key a.args b.args (fun x hx => ⟨by
            obtain ⟨i, hi, rfl⟩ := List.getElem_of_mem hx
            have := sizeL_mem a.args i hi
            have := size_eqT a
            omega, ha.args x hx, fun k hk => va k (sub hx k hk)⟩) (fun x hx => ⟨hb.args x hx, fun k hk => vb k (sub hx k hk)⟩)
          by_cases h5 : stL gs a.args b.args = 0
          · rw [if_pos h5]; omega
          · rw [if_neg h5, if_neg hk]; exact hs _ h5
        · rw [if_pos h4]; exact hs _ (by omega)
      · rw [if_pos h2]; exact hs _ (by omega)
end Go.Proofs.Ytdbadicpbmndbaa
