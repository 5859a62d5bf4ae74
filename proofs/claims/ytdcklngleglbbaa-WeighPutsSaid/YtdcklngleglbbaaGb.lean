/- Walks: a signature's rightness, by the program. -/
import Derived.Test.YtdcklngleglbbaaGa
set_option linter.unusedVariables false
set_option linter.unusedSimpArgs false
namespace Go.Proofs.Ytdcklngleglbbaa
open Go Lg

def truthS : Sy := ⟨⟨#[36, 116, 114, 117, 101]⟩, 0, 1, true⟩
def badS (pre : List Sy) (x : Sy) : Bool := nmEq x.name ⟨#[]⟩ || (decide (64 < x.name.size) || ((pre.any fun s => nmEq s.name x.name) || (decide (x.ar < 0) || (decide (8 < x.ar) || (decide (x.wt < 1) || decide (1000 < x.wt))))))
def goodL : List Sy → List Sy → Bool
  | _, [] => true
  | pre, x :: r => !badS pre x && goodL (pre ++ [x]) r
def rightG (gs : List Sy) : Bool := match gs with
  | [] => false
  | x :: r => decide ((x :: r).length ≤ 256) && (syEq x truthS && goodL [] (x :: r))
def chkG (gs : List Sy) : Int := if rightG gs = true then 0 else 1
theorem goodL_at : ∀ (pre gs : List Sy), goodL pre gs = true ↔ ∀ i (h : i < gs.length), badS (pre ++ gs.take i) gs[i] = false
  | pre, [] => by simp [goodL]
  | pre, x :: r => by
    simp only [goodL, Bool.and_eq_true, Bool.not_eq_true', goodL_at (pre ++ [x]) r]
    constructor
    · rintro ⟨h1, h2⟩ i hi
      cases i with
      | zero => simpa using h1
      | succ i => have := h2 i (by simpa using hi); simpa using this
    · intro h
      have h0 : badS pre x = false := by
        have := h 0 (by simp)
        simp only [List.take_zero, List.append_nil, List.getElem_cons_zero] at this
        exact this
      refine ⟨h0, fun i hi => ?_⟩
      have := h (i + 1) (by simpa using hi)
      simpa using this
theorem rightG_len {gs : List Sy} (h : rightG gs = true) : 1 ≤ gs.length ∧ gs.length ≤ 256 := by
  cases gs with
  | nil => simp [rightG] at h
  | cons x r => simp only [rightG, Bool.and_eq_true, decide_eq_true_eq] at h; exact ⟨by simp, h.1⟩
theorem rightG_at {gs : List Sy} (h : rightG gs = true) (i : Nat) (hi : i < gs.length) : badS (gs.take i) gs[i] = false := by
  cases gs with
  | nil => simp at hi
  | cons x r =>
    simp only [rightG, Bool.and_eq_true] at h
    have := (goodL_at [] (x :: r)).1 h.2.2 i hi
    simpa using this
theorem rightG_of {gs : List Sy} (h0 : 0 < gs.length) (h1 : gs.length ≤ 256) (h2 : syEq (gs[0]'h0) truthS = true) (h3 : ∀ i (h : i < gs.length), badS (gs.take i) gs[i] = false) : rightG gs = true := by
  cases gs with
  | nil => simp at h0
  | cons x r =>
    simp only [rightG, Bool.and_eq_true, decide_eq_true_eq]
    exact ⟨h1, by simpa using h2, (goodL_at [] (x :: r)).2 (fun i hi => by simpa using h3 i hi)⟩
theorem chkG_bad {gs : List Sy} (i : Nat) (hi : i < gs.length) (h : badS (gs.take i) gs[i] = true) : chkG gs = 1 := by
  unfold chkG
  rw [if_neg]
  intro hr
  rw [rightG_at hr i hi] at h
  cases h
theorem chkG_head {gs : List Sy} (h0 : 0 < gs.length) (h : ¬ syEq (gs[0]'h0) truthS = true) : chkG gs = 1 := by
  unfold chkG
  rw [if_neg]
  intro hr
  cases gs with
  | nil => simp at h0
  | cons x r => simp only [rightG, Bool.and_eq_true] at hr; exact h (by simpa using hr.2.1)
theorem chkG_len {gs : List Sy} (h : gs.length < 1 ∨ 256 < gs.length) : chkG gs = 1 := by
  unfold chkG
  rw [if_neg]
  intro hr
  have := rightG_len hr
  omega
theorem chkG_ok {gs : List Sy} (h0 : 0 < gs.length) (h1 : gs.length ≤ 256) (h2 : syEq (gs[0]'h0) truthS = true) (h3 : ∀ i (h : i < gs.length), badS (gs.take i) gs[i] = false) : chkG gs = 0 := by
  unfold chkG; rw [if_pos (rightG_of h0 h1 h2 h3)]

theorem GCheck_does {I : Imm} {v : Value} {gs : List Sy} (hv : RepG I v gs) :
    Does Try.prog 35 [v] I [] (fun v _ δ' => v = .int .i64 (chkG gs) ∧ δ' = []) := by
  obtain ⟨ad, c, rfl⟩ := hv.shape
  obtain ⟨_, hc, hb, hat, hok⟩ := hv.open
  refine Does.intro Try.func35 rfl Try.ntmps35 rfl fun w0 => ?_
  refine code_seq ?_
  refine code_region ?_
  refine op_v (v_assign rfl) rfl ?_
  refine ops_nil ?_
  refine post_next ?_
  refine code_seq ?_
  refine code_seq ?_
  refine code_region ?_
  refine op_v (v_move rfl) rfl ?_
  refine op_v (v_len Try.underlying43 rfl) rfl ?_
  by_cases h8 : gs.length < 1
  · first | refine op_v (v_cmpt rfl rfl rfl (by first | omega | (simp; done) | (simp; omega))) rfl ?_ | refine op_v (v_cmpf rfl rfl rfl (by first | omega | (simp; done) | (simp; omega))) rfl ?_ | refine op_v (v_cmp rfl rfl rfl) rfl ?_
    refine op_v (v_move rfl) rfl ?_
    first
      | (refine op_want rfl rfl ?_
         refine op_v (v_move rfl) rfl ?_)
      | (refine op_skip rfl rfl (by simp [undef]) rfl ?_)
    first
      | (refine op_want rfl rfl ?_
         refine op_v (v_len Try.underlying43 rfl) rfl ?_)
      | (refine op_skip rfl rfl (by simp [undef]) rfl ?_)
    first
      | (refine op_want rfl rfl ?_
         first | refine op_v (v_cmpt rfl rfl rfl (by first | omega | (simp; done) | (simp; omega))) rfl ?_ | refine op_v (v_cmpf rfl rfl rfl (by first | omega | (simp; done) | (simp; omega))) rfl ?_ | refine op_v (v_cmp rfl rfl rfl) rfl ?_)
      | (refine op_skip rfl rfl (by simp [undef]) rfl ?_)
    first | refine op_v (v_pickt rfl rfl) rfl ?_ | refine op_v (v_pickf rfl rfl) rfl ?_ | refine op_v (v_pickb rfl rfl rfl) rfl ?_
    refine op_v (v_move rfl) rfl ?_
    first
      | (refine op_want rfl rfl ?_
         refine op_v (v_move rfl) rfl ?_)
      | (refine op_skip rfl rfl (by simp [undef]) rfl ?_)
    first
      | (refine op_want rfl rfl ?_
         first | refine op_v (v_index Try.underlying43 sz49 rfl rfl (by omega) (by assumption)) rfl ?_ | refine op_v (v_indexI Try.underlying43 sz49 rfl rfl (by first | omega | (simp; done) | (simp; omega)) (by first | omega | (simp; done) | (simp; omega)) (by assumption)) rfl ?_)
      | (refine op_skip rfl rfl (by simp [undef]) rfl ?_)
    first
      | (refine op_want rfl rfl ?_
         refine op_v (v_loadI0 (m := 0) ty49 (by have := hat 0 h0; simpa using this) rfl rfl rfl) rfl ?_)
      | (refine op_skip rfl rfl (by simp [undef]) rfl ?_)
    first
      | (refine op_want rfl rfl ?_
         refine op_v (v_build bl49 rfl rfl) rfl ?_)
      | (refine op_skip rfl rfl (by simp [undef]) rfl ?_)
    first
      | (refine op_want rfl rfl ?_
         refine op_v (v_eqSy syTy rfl rfl rfl) rfl ?_)
      | (refine op_skip rfl rfl (by simp [undef]) rfl ?_)
    first | refine op_v (v_pickt rfl rfl) rfl ?_ | refine op_v (v_pickf rfl rfl) rfl ?_ | refine op_v (v_pickb rfl rfl rfl) rfl ?_
    refine ops_nil ?_
    refine post_next ?_
    refine code_cond_t rfl ?_
    refine code_seq ?_
    refine code_region ?_
    refine op_v (v_assign rfl) rfl ?_
    refine ops_nil ?_
    refine post_next ?_
    refine code_ret ?_
    refine post_ret_then ?_
    refine post_ret (rs := [.tmp 2]) rfl (List.Perm.refl _) (.cons (.tmp rfl) .nil) (List.nil_sublist _) ?_
    exact ⟨by rw [chkG_len (.inl h8)]; rfl, rfl⟩
  · first | refine op_v (v_cmpt rfl rfl rfl (by first | omega | (simp; done) | (simp; omega))) rfl ?_ | refine op_v (v_cmpf rfl rfl rfl (by first | omega | (simp; done) | (simp; omega))) rfl ?_ | refine op_v (v_cmp rfl rfl rfl) rfl ?_
    refine op_v (v_move rfl) rfl ?_
    first
      | (refine op_want rfl rfl ?_
         refine op_v (v_move rfl) rfl ?_)
      | (refine op_skip rfl rfl (by simp [undef]) rfl ?_)
    first
      | (refine op_want rfl rfl ?_
         refine op_v (v_len Try.underlying43 rfl) rfl ?_)
      | (refine op_skip rfl rfl (by simp [undef]) rfl ?_)
    by_cases h12 : 256 < gs.length
    · first
        | (refine op_want rfl rfl ?_
           first | refine op_v (v_cmpt rfl rfl rfl (by first | omega | (simp; done) | (simp; omega))) rfl ?_ | refine op_v (v_cmpf rfl rfl rfl (by first | omega | (simp; done) | (simp; omega))) rfl ?_ | refine op_v (v_cmp rfl rfl rfl) rfl ?_)
        | (refine op_skip rfl rfl (by simp [undef]) rfl ?_)
      first | refine op_v (v_pickt rfl rfl) rfl ?_ | refine op_v (v_pickf rfl rfl) rfl ?_ | refine op_v (v_pickb rfl rfl rfl) rfl ?_
      refine op_v (v_move rfl) rfl ?_
      first
        | (refine op_want rfl rfl ?_
           refine op_v (v_move rfl) rfl ?_)
        | (refine op_skip rfl rfl (by simp [undef]) rfl ?_)
      first
        | (refine op_want rfl rfl ?_
           first | refine op_v (v_index Try.underlying43 sz49 rfl rfl (by omega) (by assumption)) rfl ?_ | refine op_v (v_indexI Try.underlying43 sz49 rfl rfl (by first | omega | (simp; done) | (simp; omega)) (by first | omega | (simp; done) | (simp; omega)) (by assumption)) rfl ?_)
        | (refine op_skip rfl rfl (by simp [undef]) rfl ?_)
      first
        | (refine op_want rfl rfl ?_
           refine op_v (v_loadI0 (m := 0) ty49 (by have := hat 0 h0; simpa using this) rfl rfl rfl) rfl ?_)
        | (refine op_skip rfl rfl (by simp [undef]) rfl ?_)
      first
        | (refine op_want rfl rfl ?_
           refine op_v (v_build bl49 rfl rfl) rfl ?_)
        | (refine op_skip rfl rfl (by simp [undef]) rfl ?_)
      first
        | (refine op_want rfl rfl ?_
           refine op_v (v_eqSy syTy rfl rfl rfl) rfl ?_)
        | (refine op_skip rfl rfl (by simp [undef]) rfl ?_)
      first | refine op_v (v_pickt rfl rfl) rfl ?_ | refine op_v (v_pickf rfl rfl) rfl ?_ | refine op_v (v_pickb rfl rfl rfl) rfl ?_
      refine ops_nil ?_
      refine post_next ?_
      refine code_cond_t rfl ?_
      refine code_seq ?_
      refine code_region ?_
      refine op_v (v_assign rfl) rfl ?_
      refine ops_nil ?_
      refine post_next ?_
      refine code_ret ?_
      refine post_ret_then ?_
      refine post_ret (rs := [.tmp 2]) rfl (List.Perm.refl _) (.cons (.tmp rfl) .nil) (List.nil_sublist _) ?_
      exact ⟨by rw [chkG_len (.inr h12)]; rfl, rfl⟩
    · first
        | (refine op_want rfl rfl ?_
           first | refine op_v (v_cmpt rfl rfl rfl (by first | omega | (simp; done) | (simp; omega))) rfl ?_ | refine op_v (v_cmpf rfl rfl rfl (by first | omega | (simp; done) | (simp; omega))) rfl ?_ | refine op_v (v_cmp rfl rfl rfl) rfl ?_)
        | (refine op_skip rfl rfl (by simp [undef]) rfl ?_)
      first | refine op_v (v_pickt rfl rfl) rfl ?_ | refine op_v (v_pickf rfl rfl) rfl ?_ | refine op_v (v_pickb rfl rfl rfl) rfl ?_
      refine op_v (v_move rfl) rfl ?_
      first
        | (refine op_want rfl rfl ?_
           refine op_v (v_move rfl) rfl ?_)
        | (refine op_skip rfl rfl (by simp [undef]) rfl ?_)
      have h0 : 0 < gs.length := by omega
      have hs0 : ad.isSome = true := (hat 0 h0).isSome
      first
        | (refine op_want rfl rfl ?_
           first | refine op_v (v_index Try.underlying43 sz49 rfl rfl (by omega) (by assumption)) rfl ?_ | refine op_v (v_indexI Try.underlying43 sz49 rfl rfl (by first | omega | (simp; done) | (simp; omega)) (by first | omega | (simp; done) | (simp; omega)) (by assumption)) rfl ?_)
        | (refine op_skip rfl rfl (by simp [undef]) rfl ?_)
      first
        | (refine op_want rfl rfl ?_
           refine op_v (v_loadI0 (m := 0) ty49 (by have := hat 0 h0; simpa using this) rfl rfl rfl) rfl ?_)
        | (refine op_skip rfl rfl (by simp [undef]) rfl ?_)
      first
        | (refine op_want rfl rfl ?_
           refine op_v (v_build bl49 rfl rfl) rfl ?_)
        | (refine op_skip rfl rfl (by simp [undef]) rfl ?_)
      by_cases h19 : syEq (gs[0]'h0) truthS = true
      · first
          | (refine op_want rfl rfl ?_
             refine op_v (v_eqSy (a := gs[0]'h0) (b := truthS) (z := false) syTy rfl rfl (by simp [cmpG, h19])) rfl ?_)
          | (refine op_skip rfl rfl (by simp [undef]) rfl ?_)
        first | refine op_v (v_pickt rfl rfl) rfl ?_ | refine op_v (v_pickf rfl rfl) rfl ?_ | refine op_v (v_pickb rfl rfl rfl) rfl ?_
        refine ops_nil ?_
        refine post_next ?_
        refine code_cond_f rfl ?_
        refine code_skip ?_
        refine post_next ?_
        refine code_seq ?_
        refine code_seq ?_
        refine code_region ?_
        refine op_v (v_move rfl) rfl ?_
        refine op_v (v_len Try.underlying43 rfl) rfl ?_
        refine op_v (v_move rfl) rfl ?_
        refine ops_nil ?_
        refine post_next ?_
        refine code_block ?_
        refine code_loop (fun m σ' I' δ' => ∃ k : Nat, m = gs.length - k ∧ k ≤ gs.length ∧ σ' = [(0, .slice ad gs.length c), (21, .slice ad gs.length c), (22, .int .i64 gs.length), (23, .int .i64 k)] ∧ I.le I' ∧ δ' = [] ∧ ∀ i (h : i < gs.length), i < k → badS (gs.take i) gs[i] = false) gs.length [(0, .slice ad gs.length c), (21, .slice ad gs.length c), (22, .int .i64 gs.length), (23, .int .i64 (0 : Nat))] ⟨0, rfl, Nat.zero_le _, rfl, Imm.le_refl _, rfl, fun i _ h => by omega⟩ ⟨rfl, rfl, rfl, rfl, trivial⟩ ?_
        rintro m _ I0 _ ⟨k, rfl, hk, rfl, hI0, rfl, hp⟩
        refine code_seq ?_
        refine code_region ?_
        first | refine op_v (v_cmpt rfl rfl rfl (by first | omega | (simp; done) | (simp; omega))) rfl ?_ | refine op_v (v_cmpf rfl rfl rfl (by first | omega | (simp; done) | (simp; omega))) rfl ?_ | refine op_v (v_cmp rfl rfl rfl) rfl ?_
        refine ops_nil ?_
        refine post_next ?_
        refine code_seq ?_
        refine code_cond rfl (fun hc1 => ?_) (fun hc1 => ?_)
        · have hlt : k < gs.length := by simpa using hc1
          have hs1 := (hat k hlt).isSome
          refine code_skip ?_
          refine post_next ?_
          refine code_seq ?_
          refine code_block ?_
          refine code_seq ?_
          refine code_region ?_
          refine op_v (v_move rfl) rfl ?_
          first | refine op_v (v_index Try.underlying43 sz49 rfl rfl (by omega) (by assumption)) rfl ?_ | refine op_v (v_indexI Try.underlying43 sz49 rfl rfl (by first | omega | (simp; done) | (simp; omega)) (by first | omega | (simp; done) | (simp; omega)) (by assumption)) rfl ?_
          first | refine op_v (v_loadI0 ty49 ((hat k hlt).mono hI0) rfl rfl rfl) rfl ?_ | refine op_v (v_loadI ty49 ((hat k hlt).mono hI0) rfl rfl rfl) rfl ?_
          refine o_alloc z49 rfl rfl (fun b4 => ?_)
          refine op_v (v_assign rfl) rfl ?_
          refine o_store ty49 rfl rfl rfl rfl rfl (by repeat (first | exact Swap.here | refine Swap.there ?_)) rfl ?_
          refine ops_nil ?_
          refine post_next ?_
          refine code_seq ?_
          refine code_region ?_
          refine op_v (v_move rfl) rfl ?_
          refine op_v (v_move rfl) rfl ?_
          refine op_v (v_sliceTo Try.underlying43 sz49 rfl rfl (by omega)) rfl ?_
          refine op_v (v_makeFunc rfl rfl) rfl ?_
          refine op_call pl60 rfl rfl ((ContainsFunc_does (δf := [.box b4 49 gs[k].cs]) ((RepG.take hv (Nat.le_of_lt hlt)).mono hI0) (fun J s _ => FDoes.ofFunc (caps := [_]) pl61 Check1_does))) Parts.all ?_
          rintro v32 I32 _ hI32 ⟨rfl, rfl⟩
          refine op_v (v_assign rfl) rfl ?_
          refine ops_nil ?_
          refine post_next ?_
          refine code_seq ?_
          refine code_region ?_
          first | refine op_v (v_fieldB 0 Try.underlying49 rfl rfl fz9 rfl) rfl ?_ | refine op_v (v_fieldI 0 Try.underlying49 rfl rfl fz9 rfl (by assumption)) rfl ?_ | refine op_v (v_field Try.underlying49 rfl fz9 rfl rfl) rfl ?_
          refine op_v (v_load ty9 rfl (by repeat (first | exact Has.here | refine Has.there ?_)) rfl) rfl ?_
          by_cases h35 : nmEq gs[k].name ⟨#[]⟩ = true
          · refine op_v (v_eqs (z := true) rfl rfl (by simpa [cmpS, nmEq] using h35)) rfl ?_
            refine op_v (v_move rfl) rfl ?_
            first
              | (refine op_want rfl rfl ?_
                 first | refine op_v (v_fieldB 0 Try.underlying49 rfl rfl fz9 rfl) rfl ?_ | refine op_v (v_fieldI 0 Try.underlying49 rfl rfl fz9 rfl (by assumption)) rfl ?_ | refine op_v (v_field Try.underlying49 rfl fz9 rfl rfl) rfl ?_)
              | (refine op_skip rfl rfl (by simp [undef]) rfl ?_)
            first
              | (refine op_want rfl rfl ?_
                 refine op_v (v_load ty9 rfl (by repeat (first | exact Has.here | refine Has.there ?_)) rfl) rfl ?_)
              | (refine op_skip rfl rfl (by simp [undef]) rfl ?_)
            first
              | (refine op_want rfl rfl ?_
                 refine op_v (v_lens Try.underlying9 rfl) rfl ?_)
              | (refine op_skip rfl rfl (by simp [undef]) rfl ?_)
            first
              | (refine op_want rfl rfl ?_
                 first | refine op_v (v_cmpt rfl rfl rfl (by first | omega | (simp; done) | (simp; omega))) rfl ?_ | refine op_v (v_cmpf rfl rfl rfl (by first | omega | (simp; done) | (simp; omega))) rfl ?_ | refine op_v (v_cmp rfl rfl rfl) rfl ?_)
              | (refine op_skip rfl rfl (by simp [undef]) rfl ?_)
            first | refine op_v (v_pickt rfl rfl) rfl ?_ | refine op_v (v_pickf rfl rfl) rfl ?_ | refine op_v (v_pickb rfl rfl rfl) rfl ?_
            refine op_v (v_move rfl) rfl ?_
            first
              | (refine op_want rfl rfl ?_
                 refine op_v (v_move rfl) rfl ?_)
              | (refine op_skip rfl rfl (by simp [undef]) rfl ?_)
            first | refine op_v (v_pickt rfl rfl) rfl ?_ | refine op_v (v_pickf rfl rfl) rfl ?_ | refine op_v (v_pickb rfl rfl rfl) rfl ?_
            refine op_v (v_move rfl) rfl ?_
            first
              | (refine op_want rfl rfl ?_
                 first | refine op_v (v_fieldB 1 Try.underlying49 rfl rfl fz3 rfl) rfl ?_ | refine op_v (v_fieldI 1 Try.underlying49 rfl rfl fz3 rfl (by assumption)) rfl ?_ | refine op_v (v_field Try.underlying49 rfl fz3 rfl rfl) rfl ?_)
              | (refine op_skip rfl rfl (by simp [undef]) rfl ?_)
            first
              | (refine op_want rfl rfl ?_
                 refine op_v (v_load ty3 rfl (by repeat (first | exact Has.here | refine Has.there ?_)) rfl) rfl ?_)
              | (refine op_skip rfl rfl (by simp [undef]) rfl ?_)
            first
              | (refine op_want rfl rfl ?_
                 first | refine op_v (v_cmpt rfl rfl rfl (by first | omega | (simp; done) | (simp; omega))) rfl ?_ | refine op_v (v_cmpf rfl rfl rfl (by first | omega | (simp; done) | (simp; omega))) rfl ?_ | refine op_v (v_cmp rfl rfl rfl) rfl ?_)
              | (refine op_skip rfl rfl (by simp [undef]) rfl ?_)
            first | refine op_v (v_pickt rfl rfl) rfl ?_ | refine op_v (v_pickf rfl rfl) rfl ?_ | refine op_v (v_pickb rfl rfl rfl) rfl ?_
            refine op_v (v_move rfl) rfl ?_
            first
              | (refine op_want rfl rfl ?_
                 first | refine op_v (v_fieldB 1 Try.underlying49 rfl rfl fz3 rfl) rfl ?_ | refine op_v (v_fieldI 1 Try.underlying49 rfl rfl fz3 rfl (by assumption)) rfl ?_ | refine op_v (v_field Try.underlying49 rfl fz3 rfl rfl) rfl ?_)
              | (refine op_skip rfl rfl (by simp [undef]) rfl ?_)
            first
              | (refine op_want rfl rfl ?_
                 refine op_v (v_load ty3 rfl (by repeat (first | exact Has.here | refine Has.there ?_)) rfl) rfl ?_)
              | (refine op_skip rfl rfl (by simp [undef]) rfl ?_)
            first
              | (refine op_want rfl rfl ?_
                 first | refine op_v (v_cmpt rfl rfl rfl (by first | omega | (simp; done) | (simp; omega))) rfl ?_ | refine op_v (v_cmpf rfl rfl rfl (by first | omega | (simp; done) | (simp; omega))) rfl ?_ | refine op_v (v_cmp rfl rfl rfl) rfl ?_)
              | (refine op_skip rfl rfl (by simp [undef]) rfl ?_)
            first | refine op_v (v_pickt rfl rfl) rfl ?_ | refine op_v (v_pickf rfl rfl) rfl ?_ | refine op_v (v_pickb rfl rfl rfl) rfl ?_
            refine op_v (v_move rfl) rfl ?_
            first
              | (refine op_want rfl rfl ?_
                 first | refine op_v (v_fieldB 2 Try.underlying49 rfl rfl fz3 rfl) rfl ?_ | refine op_v (v_fieldI 2 Try.underlying49 rfl rfl fz3 rfl (by assumption)) rfl ?_ | refine op_v (v_field Try.underlying49 rfl fz3 rfl rfl) rfl ?_)
              | (refine op_skip rfl rfl (by simp [undef]) rfl ?_)
            first
              | (refine op_want rfl rfl ?_
                 refine op_v (v_load ty3 rfl (by repeat (first | exact Has.here | refine Has.there ?_)) rfl) rfl ?_)
              | (refine op_skip rfl rfl (by simp [undef]) rfl ?_)
            first
              | (refine op_want rfl rfl ?_
                 first | refine op_v (v_cmpt rfl rfl rfl (by first | omega | (simp; done) | (simp; omega))) rfl ?_ | refine op_v (v_cmpf rfl rfl rfl (by first | omega | (simp; done) | (simp; omega))) rfl ?_ | refine op_v (v_cmp rfl rfl rfl) rfl ?_)
              | (refine op_skip rfl rfl (by simp [undef]) rfl ?_)
            first | refine op_v (v_pickt rfl rfl) rfl ?_ | refine op_v (v_pickf rfl rfl) rfl ?_ | refine op_v (v_pickb rfl rfl rfl) rfl ?_
            refine op_v (v_move rfl) rfl ?_
            first
              | (refine op_want rfl rfl ?_
                 first | refine op_v (v_fieldB 2 Try.underlying49 rfl rfl fz3 rfl) rfl ?_ | refine op_v (v_fieldI 2 Try.underlying49 rfl rfl fz3 rfl (by assumption)) rfl ?_ | refine op_v (v_field Try.underlying49 rfl fz3 rfl rfl) rfl ?_)
              | (refine op_skip rfl rfl (by simp [undef]) rfl ?_)
            first
              | (refine op_want rfl rfl ?_
                 refine op_v (v_load ty3 rfl (by repeat (first | exact Has.here | refine Has.there ?_)) rfl) rfl ?_)
              | (refine op_skip rfl rfl (by simp [undef]) rfl ?_)
            first
              | (refine op_want rfl rfl ?_
                 first | refine op_v (v_cmpt rfl rfl rfl (by first | omega | (simp; done) | (simp; omega))) rfl ?_ | refine op_v (v_cmpf rfl rfl rfl (by first | omega | (simp; done) | (simp; omega))) rfl ?_ | refine op_v (v_cmp rfl rfl rfl) rfl ?_)
              | (refine op_skip rfl rfl (by simp [undef]) rfl ?_)
            first | refine op_v (v_pickt rfl rfl) rfl ?_ | refine op_v (v_pickf rfl rfl) rfl ?_ | refine op_v (v_pickb rfl rfl rfl) rfl ?_
            refine ops_nil ?_
            refine post_next ?_
            refine code_cond_t rfl ?_
            refine code_seq ?_
            refine code_region ?_
            refine op_v (v_assign rfl) rfl ?_
            refine ops_nil ?_
            refine post_next ?_
            refine code_ret ?_
            refine post_ret_block ?_
            refine post_ret_then ?_
            refine post_ret_then ?_
            refine post_ret_block ?_
            refine post_ret_then ?_
            refine post_ret (rs := [.tmp 2]) rfl (List.Perm.refl _) (.cons (.tmp rfl) .nil) (List.nil_sublist _) ?_
            exact ⟨by rw [chkG_bad k hlt (by unfold badS; rw [h35]; rfl)]; rfl, rfl⟩
          · refine op_v (v_eqs (z := false) rfl rfl (by simpa [cmpS, nmEq] using h35)) rfl ?_
            refine op_v (v_move rfl) rfl ?_
            first
              | (refine op_want rfl rfl ?_
                 first | refine op_v (v_fieldB 0 Try.underlying49 rfl rfl fz9 rfl) rfl ?_ | refine op_v (v_fieldI 0 Try.underlying49 rfl rfl fz9 rfl (by assumption)) rfl ?_ | refine op_v (v_field Try.underlying49 rfl fz9 rfl rfl) rfl ?_)
              | (refine op_skip rfl rfl (by simp [undef]) rfl ?_)
            first
              | (refine op_want rfl rfl ?_
                 refine op_v (v_load ty9 rfl (by repeat (first | exact Has.here | refine Has.there ?_)) rfl) rfl ?_)
              | (refine op_skip rfl rfl (by simp [undef]) rfl ?_)
            first
              | (refine op_want rfl rfl ?_
                 refine op_v (v_lens Try.underlying9 rfl) rfl ?_)
              | (refine op_skip rfl rfl (by simp [undef]) rfl ?_)
            by_cases h40 : 64 < gs[k].name.size
            · first
                | (refine op_want rfl rfl ?_
                   first | refine op_v (v_cmpt rfl rfl rfl (by first | omega | (simp; done) | (simp; omega))) rfl ?_ | refine op_v (v_cmpf rfl rfl rfl (by first | omega | (simp; done) | (simp; omega))) rfl ?_ | refine op_v (v_cmp rfl rfl rfl) rfl ?_)
                | (refine op_skip rfl rfl (by simp [undef]) rfl ?_)
              first | refine op_v (v_pickt rfl rfl) rfl ?_ | refine op_v (v_pickf rfl rfl) rfl ?_ | refine op_v (v_pickb rfl rfl rfl) rfl ?_
              refine op_v (v_move rfl) rfl ?_
              first
                | (refine op_want rfl rfl ?_
                   refine op_v (v_move rfl) rfl ?_)
                | (refine op_skip rfl rfl (by simp [undef]) rfl ?_)
              first | refine op_v (v_pickt rfl rfl) rfl ?_ | refine op_v (v_pickf rfl rfl) rfl ?_ | refine op_v (v_pickb rfl rfl rfl) rfl ?_
              refine op_v (v_move rfl) rfl ?_
              first
                | (refine op_want rfl rfl ?_
                   first | refine op_v (v_fieldB 1 Try.underlying49 rfl rfl fz3 rfl) rfl ?_ | refine op_v (v_fieldI 1 Try.underlying49 rfl rfl fz3 rfl (by assumption)) rfl ?_ | refine op_v (v_field Try.underlying49 rfl fz3 rfl rfl) rfl ?_)
                | (refine op_skip rfl rfl (by simp [undef]) rfl ?_)
              first
                | (refine op_want rfl rfl ?_
                   refine op_v (v_load ty3 rfl (by repeat (first | exact Has.here | refine Has.there ?_)) rfl) rfl ?_)
                | (refine op_skip rfl rfl (by simp [undef]) rfl ?_)
              first
                | (refine op_want rfl rfl ?_
                   first | refine op_v (v_cmpt rfl rfl rfl (by first | omega | (simp; done) | (simp; omega))) rfl ?_ | refine op_v (v_cmpf rfl rfl rfl (by first | omega | (simp; done) | (simp; omega))) rfl ?_ | refine op_v (v_cmp rfl rfl rfl) rfl ?_)
                | (refine op_skip rfl rfl (by simp [undef]) rfl ?_)
              first | refine op_v (v_pickt rfl rfl) rfl ?_ | refine op_v (v_pickf rfl rfl) rfl ?_ | refine op_v (v_pickb rfl rfl rfl) rfl ?_
              refine op_v (v_move rfl) rfl ?_
              first
                | (refine op_want rfl rfl ?_
                   first | refine op_v (v_fieldB 1 Try.underlying49 rfl rfl fz3 rfl) rfl ?_ | refine op_v (v_fieldI 1 Try.underlying49 rfl rfl fz3 rfl (by assumption)) rfl ?_ | refine op_v (v_field Try.underlying49 rfl fz3 rfl rfl) rfl ?_)
                | (refine op_skip rfl rfl (by simp [undef]) rfl ?_)
              first
                | (refine op_want rfl rfl ?_
                   refine op_v (v_load ty3 rfl (by repeat (first | exact Has.here | refine Has.there ?_)) rfl) rfl ?_)
                | (refine op_skip rfl rfl (by simp [undef]) rfl ?_)
              first
                | (refine op_want rfl rfl ?_
                   first | refine op_v (v_cmpt rfl rfl rfl (by first | omega | (simp; done) | (simp; omega))) rfl ?_ | refine op_v (v_cmpf rfl rfl rfl (by first | omega | (simp; done) | (simp; omega))) rfl ?_ | refine op_v (v_cmp rfl rfl rfl) rfl ?_)
                | (refine op_skip rfl rfl (by simp [undef]) rfl ?_)
              first | refine op_v (v_pickt rfl rfl) rfl ?_ | refine op_v (v_pickf rfl rfl) rfl ?_ | refine op_v (v_pickb rfl rfl rfl) rfl ?_
              refine op_v (v_move rfl) rfl ?_
              first
                | (refine op_want rfl rfl ?_
                   first | refine op_v (v_fieldB 2 Try.underlying49 rfl rfl fz3 rfl) rfl ?_ | refine op_v (v_fieldI 2 Try.underlying49 rfl rfl fz3 rfl (by assumption)) rfl ?_ | refine op_v (v_field Try.underlying49 rfl fz3 rfl rfl) rfl ?_)
                | (refine op_skip rfl rfl (by simp [undef]) rfl ?_)
              first
                | (refine op_want rfl rfl ?_
                   refine op_v (v_load ty3 rfl (by repeat (first | exact Has.here | refine Has.there ?_)) rfl) rfl ?_)
                | (refine op_skip rfl rfl (by simp [undef]) rfl ?_)
              first
                | (refine op_want rfl rfl ?_
                   first | refine op_v (v_cmpt rfl rfl rfl (by first | omega | (simp; done) | (simp; omega))) rfl ?_ | refine op_v (v_cmpf rfl rfl rfl (by first | omega | (simp; done) | (simp; omega))) rfl ?_ | refine op_v (v_cmp rfl rfl rfl) rfl ?_)
                | (refine op_skip rfl rfl (by simp [undef]) rfl ?_)
              first | refine op_v (v_pickt rfl rfl) rfl ?_ | refine op_v (v_pickf rfl rfl) rfl ?_ | refine op_v (v_pickb rfl rfl rfl) rfl ?_
              refine op_v (v_move rfl) rfl ?_
              first
                | (refine op_want rfl rfl ?_
                   first | refine op_v (v_fieldB 2 Try.underlying49 rfl rfl fz3 rfl) rfl ?_ | refine op_v (v_fieldI 2 Try.underlying49 rfl rfl fz3 rfl (by assumption)) rfl ?_ | refine op_v (v_field Try.underlying49 rfl fz3 rfl rfl) rfl ?_)
                | (refine op_skip rfl rfl (by simp [undef]) rfl ?_)
              first
                | (refine op_want rfl rfl ?_
                   refine op_v (v_load ty3 rfl (by repeat (first | exact Has.here | refine Has.there ?_)) rfl) rfl ?_)
                | (refine op_skip rfl rfl (by simp [undef]) rfl ?_)
              first
                | (refine op_want rfl rfl ?_
                   first | refine op_v (v_cmpt rfl rfl rfl (by first | omega | (simp; done) | (simp; omega))) rfl ?_ | refine op_v (v_cmpf rfl rfl rfl (by first | omega | (simp; done) | (simp; omega))) rfl ?_ | refine op_v (v_cmp rfl rfl rfl) rfl ?_)
                | (refine op_skip rfl rfl (by simp [undef]) rfl ?_)
              first | refine op_v (v_pickt rfl rfl) rfl ?_ | refine op_v (v_pickf rfl rfl) rfl ?_ | refine op_v (v_pickb rfl rfl rfl) rfl ?_
              refine ops_nil ?_
              refine post_next ?_
              refine code_cond_t rfl ?_
              refine code_seq ?_
              refine code_region ?_
              refine op_v (v_assign rfl) rfl ?_
              refine ops_nil ?_
              refine post_next ?_
              refine code_ret ?_
              refine post_ret_block ?_
              refine post_ret_then ?_
              refine post_ret_then ?_
              refine post_ret_block ?_
              refine post_ret_then ?_
              refine post_ret (rs := [.tmp 2]) rfl (List.Perm.refl _) (.cons (.tmp rfl) .nil) (List.nil_sublist _) ?_
              exact ⟨by rw [chkG_bad k hlt (by simp [badS, h40])]; rfl, rfl⟩
            · first
                | (refine op_want rfl rfl ?_
                   first | refine op_v (v_cmpt rfl rfl rfl (by first | omega | (simp; done) | (simp; omega))) rfl ?_ | refine op_v (v_cmpf rfl rfl rfl (by first | omega | (simp; done) | (simp; omega))) rfl ?_ | refine op_v (v_cmp rfl rfl rfl) rfl ?_)
                | (refine op_skip rfl rfl (by simp [undef]) rfl ?_)
              first | refine op_v (v_pickt rfl rfl) rfl ?_ | refine op_v (v_pickf rfl rfl) rfl ?_ | refine op_v (v_pickb rfl rfl rfl) rfl ?_
              refine op_v (v_move rfl) rfl ?_
              by_cases h43 : ((gs.take k).any fun s => nmEq s.name gs[k].name) = true
              · rw [h43]
                first
                  | (refine op_want rfl rfl ?_
                     refine op_v (v_move rfl) rfl ?_)
                  | (refine op_skip rfl rfl (by simp [undef]) rfl ?_)
                first | refine op_v (v_pickt rfl rfl) rfl ?_ | refine op_v (v_pickf rfl rfl) rfl ?_ | refine op_v (v_pickb rfl rfl rfl) rfl ?_
                refine op_v (v_move rfl) rfl ?_
                first
                  | (refine op_want rfl rfl ?_
                     first | refine op_v (v_fieldB 1 Try.underlying49 rfl rfl fz3 rfl) rfl ?_ | refine op_v (v_fieldI 1 Try.underlying49 rfl rfl fz3 rfl (by assumption)) rfl ?_ | refine op_v (v_field Try.underlying49 rfl fz3 rfl rfl) rfl ?_)
                  | (refine op_skip rfl rfl (by simp [undef]) rfl ?_)
                first
                  | (refine op_want rfl rfl ?_
                     refine op_v (v_load ty3 rfl (by repeat (first | exact Has.here | refine Has.there ?_)) rfl) rfl ?_)
                  | (refine op_skip rfl rfl (by simp [undef]) rfl ?_)
                first
                  | (refine op_want rfl rfl ?_
                     first | refine op_v (v_cmpt rfl rfl rfl (by first | omega | (simp; done) | (simp; omega))) rfl ?_ | refine op_v (v_cmpf rfl rfl rfl (by first | omega | (simp; done) | (simp; omega))) rfl ?_ | refine op_v (v_cmp rfl rfl rfl) rfl ?_)
                  | (refine op_skip rfl rfl (by simp [undef]) rfl ?_)
                first | refine op_v (v_pickt rfl rfl) rfl ?_ | refine op_v (v_pickf rfl rfl) rfl ?_ | refine op_v (v_pickb rfl rfl rfl) rfl ?_
                refine op_v (v_move rfl) rfl ?_
                first
                  | (refine op_want rfl rfl ?_
                     first | refine op_v (v_fieldB 1 Try.underlying49 rfl rfl fz3 rfl) rfl ?_ | refine op_v (v_fieldI 1 Try.underlying49 rfl rfl fz3 rfl (by assumption)) rfl ?_ | refine op_v (v_field Try.underlying49 rfl fz3 rfl rfl) rfl ?_)
                  | (refine op_skip rfl rfl (by simp [undef]) rfl ?_)
                first
                  | (refine op_want rfl rfl ?_
                     refine op_v (v_load ty3 rfl (by repeat (first | exact Has.here | refine Has.there ?_)) rfl) rfl ?_)
                  | (refine op_skip rfl rfl (by simp [undef]) rfl ?_)
                first
                  | (refine op_want rfl rfl ?_
                     first | refine op_v (v_cmpt rfl rfl rfl (by first | omega | (simp; done) | (simp; omega))) rfl ?_ | refine op_v (v_cmpf rfl rfl rfl (by first | omega | (simp; done) | (simp; omega))) rfl ?_ | refine op_v (v_cmp rfl rfl rfl) rfl ?_)
                  | (refine op_skip rfl rfl (by simp [undef]) rfl ?_)
                first | refine op_v (v_pickt rfl rfl) rfl ?_ | refine op_v (v_pickf rfl rfl) rfl ?_ | refine op_v (v_pickb rfl rfl rfl) rfl ?_
                refine op_v (v_move rfl) rfl ?_
                first
                  | (refine op_want rfl rfl ?_
                     first | refine op_v (v_fieldB 2 Try.underlying49 rfl rfl fz3 rfl) rfl ?_ | refine op_v (v_fieldI 2 Try.underlying49 rfl rfl fz3 rfl (by assumption)) rfl ?_ | refine op_v (v_field Try.underlying49 rfl fz3 rfl rfl) rfl ?_)
                  | (refine op_skip rfl rfl (by simp [undef]) rfl ?_)
                first
                  | (refine op_want rfl rfl ?_
                     refine op_v (v_load ty3 rfl (by repeat (first | exact Has.here | refine Has.there ?_)) rfl) rfl ?_)
                  | (refine op_skip rfl rfl (by simp [undef]) rfl ?_)
                first
                  | (refine op_want rfl rfl ?_
                     first | refine op_v (v_cmpt rfl rfl rfl (by first | omega | (simp; done) | (simp; omega))) rfl ?_ | refine op_v (v_cmpf rfl rfl rfl (by first | omega | (simp; done) | (simp; omega))) rfl ?_ | refine op_v (v_cmp rfl rfl rfl) rfl ?_)
                  | (refine op_skip rfl rfl (by simp [undef]) rfl ?_)
                first | refine op_v (v_pickt rfl rfl) rfl ?_ | refine op_v (v_pickf rfl rfl) rfl ?_ | refine op_v (v_pickb rfl rfl rfl) rfl ?_
                refine op_v (v_move rfl) rfl ?_
                first
                  | (refine op_want rfl rfl ?_
                     first | refine op_v (v_fieldB 2 Try.underlying49 rfl rfl fz3 rfl) rfl ?_ | refine op_v (v_fieldI 2 Try.underlying49 rfl rfl fz3 rfl (by assumption)) rfl ?_ | refine op_v (v_field Try.underlying49 rfl fz3 rfl rfl) rfl ?_)
                  | (refine op_skip rfl rfl (by simp [undef]) rfl ?_)
                first
                  | (refine op_want rfl rfl ?_
                     refine op_v (v_load ty3 rfl (by repeat (first | exact Has.here | refine Has.there ?_)) rfl) rfl ?_)
                  | (refine op_skip rfl rfl (by simp [undef]) rfl ?_)
                first
                  | (refine op_want rfl rfl ?_
                     first | refine op_v (v_cmpt rfl rfl rfl (by first | omega | (simp; done) | (simp; omega))) rfl ?_ | refine op_v (v_cmpf rfl rfl rfl (by first | omega | (simp; done) | (simp; omega))) rfl ?_ | refine op_v (v_cmp rfl rfl rfl) rfl ?_)
                  | (refine op_skip rfl rfl (by simp [undef]) rfl ?_)
                first | refine op_v (v_pickt rfl rfl) rfl ?_ | refine op_v (v_pickf rfl rfl) rfl ?_ | refine op_v (v_pickb rfl rfl rfl) rfl ?_
                refine ops_nil ?_
                refine post_next ?_
                refine code_cond_t rfl ?_
                refine code_seq ?_
                refine code_region ?_
                refine op_v (v_assign rfl) rfl ?_
                refine ops_nil ?_
                refine post_next ?_
                refine code_ret ?_
                refine post_ret_block ?_
                refine post_ret_then ?_
                refine post_ret_then ?_
                refine post_ret_block ?_
                refine post_ret_then ?_
                refine post_ret (rs := [.tmp 2]) rfl (List.Perm.refl _) (.cons (.tmp rfl) .nil) (List.nil_sublist _) ?_
                exact ⟨by rw [chkG_bad k hlt (by unfold badS; rw [h43]; simp)]; rfl, rfl⟩
              · have h43' : ((gs.take k).any fun s => nmEq s.name gs[k].name) = false := by simpa using h43
                rw [h43']
                first
                  | (refine op_want rfl rfl ?_
                     refine op_v (v_move rfl) rfl ?_)
                  | (refine op_skip rfl rfl (by simp [undef]) rfl ?_)
                first | refine op_v (v_pickt rfl rfl) rfl ?_ | refine op_v (v_pickf rfl rfl) rfl ?_ | refine op_v (v_pickb rfl rfl rfl) rfl ?_
                refine op_v (v_move rfl) rfl ?_
                first
                  | (refine op_want rfl rfl ?_
                     first | refine op_v (v_fieldB 1 Try.underlying49 rfl rfl fz3 rfl) rfl ?_ | refine op_v (v_fieldI 1 Try.underlying49 rfl rfl fz3 rfl (by assumption)) rfl ?_ | refine op_v (v_field Try.underlying49 rfl fz3 rfl rfl) rfl ?_)
                  | (refine op_skip rfl rfl (by simp [undef]) rfl ?_)
                first
                  | (refine op_want rfl rfl ?_
                     refine op_v (v_load ty3 rfl (by repeat (first | exact Has.here | refine Has.there ?_)) rfl) rfl ?_)
                  | (refine op_skip rfl rfl (by simp [undef]) rfl ?_)
                by_cases h48 : gs[k].ar < 0
                · first
                    | (refine op_want rfl rfl ?_
                       first | refine op_v (v_cmpt rfl rfl rfl (by first | omega | (simp; done) | (simp; omega))) rfl ?_ | refine op_v (v_cmpf rfl rfl rfl (by first | omega | (simp; done) | (simp; omega))) rfl ?_ | refine op_v (v_cmp rfl rfl rfl) rfl ?_)
                    | (refine op_skip rfl rfl (by simp [undef]) rfl ?_)
                  first | refine op_v (v_pickt rfl rfl) rfl ?_ | refine op_v (v_pickf rfl rfl) rfl ?_ | refine op_v (v_pickb rfl rfl rfl) rfl ?_
                  refine op_v (v_move rfl) rfl ?_
                  first
                    | (refine op_want rfl rfl ?_
                       first | refine op_v (v_fieldB 1 Try.underlying49 rfl rfl fz3 rfl) rfl ?_ | refine op_v (v_fieldI 1 Try.underlying49 rfl rfl fz3 rfl (by assumption)) rfl ?_ | refine op_v (v_field Try.underlying49 rfl fz3 rfl rfl) rfl ?_)
                    | (refine op_skip rfl rfl (by simp [undef]) rfl ?_)
                  first
                    | (refine op_want rfl rfl ?_
                       refine op_v (v_load ty3 rfl (by repeat (first | exact Has.here | refine Has.there ?_)) rfl) rfl ?_)
                    | (refine op_skip rfl rfl (by simp [undef]) rfl ?_)
                  first
                    | (refine op_want rfl rfl ?_
                       first | refine op_v (v_cmpt rfl rfl rfl (by first | omega | (simp; done) | (simp; omega))) rfl ?_ | refine op_v (v_cmpf rfl rfl rfl (by first | omega | (simp; done) | (simp; omega))) rfl ?_ | refine op_v (v_cmp rfl rfl rfl) rfl ?_)
                    | (refine op_skip rfl rfl (by simp [undef]) rfl ?_)
                  first | refine op_v (v_pickt rfl rfl) rfl ?_ | refine op_v (v_pickf rfl rfl) rfl ?_ | refine op_v (v_pickb rfl rfl rfl) rfl ?_
                  refine op_v (v_move rfl) rfl ?_
                  first
                    | (refine op_want rfl rfl ?_
                       first | refine op_v (v_fieldB 2 Try.underlying49 rfl rfl fz3 rfl) rfl ?_ | refine op_v (v_fieldI 2 Try.underlying49 rfl rfl fz3 rfl (by assumption)) rfl ?_ | refine op_v (v_field Try.underlying49 rfl fz3 rfl rfl) rfl ?_)
                    | (refine op_skip rfl rfl (by simp [undef]) rfl ?_)
                  first
                    | (refine op_want rfl rfl ?_
                       refine op_v (v_load ty3 rfl (by repeat (first | exact Has.here | refine Has.there ?_)) rfl) rfl ?_)
                    | (refine op_skip rfl rfl (by simp [undef]) rfl ?_)
                  first
                    | (refine op_want rfl rfl ?_
                       first | refine op_v (v_cmpt rfl rfl rfl (by first | omega | (simp; done) | (simp; omega))) rfl ?_ | refine op_v (v_cmpf rfl rfl rfl (by first | omega | (simp; done) | (simp; omega))) rfl ?_ | refine op_v (v_cmp rfl rfl rfl) rfl ?_)
                    | (refine op_skip rfl rfl (by simp [undef]) rfl ?_)
                  first | refine op_v (v_pickt rfl rfl) rfl ?_ | refine op_v (v_pickf rfl rfl) rfl ?_ | refine op_v (v_pickb rfl rfl rfl) rfl ?_
                  refine op_v (v_move rfl) rfl ?_
                  first
                    | (refine op_want rfl rfl ?_
                       first | refine op_v (v_fieldB 2 Try.underlying49 rfl rfl fz3 rfl) rfl ?_ | refine op_v (v_fieldI 2 Try.underlying49 rfl rfl fz3 rfl (by assumption)) rfl ?_ | refine op_v (v_field Try.underlying49 rfl fz3 rfl rfl) rfl ?_)
                    | (refine op_skip rfl rfl (by simp [undef]) rfl ?_)
                  first
                    | (refine op_want rfl rfl ?_
                       refine op_v (v_load ty3 rfl (by repeat (first | exact Has.here | refine Has.there ?_)) rfl) rfl ?_)
                    | (refine op_skip rfl rfl (by simp [undef]) rfl ?_)
                  first
                    | (refine op_want rfl rfl ?_
                       first | refine op_v (v_cmpt rfl rfl rfl (by first | omega | (simp; done) | (simp; omega))) rfl ?_ | refine op_v (v_cmpf rfl rfl rfl (by first | omega | (simp; done) | (simp; omega))) rfl ?_ | refine op_v (v_cmp rfl rfl rfl) rfl ?_)
                    | (refine op_skip rfl rfl (by simp [undef]) rfl ?_)
                  first | refine op_v (v_pickt rfl rfl) rfl ?_ | refine op_v (v_pickf rfl rfl) rfl ?_ | refine op_v (v_pickb rfl rfl rfl) rfl ?_
                  refine ops_nil ?_
                  refine post_next ?_
                  refine code_cond_t rfl ?_
                  refine code_seq ?_
                  refine code_region ?_
                  refine op_v (v_assign rfl) rfl ?_
                  refine ops_nil ?_
                  refine post_next ?_
                  refine code_ret ?_
                  refine post_ret_block ?_
                  refine post_ret_then ?_
                  refine post_ret_then ?_
                  refine post_ret_block ?_
                  refine post_ret_then ?_
                  refine post_ret (rs := [.tmp 2]) rfl (List.Perm.refl _) (.cons (.tmp rfl) .nil) (List.nil_sublist _) ?_
                  exact ⟨by rw [chkG_bad k hlt (by simp [badS, h48])]; rfl, rfl⟩
                · first
                    | (refine op_want rfl rfl ?_
                       first | refine op_v (v_cmpt rfl rfl rfl (by first | omega | (simp; done) | (simp; omega))) rfl ?_ | refine op_v (v_cmpf rfl rfl rfl (by first | omega | (simp; done) | (simp; omega))) rfl ?_ | refine op_v (v_cmp rfl rfl rfl) rfl ?_)
                    | (refine op_skip rfl rfl (by simp [undef]) rfl ?_)
                  first | refine op_v (v_pickt rfl rfl) rfl ?_ | refine op_v (v_pickf rfl rfl) rfl ?_ | refine op_v (v_pickb rfl rfl rfl) rfl ?_
                  refine op_v (v_move rfl) rfl ?_
                  first
                    | (refine op_want rfl rfl ?_
                       first | refine op_v (v_fieldB 1 Try.underlying49 rfl rfl fz3 rfl) rfl ?_ | refine op_v (v_fieldI 1 Try.underlying49 rfl rfl fz3 rfl (by assumption)) rfl ?_ | refine op_v (v_field Try.underlying49 rfl fz3 rfl rfl) rfl ?_)
                    | (refine op_skip rfl rfl (by simp [undef]) rfl ?_)
                  first
                    | (refine op_want rfl rfl ?_
                       refine op_v (v_load ty3 rfl (by repeat (first | exact Has.here | refine Has.there ?_)) rfl) rfl ?_)
                    | (refine op_skip rfl rfl (by simp [undef]) rfl ?_)
                  by_cases h53 : 8 < gs[k].ar
                  · first
                      | (refine op_want rfl rfl ?_
                         first | refine op_v (v_cmpt rfl rfl rfl (by first | omega | (simp; done) | (simp; omega))) rfl ?_ | refine op_v (v_cmpf rfl rfl rfl (by first | omega | (simp; done) | (simp; omega))) rfl ?_ | refine op_v (v_cmp rfl rfl rfl) rfl ?_)
                      | (refine op_skip rfl rfl (by simp [undef]) rfl ?_)
                    first | refine op_v (v_pickt rfl rfl) rfl ?_ | refine op_v (v_pickf rfl rfl) rfl ?_ | refine op_v (v_pickb rfl rfl rfl) rfl ?_
                    refine op_v (v_move rfl) rfl ?_
                    first
                      | (refine op_want rfl rfl ?_
                         first | refine op_v (v_fieldB 2 Try.underlying49 rfl rfl fz3 rfl) rfl ?_ | refine op_v (v_fieldI 2 Try.underlying49 rfl rfl fz3 rfl (by assumption)) rfl ?_ | refine op_v (v_field Try.underlying49 rfl fz3 rfl rfl) rfl ?_)
                      | (refine op_skip rfl rfl (by simp [undef]) rfl ?_)
                    first
                      | (refine op_want rfl rfl ?_
                         refine op_v (v_load ty3 rfl (by repeat (first | exact Has.here | refine Has.there ?_)) rfl) rfl ?_)
                      | (refine op_skip rfl rfl (by simp [undef]) rfl ?_)
                    first
                      | (refine op_want rfl rfl ?_
                         first | refine op_v (v_cmpt rfl rfl rfl (by first | omega | (simp; done) | (simp; omega))) rfl ?_ | refine op_v (v_cmpf rfl rfl rfl (by first | omega | (simp; done) | (simp; omega))) rfl ?_ | refine op_v (v_cmp rfl rfl rfl) rfl ?_)
                      | (refine op_skip rfl rfl (by simp [undef]) rfl ?_)
                    first | refine op_v (v_pickt rfl rfl) rfl ?_ | refine op_v (v_pickf rfl rfl) rfl ?_ | refine op_v (v_pickb rfl rfl rfl) rfl ?_
                    refine op_v (v_move rfl) rfl ?_
                    first
                      | (refine op_want rfl rfl ?_
                         first | refine op_v (v_fieldB 2 Try.underlying49 rfl rfl fz3 rfl) rfl ?_ | refine op_v (v_fieldI 2 Try.underlying49 rfl rfl fz3 rfl (by assumption)) rfl ?_ | refine op_v (v_field Try.underlying49 rfl fz3 rfl rfl) rfl ?_)
                      | (refine op_skip rfl rfl (by simp [undef]) rfl ?_)
                    first
                      | (refine op_want rfl rfl ?_
                         refine op_v (v_load ty3 rfl (by repeat (first | exact Has.here | refine Has.there ?_)) rfl) rfl ?_)
                      | (refine op_skip rfl rfl (by simp [undef]) rfl ?_)
                    first
                      | (refine op_want rfl rfl ?_
                         first | refine op_v (v_cmpt rfl rfl rfl (by first | omega | (simp; done) | (simp; omega))) rfl ?_ | refine op_v (v_cmpf rfl rfl rfl (by first | omega | (simp; done) | (simp; omega))) rfl ?_ | refine op_v (v_cmp rfl rfl rfl) rfl ?_)
                      | (refine op_skip rfl rfl (by simp [undef]) rfl ?_)
                    first | refine op_v (v_pickt rfl rfl) rfl ?_ | refine op_v (v_pickf rfl rfl) rfl ?_ | refine op_v (v_pickb rfl rfl rfl) rfl ?_
                    refine ops_nil ?_
                    refine post_next ?_
                    refine code_cond_t rfl ?_
                    refine code_seq ?_
                    refine code_region ?_
                    refine op_v (v_assign rfl) rfl ?_
                    refine ops_nil ?_
                    refine post_next ?_
                    refine code_ret ?_
                    refine post_ret_block ?_
                    refine post_ret_then ?_
                    refine post_ret_then ?_
                    refine post_ret_block ?_
                    refine post_ret_then ?_
                    refine post_ret (rs := [.tmp 2]) rfl (List.Perm.refl _) (.cons (.tmp rfl) .nil) (List.nil_sublist _) ?_
                    exact ⟨by rw [chkG_bad k hlt (by simp [badS, h53])]; rfl, rfl⟩
                  · first
                      | (refine op_want rfl rfl ?_
                         first | refine op_v (v_cmpt rfl rfl rfl (by first | omega | (simp; done) | (simp; omega))) rfl ?_ | refine op_v (v_cmpf rfl rfl rfl (by first | omega | (simp; done) | (simp; omega))) rfl ?_ | refine op_v (v_cmp rfl rfl rfl) rfl ?_)
                      | (refine op_skip rfl rfl (by simp [undef]) rfl ?_)
                    first | refine op_v (v_pickt rfl rfl) rfl ?_ | refine op_v (v_pickf rfl rfl) rfl ?_ | refine op_v (v_pickb rfl rfl rfl) rfl ?_
                    refine op_v (v_move rfl) rfl ?_
                    first
                      | (refine op_want rfl rfl ?_
                         first | refine op_v (v_fieldB 2 Try.underlying49 rfl rfl fz3 rfl) rfl ?_ | refine op_v (v_fieldI 2 Try.underlying49 rfl rfl fz3 rfl (by assumption)) rfl ?_ | refine op_v (v_field Try.underlying49 rfl fz3 rfl rfl) rfl ?_)
                      | (refine op_skip rfl rfl (by simp [undef]) rfl ?_)
                    first
                      | (refine op_want rfl rfl ?_
                         refine op_v (v_load ty3 rfl (by repeat (first | exact Has.here | refine Has.there ?_)) rfl) rfl ?_)
                      | (refine op_skip rfl rfl (by simp [undef]) rfl ?_)
                    by_cases h58 : gs[k].wt < 1
                    · first
                        | (refine op_want rfl rfl ?_
                           first | refine op_v (v_cmpt rfl rfl rfl (by first | omega | (simp; done) | (simp; omega))) rfl ?_ | refine op_v (v_cmpf rfl rfl rfl (by first | omega | (simp; done) | (simp; omega))) rfl ?_ | refine op_v (v_cmp rfl rfl rfl) rfl ?_)
                        | (refine op_skip rfl rfl (by simp [undef]) rfl ?_)
                      first | refine op_v (v_pickt rfl rfl) rfl ?_ | refine op_v (v_pickf rfl rfl) rfl ?_ | refine op_v (v_pickb rfl rfl rfl) rfl ?_
                      refine op_v (v_move rfl) rfl ?_
                      first
                        | (refine op_want rfl rfl ?_
                           first | refine op_v (v_fieldB 2 Try.underlying49 rfl rfl fz3 rfl) rfl ?_ | refine op_v (v_fieldI 2 Try.underlying49 rfl rfl fz3 rfl (by assumption)) rfl ?_ | refine op_v (v_field Try.underlying49 rfl fz3 rfl rfl) rfl ?_)
                        | (refine op_skip rfl rfl (by simp [undef]) rfl ?_)
                      first
                        | (refine op_want rfl rfl ?_
                           refine op_v (v_load ty3 rfl (by repeat (first | exact Has.here | refine Has.there ?_)) rfl) rfl ?_)
                        | (refine op_skip rfl rfl (by simp [undef]) rfl ?_)
                      first
                        | (refine op_want rfl rfl ?_
                           first | refine op_v (v_cmpt rfl rfl rfl (by first | omega | (simp; done) | (simp; omega))) rfl ?_ | refine op_v (v_cmpf rfl rfl rfl (by first | omega | (simp; done) | (simp; omega))) rfl ?_ | refine op_v (v_cmp rfl rfl rfl) rfl ?_)
                        | (refine op_skip rfl rfl (by simp [undef]) rfl ?_)
                      first | refine op_v (v_pickt rfl rfl) rfl ?_ | refine op_v (v_pickf rfl rfl) rfl ?_ | refine op_v (v_pickb rfl rfl rfl) rfl ?_
                      refine ops_nil ?_
                      refine post_next ?_
                      refine code_cond_t rfl ?_
                      refine code_seq ?_
                      refine code_region ?_
                      refine op_v (v_assign rfl) rfl ?_
                      refine ops_nil ?_
                      refine post_next ?_
                      refine code_ret ?_
                      refine post_ret_block ?_
                      refine post_ret_then ?_
                      refine post_ret_then ?_
                      refine post_ret_block ?_
                      refine post_ret_then ?_
                      refine post_ret (rs := [.tmp 2]) rfl (List.Perm.refl _) (.cons (.tmp rfl) .nil) (List.nil_sublist _) ?_
                      exact ⟨by rw [chkG_bad k hlt (by simp [badS, h58])]; rfl, rfl⟩
                    · first
                        | (refine op_want rfl rfl ?_
                           first | refine op_v (v_cmpt rfl rfl rfl (by first | omega | (simp; done) | (simp; omega))) rfl ?_ | refine op_v (v_cmpf rfl rfl rfl (by first | omega | (simp; done) | (simp; omega))) rfl ?_ | refine op_v (v_cmp rfl rfl rfl) rfl ?_)
                        | (refine op_skip rfl rfl (by simp [undef]) rfl ?_)
                      first | refine op_v (v_pickt rfl rfl) rfl ?_ | refine op_v (v_pickf rfl rfl) rfl ?_ | refine op_v (v_pickb rfl rfl rfl) rfl ?_
                      refine op_v (v_move rfl) rfl ?_
                      first
                        | (refine op_want rfl rfl ?_
                           first | refine op_v (v_fieldB 2 Try.underlying49 rfl rfl fz3 rfl) rfl ?_ | refine op_v (v_fieldI 2 Try.underlying49 rfl rfl fz3 rfl (by assumption)) rfl ?_ | refine op_v (v_field Try.underlying49 rfl fz3 rfl rfl) rfl ?_)
                        | (refine op_skip rfl rfl (by simp [undef]) rfl ?_)
                      first
                        | (refine op_want rfl rfl ?_
                           refine op_v (v_load ty3 rfl (by repeat (first | exact Has.here | refine Has.there ?_)) rfl) rfl ?_)
                        | (refine op_skip rfl rfl (by simp [undef]) rfl ?_)
                      by_cases h63 : 1000 < gs[k].wt
                      · first
                          | (refine op_want rfl rfl ?_
                             first | refine op_v (v_cmpt rfl rfl rfl (by first | omega | (simp; done) | (simp; omega))) rfl ?_ | refine op_v (v_cmpf rfl rfl rfl (by first | omega | (simp; done) | (simp; omega))) rfl ?_ | refine op_v (v_cmp rfl rfl rfl) rfl ?_)
                          | (refine op_skip rfl rfl (by simp [undef]) rfl ?_)
                        first | refine op_v (v_pickt rfl rfl) rfl ?_ | refine op_v (v_pickf rfl rfl) rfl ?_ | refine op_v (v_pickb rfl rfl rfl) rfl ?_
                        refine ops_nil ?_
                        refine post_next ?_
                        refine code_cond_t rfl ?_
                        refine code_seq ?_
                        refine code_region ?_
                        refine op_v (v_assign rfl) rfl ?_
                        refine ops_nil ?_
                        refine post_next ?_
                        refine code_ret ?_
                        refine post_ret_block ?_
                        refine post_ret_then ?_
                        refine post_ret_then ?_
                        refine post_ret_block ?_
                        refine post_ret_then ?_
                        refine post_ret (rs := [.tmp 2]) rfl (List.Perm.refl _) (.cons (.tmp rfl) .nil) (List.nil_sublist _) ?_
                        exact ⟨by rw [chkG_bad k hlt (by simp [badS, h63])]; rfl, rfl⟩
                      · first
                          | (refine op_want rfl rfl ?_
                             first | refine op_v (v_cmpt rfl rfl rfl (by first | omega | (simp; done) | (simp; omega))) rfl ?_ | refine op_v (v_cmpf rfl rfl rfl (by first | omega | (simp; done) | (simp; omega))) rfl ?_ | refine op_v (v_cmp rfl rfl rfl) rfl ?_)
                          | (refine op_skip rfl rfl (by simp [undef]) rfl ?_)
                        first | refine op_v (v_pickt rfl rfl) rfl ?_ | refine op_v (v_pickf rfl rfl) rfl ?_ | refine op_v (v_pickb rfl rfl rfl) rfl ?_
                        refine ops_nil ?_
                        refine post_next ?_
                        refine code_cond_f rfl ?_
                        refine code_skip ?_
                        refine post_out ?_
                        refine post_next ?_
                        refine code_region ?_
                        first | refine op_v (v_addb rfl rfl rfl (by omega)) rfl ?_ | refine op_v (v_add rfl rfl) rfl ?_
                        refine op_v (v_move rfl) rfl ?_
                        refine ops_nil ?_
                        refine PostJ.view View.nil ?_
                        refine post_again (gs.length - (k + 1)) [(0, .slice ad gs.length c), (21, .slice ad gs.length c), (22, .int .i64 gs.length), (23, .int .i64 (k + 1 : Nat))] (by omega) ⟨k + 1, rfl, hlt, rfl, (by repeat (first | exact Imm.le_refl _ | assumption | refine Imm.le_trans ?_ (by assumption))), rfl, ?_⟩ ⟨rfl, rfl, rfl, rfl, trivial⟩
                        intro i h hi
                        rcases Nat.lt_or_ge i k with hik | hik
                        · exact hp i h hik
                        have hik2 : i = k := by omega
                        subst hik2
                        have h35' : nmEq gs[i].name ⟨#[]⟩ = false := by simpa using h35
                        unfold badS
                        rw [h35', h43']
                        simp
                        omega
        · have hge : k = gs.length := by simp at hc1; omega
          refine code_exit ?_
          refine post_exit_then ?_
          refine post_exit_then ?_
          refine post_exit ?_
          refine post_next ?_
          refine code_seq ?_
          refine code_region ?_
          refine op_v (v_assign rfl) rfl ?_
          refine ops_nil ?_
          refine post_next ?_
          refine code_ret ?_
          refine post_ret (rs := [.tmp 2]) rfl (List.Perm.refl _) (.cons (.tmp rfl) .nil) (List.nil_sublist _) ?_
          exact ⟨by rw [chkG_ok h0 (by omega) h19 (fun i h => hp i h (by omega))]; rfl, rfl⟩
      · first
          | (refine op_want rfl rfl ?_
             refine op_v (v_eqSy (a := gs[0]'h0) (b := truthS) (z := true) syTy rfl rfl (by simp [cmpG, h19])) rfl ?_)
          | (refine op_skip rfl rfl (by simp [undef]) rfl ?_)
        first | refine op_v (v_pickt rfl rfl) rfl ?_ | refine op_v (v_pickf rfl rfl) rfl ?_ | refine op_v (v_pickb rfl rfl rfl) rfl ?_
        refine ops_nil ?_
        refine post_next ?_
        refine code_cond_t rfl ?_
        refine code_seq ?_
        refine code_region ?_
        refine op_v (v_assign rfl) rfl ?_
        refine ops_nil ?_
        refine post_next ?_
        refine code_ret ?_
        refine post_ret_then ?_
        refine post_ret (rs := [.tmp 2]) rfl (List.Perm.refl _) (.cons (.tmp rfl) .nil) (List.nil_sublist _) ?_
        exact ⟨by rw [chkG_head h0 h19]; rfl, rfl⟩
end Go.Proofs.Ytdcklngleglbbaa
