/- Walks: a symbol among others, a signature's rightness. -/
import Derived.Test.YtdcklngleglbbaaSy
import Derived.Test.YtdcklngleglbbaaIz
set_option linter.unusedVariables false
set_option linter.unusedSimpArgs false
namespace Go.Proofs.Ytdcklngleglbbaa
open Go Lg

/-- the place of the first one of which something is so -/
def idxP (p : Sy → Bool) : List Sy → Int
  | [] => -1
  | s :: r => if p s then 0 else if idxP p r < 0 then -1 else idxP p r + 1
theorem idxP_range (p : Sy → Bool) : ∀ gs : List Sy, -1 ≤ idxP p gs ∧ idxP p gs < gs.length
  | [] => by simp [idxP]
  | s :: r => by have := idxP_range p r; simp only [idxP, List.length_cons]; split <;> (try split) <;> omega
theorem idxP_none (p : Sy → Bool) : ∀ gs : List Sy, gs.any p = false → idxP p gs = -1
  | [], _ => rfl
  | s :: r, h => by simp only [List.any_cons, Bool.or_eq_false_iff] at h; simp [idxP, h.1, idxP_none p r h.2]
theorem idxP_hit (p : Sy → Bool) : ∀ (gs : List Sy) (k : Nat) (h : k < gs.length), (gs.take k).any p = false → p gs[k] = true → idxP p gs = k
  | s :: r, 0, _, _, hk => by simp at hk; simp [idxP, hk]
  | s :: r, k + 1, h, hp, hk => by
    simp only [List.take_succ_cons, List.any_cons, Bool.or_eq_false_iff] at hp
    have := idxP_hit p r k (by simpa using h) hp.2 (by simpa using hk)
    simp only [idxP, hp.1, Bool.false_eq_true, if_false, this]
    rw [if_neg (by omega)]; omega
theorem idxP_any (p : Sy → Bool) : ∀ gs : List Sy, 0 ≤ idxP p gs ↔ gs.any p = true
  | [] => by simp [idxP]
  | s :: r => by
    have h1 := idxP_any p r
    have h2 := idxP_range p r
    simp only [idxP, List.any_cons, Bool.or_eq_true, ← h1]
    by_cases h : p s = true
    · simp [h]
    · simp only [h, Bool.false_eq_true, if_false, false_or]; split <;> omega
theorem any_take_succ {p : Sy → Bool} {gs : List Sy} {k : Nat} (h : k < gs.length) (hp : (gs.take k).any p = false) (hk : p gs[k] = false) : (gs.take (k + 1)).any p = false := by
  rw [List.take_succ_eq_append_getElem h, List.any_append, hp]; simp [hk]

theorem IndexFunc_does {I : Imm} {v fv : Value} {gs : List Sy} {δf : List Ent} {p : Sy → Bool} (hv : RepG I v gs) (hf : ∀ J s, I.le J → FDoes Try.prog fv [s.v] J δf (fun v _ δ' => v = .bool (p s) ∧ δ' = δf)) :
    Does Try.prog 64 [v, fv] I δf (fun v _ δ' => v = .int .i64 (idxP p gs) ∧ δ' = δf) := by
  obtain ⟨ad, c, rfl⟩ := hv.shape
  obtain ⟨_, hc, hb, hat, hok⟩ := hv.open
  refine Does.intro Try.func64 rfl Try.ntmps64 rfl fun w0 => ?_
  refine code_seq ?_
  refine code_region ?_
  refine op_v (v_assign rfl) rfl ?_
  refine ops_nil ?_
  refine post_next ?_
  refine code_seq ?_
  refine code_seq ?_
  refine code_region ?_
  refine op_v (v_move rfl) rfl ?_
  refine op_v (v_len Try.underlying43 rfl) rfl ?_
  refine op_v (v_move rfl) rfl ?_
  refine ops_nil ?_
  refine post_next ?_
  refine code_block ?_
  refine code_loop (fun m σ' I' δ' => ∃ k : Nat, m = gs.length - k ∧ k ≤ gs.length ∧ σ' = [(0, .slice ad gs.length c), (1, fv), (7, .int .i64 gs.length), (8, .int .i64 k)] ∧ I.le I' ∧ δ' = δf ∧ (gs.take k).any p = false) gs.length [(0, .slice ad gs.length c), (1, fv), (7, .int .i64 gs.length), (8, .int .i64 (0 : Nat))] ⟨0, rfl, Nat.zero_le _, rfl, Imm.le_refl _, rfl, rfl⟩ ⟨rfl, rfl, rfl, rfl, trivial⟩ ?_
  rintro m _ I0 _ ⟨k, rfl, hk, rfl, hI0, rfl, hp⟩
  refine code_seq ?_
  refine code_region ?_
  first | refine op_v (v_cmpt rfl rfl rfl (by first | omega | (simp; done) | (simp; omega))) rfl ?_ | refine op_v (v_cmpf rfl rfl rfl (by first | omega | (simp; done) | (simp; omega))) rfl ?_ | refine op_v (v_cmp rfl rfl rfl) rfl ?_
  refine ops_nil ?_
  refine post_next ?_
  refine code_seq ?_
  refine code_cond rfl (fun hc0 => ?_) (fun hc0 => ?_)
  · have hlt : k < gs.length := by simpa using hc0
    have hs1 := (hat k hlt).isSome
    refine code_skip ?_
    refine post_next ?_
    refine code_seq ?_
    refine code_block ?_
    refine code_seq ?_
    refine code_region ?_
    refine op_v (v_move rfl) rfl ?_
    refine op_v (v_assign rfl) rfl ?_
    refine ops_nil ?_
    refine post_next ?_
    refine code_seq ?_
    refine code_region ?_
    refine op_v (v_move rfl) rfl ?_
    refine op_v (v_move rfl) rfl ?_
    refine op_v (v_move rfl) rfl ?_
    first | refine op_v (v_index Try.underlying43 sz49 rfl rfl (by omega) (by assumption)) rfl ?_ | refine op_v (v_indexI Try.underlying43 sz49 rfl rfl (by first | omega | (simp; done) | (simp; omega)) (by first | omega | (simp; done) | (simp; omega)) (by assumption)) rfl ?_
    first | refine op_v (v_loadI0 ty49 ((hat k hlt).mono hI0) rfl rfl rfl) rfl ?_ | refine op_v (v_loadI ty49 ((hat k hlt).mono hI0) rfl rfl rfl) rfl ?_
    refine op_fcall rfl rfl rfl ((hf _ gs[k] hI0)) Parts.all ?_
    rintro v16 I16 _ hI16 ⟨rfl, rfl⟩
    rw [List.append_nil]
    refine ops_nil ?_
    refine post_next ?_
    refine code_cond rfl (fun hc1 => ?_) (fun hc1 => ?_)
    · refine code_seq ?_
      refine code_region ?_
      refine op_v (v_move rfl) rfl ?_
      refine op_v (v_assign rfl) rfl ?_
      refine ops_nil ?_
      refine post_next ?_
      refine code_ret ?_
      refine post_ret_block ?_
      refine post_ret_then ?_
      refine post_ret_then ?_
      refine post_ret_block ?_
      refine post_ret_then ?_
      refine post_ret (rs := [.tmp 4]) rfl (List.Perm.refl _) (.cons (.tmp rfl) .nil) (List.Sublist.refl _) ?_
      exact ⟨by rw [idxP_hit p gs k hlt hp hc1]; rfl, rfl⟩
    · refine code_skip ?_
      refine post_out ?_
      refine post_next ?_
      refine code_region ?_
      first | refine op_v (v_addb rfl rfl rfl (by omega)) rfl ?_ | refine op_v (v_add rfl rfl) rfl ?_
      refine op_v (v_move rfl) rfl ?_
      refine ops_nil ?_
      refine post_again (gs.length - (k + 1)) [(0, .slice ad gs.length c), (1, fv), (7, .int .i64 gs.length), (8, .int .i64 (k + 1 : Nat))] (by omega) ⟨k + 1, rfl, hlt, rfl, Imm.le_trans hI0 hI16, rfl, any_take_succ hlt hp hc1⟩ ⟨rfl, rfl, rfl, rfl, trivial⟩
  · have hge : k = gs.length := by simp at hc0; omega
    subst hge
    rw [List.take_length] at hp
    refine code_exit ?_
    refine post_exit_then ?_
    refine post_exit_then ?_
    refine post_exit ?_
    refine post_next ?_
    refine code_seq ?_
    refine code_region ?_
    refine op_v (v_assign rfl) rfl ?_
    refine ops_nil ?_
    refine post_next ?_
    refine code_ret ?_
    refine post_ret (rs := [.tmp 4]) rfl (List.Perm.refl _) (.cons (.tmp rfl) .nil) (List.Sublist.refl _) ?_
    exact ⟨by rw [idxP_none p gs hp]; rfl, rfl⟩
theorem ContainsFunc_does {I : Imm} {v fv : Value} {gs : List Sy} {δf : List Ent} {p : Sy → Bool} (hv : RepG I v gs) (hf : ∀ J s, I.le J → FDoes Try.prog fv [s.v] J δf (fun v _ δ' => v = .bool (p s) ∧ δ' = δf)) :
    Does Try.prog 60 [v, fv] I δf (fun v _ δ' => v = .bool (gs.any p) ∧ δ' = δf) := by
  refine Does.intro Try.func60 rfl Try.ntmps60 rfl fun w0 => ?_
  refine code_seq ?_
  refine code_region ?_
  refine op_v (v_assign rfl) rfl ?_
  refine ops_nil ?_
  refine post_next ?_
  refine code_seq ?_
  refine code_region ?_
  refine op_v (v_move rfl) rfl ?_
  refine op_v (v_move rfl) rfl ?_
  refine op_call pl64 rfl rfl ((IndexFunc_does hv hf)) Parts.all ?_
  rintro v7 I7 _ hI7 ⟨rfl, rfl⟩
  rw [List.append_nil]
  first | refine op_v (v_cmpt rfl rfl rfl (by first | omega | (simp; done) | (simp; omega))) rfl ?_ | refine op_v (v_cmpf rfl rfl rfl (by first | omega | (simp; done) | (simp; omega))) rfl ?_ | refine op_v (v_cmp rfl rfl rfl) rfl ?_
  refine op_v (v_assign rfl) rfl ?_
  refine ops_nil ?_
  refine post_next ?_
  refine code_ret ?_
  refine post_ret (rs := [.tmp 4]) rfl (List.Perm.refl _) (.cons (.tmp rfl) .nil) (List.Sublist.refl _) ?_
  exact ⟨bool_b (by have := idxP_any p gs; cases h : gs.any p <;> simp_all), rfl⟩
theorem Check1_does {I : Imm} {b : Nat} {x s : Sy} :
    Does Try.prog 61 [s.v, .pointer (some ⟨b, 0, none⟩)] I [.box b 49 x.cs] (fun v _ δ' => v = .bool (nmEq s.name x.name) ∧ δ' = [.box b 49 x.cs]) := by
  refine Does.intro Try.func61 rfl Try.ntmps61 rfl fun w0 => ?_
  refine code_seq ?_
  refine code_region ?_
  refine o_box rfl rfl rfl (fun b2 => ?_)
  refine op_v (v_assign rfl) rfl ?_
  refine ops_nil ?_
  refine post_next ?_
  refine code_seq ?_
  refine code_region ?_
  first | refine op_v (v_fieldB 0 Try.underlying49 rfl rfl fz9 rfl) rfl ?_ | refine op_v (v_fieldI 0 Try.underlying49 rfl rfl fz9 rfl (by assumption)) rfl ?_ | refine op_v (v_field Try.underlying49 rfl fz9 rfl rfl) rfl ?_
  refine op_v (v_load ty9 rfl (by first | exact Has.here | exact Has.there Has.here | exact Has.there (Has.there Has.here) | exact Has.there (Has.there (Has.there Has.here)) | exact Has.there (Has.there (Has.there (Has.there Has.here))) | exact Has.there (Has.there (Has.there (Has.there (Has.there Has.here)))) | exact Has.there (Has.there (Has.there (Has.there (Has.there (Has.there Has.here)))))) rfl) rfl ?_
  first | refine op_v (v_fieldB 0 Try.underlying49 rfl rfl fz9 rfl) rfl ?_ | refine op_v (v_fieldI 0 Try.underlying49 rfl rfl fz9 rfl (by assumption)) rfl ?_ | refine op_v (v_field Try.underlying49 rfl fz9 rfl rfl) rfl ?_
  refine op_v (v_load ty9 rfl (by first | exact Has.here | exact Has.there Has.here | exact Has.there (Has.there Has.here) | exact Has.there (Has.there (Has.there Has.here)) | exact Has.there (Has.there (Has.there (Has.there Has.here))) | exact Has.there (Has.there (Has.there (Has.there (Has.there Has.here)))) | exact Has.there (Has.there (Has.there (Has.there (Has.there (Has.there Has.here)))))) rfl) rfl ?_
  refine op_v (v_eqs rfl rfl rfl) rfl ?_
  refine op_v (v_assign rfl) rfl ?_
  refine ops_nil ?_
  refine post_next ?_
  refine code_ret ?_
  refine post_ret (rs := [.tmp 3]) rfl (List.Perm.refl _) (.cons (.tmp rfl) .nil) (List.sublist_cons_self _ _) ?_
  exact ⟨rfl, rfl⟩
theorem Find1_does {I : Imm} {b : Nat} {nm : ByteArray} {s : Sy} :
    Does Try.prog 65 [s.v, .pointer (some ⟨b, 0, none⟩)] I [.box b 9 [.string nm]] (fun v _ δ' => v = .bool (nmEq s.name nm) ∧ δ' = [.box b 9 [.string nm]]) := by
  refine Does.intro Try.func65 rfl Try.ntmps65 rfl fun w0 => ?_
  refine code_seq ?_
  refine code_region ?_
  refine o_box rfl rfl rfl (fun b2 => ?_)
  refine op_v (v_assign rfl) rfl ?_
  refine ops_nil ?_
  refine post_next ?_
  refine code_seq ?_
  refine code_region ?_
  first | refine op_v (v_fieldB 0 Try.underlying49 rfl rfl fz9 rfl) rfl ?_ | refine op_v (v_fieldI 0 Try.underlying49 rfl rfl fz9 rfl (by assumption)) rfl ?_ | refine op_v (v_field Try.underlying49 rfl fz9 rfl rfl) rfl ?_
  refine op_v (v_load ty9 rfl (by first | exact Has.here | exact Has.there Has.here | exact Has.there (Has.there Has.here) | exact Has.there (Has.there (Has.there Has.here)) | exact Has.there (Has.there (Has.there (Has.there Has.here))) | exact Has.there (Has.there (Has.there (Has.there (Has.there Has.here)))) | exact Has.there (Has.there (Has.there (Has.there (Has.there (Has.there Has.here)))))) rfl) rfl ?_
  refine op_v (v_load ty9 rfl (by first | exact Has.here | exact Has.there Has.here | exact Has.there (Has.there Has.here) | exact Has.there (Has.there (Has.there Has.here)) | exact Has.there (Has.there (Has.there (Has.there Has.here))) | exact Has.there (Has.there (Has.there (Has.there (Has.there Has.here)))) | exact Has.there (Has.there (Has.there (Has.there (Has.there (Has.there Has.here)))))) rfl) rfl ?_
  refine op_v (v_eqs rfl rfl rfl) rfl ?_
  refine op_v (v_assign rfl) rfl ?_
  refine ops_nil ?_
  refine post_next ?_
  refine code_ret ?_
  refine post_ret (rs := [.tmp 3]) rfl (List.Perm.refl _) (.cons (.tmp rfl) .nil) (List.sublist_cons_self _ _) ?_
  exact ⟨rfl, rfl⟩
def findN (gs : List Sy) (nm : ByteArray) : Int := idxP (fun s => nmEq s.name nm) gs
theorem Find_does {I : Imm} {v : Value} {gs : List Sy} {nm : ByteArray} (hv : RepG I v gs) :
    Does Try.prog 37 [v, .string nm] I [] (fun v _ δ' => v = .tuple #[.int .i64 (max (findN gs nm) 0), .bool (decide (0 ≤ findN gs nm))] ∧ δ' = []) := by
  refine Does.intro Try.func37 rfl Try.ntmps37 rfl fun w0 => ?_
  refine code_seq ?_
  refine code_region ?_
  refine o_box rfl rfl rfl (fun b3 => ?_)
  refine op_v (v_assign rfl) rfl ?_
  refine op_v (v_assign rfl) rfl ?_
  refine ops_nil ?_
  refine post_next ?_
  refine code_seq ?_
  refine code_region ?_
  refine op_v (v_move rfl) rfl ?_
  refine op_v (v_makeFunc rfl rfl) rfl ?_
  refine op_call pl64 rfl rfl ((IndexFunc_does hv (fun J s _ => FDoes.ofFunc (caps := [_]) pl65 Find1_does))) Parts.all ?_
  rintro v9 I9 _ hI9 ⟨rfl, rfl⟩
  refine op_v (v_assign rfl) rfl ?_
  refine ops_nil ?_
  refine post_next ?_
  refine code_seq ?_
  refine code_region ?_
  refine op_v (v_move rfl) rfl ?_
  refine op_v (v_max rfl rfl) rfl ?_
  refine op_v (v_move rfl) rfl ?_
  first | refine op_v (v_cmpt rfl rfl rfl (by first | omega | (simp; done) | (simp; omega))) rfl ?_ | refine op_v (v_cmpf rfl rfl rfl (by first | omega | (simp; done) | (simp; omega))) rfl ?_ | refine op_v (v_cmp rfl rfl rfl) rfl ?_
  refine op_v (v_assign rfl) rfl ?_
  refine op_v (v_assign rfl) rfl ?_
  refine ops_nil ?_
  refine post_next ?_
  refine code_ret ?_
  refine post_ret (rs := [.tmp 4, .tmp 5]) rfl (List.Perm.refl _) (.cons (.tmp rfl) (.cons (.tmp rfl) .nil)) (List.nil_sublist _) ?_
  exact ⟨rfl, rfl⟩
def fewG (gs : List Sy) : Bool := decide (gs.length ≤ 300) && gs.all fun s => decide (s.name.size ≤ 100)
theorem FewG_does {I : Imm} {v : Value} {gs : List Sy} (hv : RepG I v gs) :
    Does Try.prog 34 [v] I [] (fun v _ δ' => v = .bool (fewG gs) ∧ δ' = []) := by
  obtain ⟨ad, c, rfl⟩ := hv.shape
  obtain ⟨_, hc, hb, hat, hok⟩ := hv.open
  refine Does.intro Try.func34 rfl Try.ntmps34 rfl fun w0 => ?_
  refine code_seq ?_
  refine code_region ?_
  refine op_v (v_assign rfl) rfl ?_
  refine ops_nil ?_
  refine post_next ?_
  refine code_seq ?_
  refine code_seq ?_
  refine code_region ?_
  refine op_v (v_assign rfl) rfl ?_
  refine ops_nil ?_
  refine post_next ?_
  refine code_block ?_
  refine code_loop (fun m σ' I' δ' => ∃ k : Nat, m = gs.length - k ∧ k ≤ gs.length ∧ σ' = [(0, .slice ad gs.length c), (3, .int .i64 k)] ∧ I' = I ∧ δ' = [] ∧ (gs.take k).all (fun s => decide (s.name.size ≤ 100)) = true) gs.length [(0, .slice ad gs.length c), (3, .int .i64 (0 : Nat))] ⟨0, rfl, Nat.zero_le _, rfl, rfl, rfl, rfl⟩ ⟨rfl, rfl, trivial⟩ ?_
  rintro m _ _ _ ⟨k, rfl, hk, rfl, rfl, rfl, hp⟩
  refine code_seq ?_
  refine code_seq ?_
  refine code_region ?_
  refine op_v (v_move rfl) rfl ?_
  refine op_v (v_move rfl) rfl ?_
  refine op_v (v_len Try.underlying43 rfl) rfl ?_
  by_cases h7 : k < gs.length
  · have hs1 := (hat k h7).isSome
    first | refine op_v (v_cmpt rfl rfl rfl (by first | omega | (simp; done) | (simp; omega))) rfl ?_ | refine op_v (v_cmpf rfl rfl rfl (by first | omega | (simp; done) | (simp; omega))) rfl ?_ | refine op_v (v_cmp rfl rfl rfl) rfl ?_
    refine op_v (v_move rfl) rfl ?_
    first
      | (refine op_want rfl rfl ?_
         refine op_v (v_move rfl) rfl ?_)
      | (refine op_skip rfl rfl (by simp [undef]) rfl ?_)
    first
      | (refine op_want rfl rfl ?_
         refine op_v (v_len Try.underlying43 rfl) rfl ?_)
      | (refine op_skip rfl rfl (by simp [undef]) rfl ?_)
    by_cases h11 : gs.length ≤ 300
    · first
        | (refine op_want rfl rfl ?_
           first | refine op_v (v_cmpt rfl rfl rfl (by first | omega | (simp; done) | (simp; omega))) rfl ?_ | refine op_v (v_cmpf rfl rfl rfl (by first | omega | (simp; done) | (simp; omega))) rfl ?_ | refine op_v (v_cmp rfl rfl rfl) rfl ?_)
        | (refine op_skip rfl rfl (by simp [undef]) rfl ?_)
      first | refine op_v (v_pickt rfl rfl) rfl ?_ | refine op_v (v_pickf rfl rfl) rfl ?_ | refine op_v (v_pickb rfl rfl rfl) rfl ?_
      refine ops_nil ?_
      refine post_next ?_
      refine code_cond_t rfl ?_
      refine code_skip ?_
      refine post_next ?_
      refine code_seq ?_
      refine code_block ?_
      refine code_seq ?_
      refine code_region ?_
      refine op_v (v_move rfl) rfl ?_
      refine op_v (v_move rfl) rfl ?_
      first | refine op_v (v_index Try.underlying43 sz49 rfl rfl (by omega) (by assumption)) rfl ?_ | refine op_v (v_indexI Try.underlying43 sz49 rfl rfl (by first | omega | (simp; done) | (simp; omega)) (by first | omega | (simp; done) | (simp; omega)) (by assumption)) rfl ?_
      first | refine op_v (v_fieldB 0 Try.underlying49 rfl rfl fz9 rfl) rfl ?_ | refine op_v (v_fieldI 0 Try.underlying49 rfl rfl fz9 rfl (by assumption)) rfl ?_ | refine op_v (v_field Try.underlying49 rfl fz9 rfl rfl) rfl ?_
      first | refine op_v (v_loadI0 ty9 (hat k h7) rfl rfl rfl) rfl ?_ | refine op_v (v_loadI ty9 (hat k h7) rfl rfl rfl) rfl ?_
      refine op_v (v_lens Try.underlying9 rfl) rfl ?_
      first | refine op_v (v_cmpt rfl rfl rfl (by first | omega | (simp; done) | (simp; omega))) rfl ?_ | refine op_v (v_cmpf rfl rfl rfl (by first | omega | (simp; done) | (simp; omega))) rfl ?_ | refine op_v (v_cmp rfl rfl rfl) rfl ?_
      refine ops_nil ?_
      refine post_next ?_
      refine code_cond rfl (fun hc1 => ?_) (fun hc1 => ?_)
      · have h21 : 100 < gs[k].name.size := by have h := hc1; simp at h; omega
        refine code_seq ?_
        refine code_region ?_
        refine op_v (v_assign rfl) rfl ?_
        refine ops_nil ?_
        refine post_next ?_
        refine code_ret ?_
        refine post_ret_block ?_
        refine post_ret_then ?_
        refine post_ret_then ?_
        refine post_ret_block ?_
        refine post_ret_then ?_
        refine post_ret (rs := [.tmp 2]) rfl (List.Perm.refl _) (.cons (.tmp rfl) .nil) (List.nil_sublist _) ?_
        exact ⟨bool_b (by symm; rw [fewG, Bool.and_eq_false_iff]; right; rw [List.all_eq_false]; exact ⟨gs[k], List.getElem_mem _, by simp; omega⟩), rfl⟩
      · have h21 : ¬ 100 < gs[k].name.size := by have h := hc1; simp at h; omega
        refine code_skip ?_
        refine post_out ?_
        refine post_next ?_
        refine code_region ?_
        refine op_v (v_move rfl) rfl ?_
        first | refine op_v (v_addb rfl rfl rfl (by omega)) rfl ?_ | refine op_v (v_add rfl rfl) rfl ?_
        refine op_v (v_assign rfl) rfl ?_
        refine ops_nil ?_
        refine post_again (gs.length - (k + 1)) [(0, .slice ad gs.length c), (3, .int .i64 (k + 1 : Nat))] (by omega) ⟨k + 1, rfl, h7, rfl, rfl, rfl, ?_⟩ ⟨rfl, rfl, trivial⟩
        rw [List.take_succ_eq_append_getElem h7, List.all_append, hp]; simp; omega
    · first
        | (refine op_want rfl rfl ?_
           first | refine op_v (v_cmpt rfl rfl rfl (by first | omega | (simp; done) | (simp; omega))) rfl ?_ | refine op_v (v_cmpf rfl rfl rfl (by first | omega | (simp; done) | (simp; omega))) rfl ?_ | refine op_v (v_cmp rfl rfl rfl) rfl ?_)
        | (refine op_skip rfl rfl (by simp [undef]) rfl ?_)
      first | refine op_v (v_pickt rfl rfl) rfl ?_ | refine op_v (v_pickf rfl rfl) rfl ?_ | refine op_v (v_pickb rfl rfl rfl) rfl ?_
      refine ops_nil ?_
      refine post_next ?_
      refine code_cond_f rfl ?_
      refine code_exit ?_
      refine post_exit_then ?_
      refine post_exit_then ?_
      refine post_exit ?_
      refine post_next ?_
      refine code_seq ?_
      refine code_region ?_
      refine op_v (v_move rfl) rfl ?_
      refine op_v (v_len Try.underlying43 rfl) rfl ?_
      first | refine op_v (v_cmpt rfl rfl rfl (by first | omega | (simp; done) | (simp; omega))) rfl ?_ | refine op_v (v_cmpf rfl rfl rfl (by first | omega | (simp; done) | (simp; omega))) rfl ?_ | refine op_v (v_cmp rfl rfl rfl) rfl ?_
      refine op_v (v_assign rfl) rfl ?_
      refine ops_nil ?_
      refine post_next ?_
      refine code_ret ?_
      refine post_ret (rs := [.tmp 2]) rfl (List.Perm.refl _) (.cons (.tmp rfl) .nil) (List.nil_sublist _) ?_
      exact ⟨bool_b (by simp [fewG, h11]), rfl⟩
  · first | refine op_v (v_cmpt rfl rfl rfl (by first | omega | (simp; done) | (simp; omega))) rfl ?_ | refine op_v (v_cmpf rfl rfl rfl (by first | omega | (simp; done) | (simp; omega))) rfl ?_ | refine op_v (v_cmp rfl rfl rfl) rfl ?_
    refine op_v (v_move rfl) rfl ?_
    first
      | (refine op_want rfl rfl ?_
         refine op_v (v_move rfl) rfl ?_)
      | (refine op_skip rfl rfl (by simp [undef]) rfl ?_)
    first
      | (refine op_want rfl rfl ?_
         refine op_v (v_len Try.underlying43 rfl) rfl ?_)
      | (refine op_skip rfl rfl (by simp [undef]) rfl ?_)
    first
      | (refine op_want rfl rfl ?_
         first | refine op_v (v_cmpt rfl rfl rfl (by first | omega | (simp; done) | (simp; omega))) rfl ?_ | refine op_v (v_cmpf rfl rfl rfl (by first | omega | (simp; done) | (simp; omega))) rfl ?_ | refine op_v (v_cmp rfl rfl rfl) rfl ?_)
      | (refine op_skip rfl rfl (by simp [undef]) rfl ?_)
    first | refine op_v (v_pickt rfl rfl) rfl ?_ | refine op_v (v_pickf rfl rfl) rfl ?_ | refine op_v (v_pickb rfl rfl rfl) rfl ?_
    refine ops_nil ?_
    refine post_next ?_
    refine code_cond_f rfl ?_
    refine code_exit ?_
    refine post_exit_then ?_
    refine post_exit_then ?_
    refine post_exit ?_
    refine post_next ?_
    refine code_seq ?_
    refine code_region ?_
    refine op_v (v_move rfl) rfl ?_
    refine op_v (v_len Try.underlying43 rfl) rfl ?_
    by_cases h24 : gs.length ≤ 300
    · first | refine op_v (v_cmpt rfl rfl rfl (by first | omega | (simp; done) | (simp; omega))) rfl ?_ | refine op_v (v_cmpf rfl rfl rfl (by first | omega | (simp; done) | (simp; omega))) rfl ?_ | refine op_v (v_cmp rfl rfl rfl) rfl ?_
      refine op_v (v_assign rfl) rfl ?_
      refine ops_nil ?_
      refine post_next ?_
      refine code_ret ?_
      refine post_ret (rs := [.tmp 2]) rfl (List.Perm.refl _) (.cons (.tmp rfl) .nil) (List.nil_sublist _) ?_
      have hge : k = gs.length := by omega
      rw [hge, List.take_length] at hp
      exact ⟨bool_b (by simp only [fewG, hp]; simp [h24]), rfl⟩
    · first | refine op_v (v_cmpt rfl rfl rfl (by first | omega | (simp; done) | (simp; omega))) rfl ?_ | refine op_v (v_cmpf rfl rfl rfl (by first | omega | (simp; done) | (simp; omega))) rfl ?_ | refine op_v (v_cmp rfl rfl rfl) rfl ?_
      refine op_v (v_assign rfl) rfl ?_
      refine ops_nil ?_
      refine post_next ?_
      refine code_ret ?_
      refine post_ret (rs := [.tmp 2]) rfl (List.Perm.refl _) (.cons (.tmp rfl) .nil) (List.nil_sublist _) ?_
      exact ⟨bool_b (by simp [fewG, h24]), rfl⟩
end Go.Proofs.Ytdcklngleglbbaa
