/- How a substitution lies in memory; what stands for a variable. Plain definitions; no condition. -/
import Derived.Test.YtdcklngleglbbaaGb
import Derived.Test.YtdcklngleglbbaaIt
set_option linter.unusedVariables false
set_option linter.unusedSimpArgs false
namespace Go.Proofs.Ytdcklngleglbbaa
open Go Lg

theorem FDoes.ofFirst {P : Program} {f : FuncId} {firsts args : List Value} {I : Imm} {δ : List Ent} {R : Value → Imm → List Ent → Prop} (hp : Plainf P f = true) (h : Does P f (firsts ++ args) I δ R) :
    FDoes P (.func (.func f) firsts.toArray #[]) args I δ R := by
  intro w hs
  refine ⟨{ target := .fn (.func f) #[], args := (firsts ++ args).toArray }, by simp [Deferred.ofValue], .inl ⟨f, (firsts ++ args).toArray, ?_, h w hs⟩⟩
  simp only [invoke]
  rw [run_callFunc hp]
  simp

abbrev Bi := Int × T
def valT (t : T) (s : Option Addr × Nat) : Value := .agg #[.int .i64 t.head, .slice s.1 t.args.length s.2]
/-- a substitution that is only read -/
inductive RepB (I : Imm) : Value → List Bi → Prop
  | mk (ad : Option Addr) (c : Nat) (ss : Nat → Option Addr × Nat) (bs : List Bi) (hc : bs.length ≤ c) (hb : bs.length ≤ 4398046511104)
      (hat : ∀ i (h : i < bs.length), At I ad (i * 3) [.int .i64 bs[i].1, .int .i64 bs[i].2.head, .slice (ss i).1 bs[i].2.args.length (ss i).2]) (hr : ∀ i (h : i < bs.length), InR bs[i].1)
      (hsub : ∀ i (h : i < bs.length), RepT I (.agg #[.int .i64 bs[i].2.head, .slice (ss i).1 bs[i].2.args.length (ss i).2]) bs[i].2) : RepB I (.slice ad bs.length c) bs
theorem RepB.mono {I J : Imm} {v : Value} {bs : List Bi} (h : RepB I v bs) (hl : I.le J) : RepB J v bs := by
  obtain ⟨ad, c, ss, bs, hc, hb, hat, hr, hsub⟩ := h
  exact ⟨ad, c, ss, bs, hc, hb, fun i h => (hat i h).mono hl, hr, fun i h => (hsub i h).mono hl⟩
theorem RepB.shape {I : Imm} {v : Value} {bs : List Bi} (h : RepB I v bs) : ∃ ad c, v = .slice ad bs.length c := by
  obtain ⟨ad, c, ss, bs, _, _, _, _, _⟩ := h; exact ⟨ad, c, rfl⟩
theorem RepB.open {I : Imm} {ad : Option Addr} {n c : Nat} {bs : List Bi} (h : RepB I (.slice ad n c) bs) : n = bs.length ∧ bs.length ≤ c ∧ bs.length ≤ 4398046511104 ∧ (∀ i (h : i < bs.length), InR bs[i].1) ∧ ∃ ss : Nat → Option Addr × Nat,
    (∀ i (h : i < bs.length), At I ad (i * 3) [.int .i64 bs[i].1, .int .i64 bs[i].2.head, .slice (ss i).1 bs[i].2.args.length (ss i).2]) ∧
    (∀ i (h : i < bs.length), RepT I (.agg #[.int .i64 bs[i].2.head, .slice (ss i).1 bs[i].2.args.length (ss i).2]) bs[i].2) := by
  generalize e : Value.slice ad n c = v at h
  obtain ⟨ad', c', ss, bs, hc, hb, hat, hr, hsub⟩ := h
  cases e
  exact ⟨rfl, hc, hb, hr, ss, hat, hsub⟩

/-- the first bind of a variable -/
def ofB : List Bi → Int → Option T
  | [], _ => none
  | (v, t) :: r, x => if v = x then some t else ofB r x
/-- a map holds binds -/
def MB (I : Imm) (xs : Mp) (bs : List Bi) : Prop := ∀ v, (ofB bs v = none → mget xs v = none) ∧ ∀ t, ofB bs v = some t → ∃ u, mget xs v = some u ∧ RepT I u t
theorem MB.mono {I J : Imm} {xs : Mp} {bs : List Bi} (h : MB I xs bs) (hl : I.le J) : MB J xs bs :=
  fun v => ⟨(h v).1, fun t ht => let ⟨u, h1, h2⟩ := (h v).2 t ht; ⟨u, h1, h2.mono hl⟩⟩
theorem MB.nil (I : Imm) : MB I [] [] := fun v => ⟨fun _ => rfl, fun t ht => by simp [ofB] at ht⟩
theorem MB.put {I : Imm} {xs : Mp} {bs : List Bi} {v : Int} {t : T} {u : Value} (h : MB I xs bs) (hu : RepT I u t) : MB I (mput xs v u) ((v, t) :: bs) := fun x => by
  rw [mget_mput]
  simp only [ofB]
  by_cases e : v = x
  · rw [if_pos e, if_pos e]
    exact ⟨fun h => (by cases h), fun t' ht => (by cases ht; exact ⟨u, rfl, hu⟩)⟩
  · rw [if_neg e, if_neg e]; exact h x
def ofT (bs : List Bi) (t : T) : T := (ofB bs (-1 - t.head)).getD t

/-! ### a range over binds from behind -/
def encBd (bs : List Bi) (ss : Nat → Option Addr × Nat) (_ : Imm) (i : Nat) (vs : List Value) : Prop :=
  ∃ hi : i < bs.length, vs = [.int .i64 i, .agg #[.int .i64 bs[i].1, .int .i64 bs[i].2.head, .slice (ss i).1 bs[i].2.args.length (ss i).2]]
theorem backB_iter {I : Imm} {bs : List Bi} {ad : Option Addr} {c b : Nat} {ss : Nat → Option Addr × Nat} (hb : bs.length ≤ 4398046511104)
    (hat : ∀ i (h : i < bs.length), At I ad (i * 3) [.int .i64 bs[i].1, .int .i64 bs[i].2.head, .slice (ss i).1 bs[i].2.args.length (ss i).2]) :
    Iter Try.prog 87 [.pointer (some ⟨b, 0, none⟩)] I [.box b 59 [.slice ad bs.length c]] (encBd bs ss) (List.range bs.length).reverse := by
  intro yv J δ hmono h0 hy
  refine Does.intro Try.func87 rfl Try.ntmps87 rfl fun w0 => ?_
  refine code_seq ?_
  refine code_region ?_
  refine op_v (v_load ty59 rfl (by repeat (first | exact Has.here | apply Has.there)) rfl) rfl ?_
  refine op_v (v_len Try.underlying59 rfl) rfl ?_
  first | refine op_v (v_subb rfl rfl rfl (by omega)) rfl ?_ | refine op_v (v_sub rfl rfl) rfl ?_
  refine op_v (v_assign rfl) rfl ?_
  refine ops_nil ?_
  refine post_next ?_
  refine code_block ?_
  refine code_loop (fun m σ' I' δ' => ∃ (k : Nat) (δJ : List Ent), m = bs.length - k ∧ k ≤ bs.length ∧ σ' = [(0, yv), (1, .pointer (some ⟨b, 0, none⟩)), (3, .int .i64 ((bs.length : Int) - 1 - k))] ∧ I.le I' ∧ δ' = .box b 59 [.slice ad bs.length c] :: δJ ∧ J ((List.range bs.length).reverse.take k) I' δJ) bs.length [(0, yv), (1, .pointer (some ⟨b, 0, none⟩)), (3, .int .i64 ((bs.length : Int) - 1))] ⟨0, δ, rfl, Nat.zero_le _, by simp, Imm.le_refl _, rfl, h0⟩ ⟨rfl, rfl, rfl, trivial⟩ ?_
  rintro m _ I0 _ ⟨k, δJ, rfl, hk, rfl, hI0, rfl, hJ⟩
  refine code_seq ?_
  refine code_seq ?_
  refine code_region ?_
  refine op_v (v_move rfl) rfl ?_
  first | refine op_v (v_cmpt rfl rfl rfl (by first | omega | (simp; done) | (simp; omega))) rfl ?_ | refine op_v (v_cmpf rfl rfl rfl (by first | omega | (simp; done) | (simp; omega))) rfl ?_ | refine op_v (v_cmp rfl rfl rfl) rfl ?_
  refine ops_nil ?_
  refine post_next ?_
  refine code_cond rfl (fun hc0 => ?_) (fun hc0 => ?_)
  · have hq : 0 ≤ (bs.length : Int) - 1 - k := by simpa using hc0
    have hlt : k < bs.length := by omega
    obtain ⟨j, hj⟩ : ∃ j : Nat, j = bs.length - 1 - k := ⟨_, rfl⟩
    have hji : (bs.length : Int) - 1 - k = (j : Nat) := by omega
    rw [hji]
    have hjl : j < bs.length := by omega
    have hs1 := (hat j hjl).isSome
    have hx := range_rev bs.length k hlt
    rw [← hj] at hx
    have hx2 := range_rev_take bs.length k hlt
    rw [← hj] at hx2
    refine code_skip ?_
    refine post_next ?_
    refine code_seq ?_
    refine code_block ?_
    refine code_seq ?_
    refine code_region ?_
    refine op_v (v_move rfl) rfl ?_
    refine op_v (v_move rfl) rfl ?_
    refine op_v (v_load ty59 rfl (by repeat (first | exact Has.here | apply Has.there)) rfl) rfl ?_
    refine op_v (v_move rfl) rfl ?_
    first | refine op_v (v_index Try.underlying59 sz88 rfl rfl (by omega) (by assumption)) rfl ?_ | refine op_v (v_indexI Try.underlying59 sz88 rfl rfl (by first | omega | (simp; done) | (simp; omega)) (by first | omega | (simp; done) | (simp; omega)) (by assumption)) rfl ?_
    first | refine op_v (v_loadI0 ty88 ((hat j hjl).mono hI0) rfl rfl rfl) rfl ?_ | refine op_v (v_loadI ty88 ((hat j hjl).mono hI0) rfl rfl rfl) rfl ?_
    refine op_fcall rfl rfl rfl ((hy _ j _ _ _ _ hx hI0 hJ ⟨hjl, rfl⟩)) (List.perm_append_comm (l₁ := [_])) ?_
    rintro v17 I17 δ17 hI17 ⟨rfl, hJ17⟩
    refine OpsJ.view (View.perm (List.perm_append_comm (l₂ := [_]))) ?_
    rw [← hx2] at hJ17
    refine op_v (v_not rfl) rfl ?_
    refine ops_nil ?_
    refine post_next ?_
    refine code_cond_f rfl ?_
    refine code_skip ?_
    refine post_out ?_
    refine post_next ?_
    refine code_region ?_
    refine op_v (v_move rfl) rfl ?_
    first | refine op_v (v_subb rfl rfl rfl (by omega)) rfl ?_ | refine op_v (v_sub rfl rfl) rfl ?_
    refine op_v (v_assign rfl) rfl ?_
    refine ops_nil ?_
    refine post_again (bs.length - (k + 1)) [(0, yv), (1, .pointer (some ⟨b, 0, none⟩)), (3, .int .i64 ((j : Int) - 1))] (by omega) ⟨k + 1, δ17, rfl, hlt, ?_, Imm.le_trans hI0 hI17, rfl, hJ17⟩ ⟨rfl, rfl, rfl, trivial⟩
    rw [show (j : Int) - 1 = (bs.length : Int) - 1 - ((k + 1 : Nat) : Int) by omega]
  · have hq : ¬ 0 ≤ (bs.length : Int) - 1 - k := by simpa using hc0
    have hge : k = bs.length := by omega
    have hall : (List.range bs.length).reverse.take k = (List.range bs.length).reverse := List.take_of_length_le (by simp; omega)
    rw [hall] at hJ
    refine code_exit ?_
    refine post_exit_then ?_
    refine post_exit_then ?_
    refine post_exit ?_
    refine post_end (rs := []) rfl (List.Perm.refl _) .nil (List.Sublist.refl _) ⟨δJ, hJ, rfl⟩
theorem BackwardB_does {I : Imm} {s : Value} :
    Does Try.prog 84 [s] I [] (fun v I' δ' => ∃ b, v = .func (.func 87) #[] #[.pointer (some ⟨b, 0, none⟩)] ∧ δ' = [.box b 59 (cellsL s)]) := by
  refine Does.intro Try.func84 rfl Try.ntmps84 rfl fun w0 => ?_
  refine code_seq ?_
  refine code_region ?_
  refine o_box rfl rfl rfl (fun b1 => ?_)
  refine op_v (v_assign rfl) rfl ?_
  refine ops_nil ?_
  refine post_next ?_
  refine code_seq ?_
  refine code_region ?_
  refine op_v (v_makeFunc rfl rfl) rfl ?_
  refine op_v (v_assign rfl) rfl ?_
  refine ops_nil ?_
  refine post_next ?_
  refine code_ret ?_
  refine post_ret (rs := [.tmp 2]) rfl (List.Perm.refl _) (.cons (.tmp rfl) .nil) (List.Sublist.refl _) ?_
  exact ⟨b1, rfl, rfl⟩

theorem drop_mid {bs : List Bi} {pre post : List Nat} {x : Nat} (hx : (List.range bs.length).reverse = pre ++ x :: post) : ∃ h : x < bs.length, bs.drop (bs.length - pre.length) = bs.drop (x + 1) ∧ bs.drop (bs.length - (pre ++ [x]).length) = bs[x] :: bs.drop (x + 1) := by
  have hl : pre.length < bs.length := by have := congrArg List.length hx; simp at this; omega
  have h1 := congrArg (fun l => l[pre.length]?) hx
  simp only [List.getElem?_append_right (Nat.le_refl _), Nat.sub_self, List.getElem?_cons_zero] at h1
  rw [List.getElem?_reverse (by simpa using hl), List.getElem?_range (by simp; omega)] at h1
  simp at h1
  have hxl : x < bs.length := by omega
  refine ⟨hxl, by congr 1; omega, ?_⟩
  rw [← List.drop_eq_getElem_cons hxl]; congr 1; simp; omega
theorem open_does {I : Imm} {v : Value} {bs : List Bi} (hv : RepB I v bs) :
    Does Try.prog 74 [v] I [] (fun v I' δ' => ∃ b xs, v = .map (some b) ∧ δ' = [.map b xs] ∧ MB I' xs bs) := by
  obtain ⟨ad, c, rfl⟩ := hv.shape
  obtain ⟨_, hc, hb, hr, ss, hat, hsub⟩ := hv.open
  refine Does.intro Try.func74 rfl Try.ntmps74 rfl fun w0 => ?_
  refine code_seq ?_
  refine code_region ?_
  refine op_v (v_assign rfl) rfl ?_
  refine ops_nil ?_
  refine post_next ?_
  refine code_seq ?_
  refine code_region ?_
  refine o_makeMap rfl (fun b6 => ?_)
  refine o_alloc z93 rfl rfl (fun b3 => ?_)
  refine o_store ty93 rfl rfl rfl rfl rfl (by repeat (first | exact Swap.here | apply Swap.there)) rfl ?_
  refine ops_nil ?_
  refine post_next ?_
  refine code_seq ?_
  refine code_seq ?_
  refine code_region ?_
  refine op_v (v_move rfl) rfl ?_
  refine op_call pl84 rfl rfl ((BackwardB_does)) Parts.none ?_
  rintro v8 I8 _ hI8 ⟨b8, rfl, rfl⟩
  refine ops_nil ?_
  refine post_next ?_
  refine code_block ?_
  refine code_range (δb := [_, _]) (B := fun l I' δ' => ∃ xs, δ' = [.box b3 93 [.map (some b6)], .map b6 xs] ∧ MB I' xs (bs.drop (bs.length - l.length))) rfl rfl pl87 rfl (backB_iter hb (fun i h => (hat i h).mono hI8)) (List.Perm.refl _) ⟨[], rfl, by simp; exact MB.nil _⟩ (by rintro _ _ _ ⟨_, rfl⟩; rfl) (by rintro l I1 I2 _ hle ⟨xs, rfl, h⟩; exact ⟨xs, rfl, h.mono hle⟩) ?_ ?_
  · rintro l r w1 pre x post I2 _ _ hrs hrp hx hI2 ⟨xs, rfl, hM⟩ ⟨hxl, rfl⟩
    obtain ⟨_, hd1, hd2⟩ := drop_mid hx
    rw [hd1] at hM
    refine code_region ?_
    refine o_alloc z88 rfl rfl (fun b5 => ?_)
    refine o_store ty88 rfl rfl rfl rfl rfl (by repeat (first | exact Swap.here | apply Swap.there)) rfl ?_
    refine ops_nil ?_
    refine post_begin hrs (Swap.there Swap.here) ?_
    refine code_block ?_
    refine code_region ?_
    refine op_v (v_load ty93 rfl (by repeat (first | exact Has.here | apply Has.there)) rfl) rfl ?_
    first | refine op_v (v_fieldB 0 Try.underlying88 rfl rfl fz3 rfl) rfl ?_ | refine op_v (v_fieldI 0 Try.underlying88 rfl rfl fz3 rfl (by assumption)) rfl ?_ | refine op_v (v_field Try.underlying88 rfl fz3 rfl rfl) rfl ?_
    refine op_v (v_load ty3 rfl (by repeat (first | exact Has.here | apply Has.there)) rfl) rfl ?_
    first | refine op_v (v_fieldB 1 Try.underlying88 rfl rfl fz24 rfl) rfl ?_ | refine op_v (v_fieldI 1 Try.underlying88 rfl rfl fz24 rfl (by assumption)) rfl ?_ | refine op_v (v_field Try.underlying88 rfl fz24 rfl rfl) rfl ?_
    refine op_v (v_load ty24 rfl (by repeat (first | exact Has.here | apply Has.there)) rfl) rfl ?_
    refine o_mapUpdate Try.underlying93 Try.underlying3 rfl rfl rfl rfl (by repeat (first | exact Swap.here | apply Swap.there)) ?_
    refine ops_nil ?_
    refine post_out ?_
    refine PostJ.view (View.drop Del.here) ?_
    refine post_round Swap.here hrs hrp ⟨rfl, _, rfl, _, rfl, ?_⟩
    rw [hd2]
    exact hM.put ((hsub x hxl).mono (by repeat (first | exact Imm.le_refl _ | assumption | refine Imm.le_trans ?_ (by assumption))))
  · rintro blk I3 _ hI3 ⟨xs, rfl, hM⟩
    refine post_out ?_
    refine post_next ?_
    refine code_seq ?_
    refine code_region ?_
    refine op_v (v_load ty93 rfl (by repeat (first | exact Has.here | apply Has.there)) rfl) rfl ?_
    refine op_v (v_assign rfl) rfl ?_
    refine ops_nil ?_
    refine post_next ?_
    refine code_ret ?_
    refine post_ret (rs := [.tmp 2]) rfl (List.Perm.refl _) (.cons (.tmp rfl) .nil) (List.Sublist.cons _ (List.Sublist.cons _ (List.Sublist.cons_cons _ (List.nil_sublist _)))) ?_
    exact ⟨b6, xs, rfl, rfl, by simpa using hM⟩
theorem of_does {I : Imm} {b : Nat} {xs : Mp} {bs : List Bi} {v : Value} {t : T} (hv : RepT I v t) (hM : MB I xs bs) :
    Does Try.prog 75 [.map (some b), v] I [.map b xs] (fun v I' δ' => RepT I' v (ofT bs t) ∧ δ' = [.map b xs]) := by
  obtain ⟨a0, c0, rfl, hr0⟩ := hv.shape
  unfold InR at hr0
  refine Does.intro Try.func75 rfl Try.ntmps75 rfl fun w0 => ?_
  refine code_seq ?_
  refine code_region ?_
  refine o_box rfl rfl rfl (fun b3 => ?_)
  refine o_alloc z24 rfl rfl (fun b4 => ?_)
  refine ops_nil ?_
  refine post_next ?_
  refine code_seq ?_
  refine code_seq ?_
  refine code_region ?_
  refine op_v (v_move rfl) rfl ?_
  first | refine op_v (v_fieldB 0 Try.underlying24 rfl rfl fz3 rfl) rfl ?_ | refine op_v (v_fieldI 0 Try.underlying24 rfl rfl fz3 rfl (by assumption)) rfl ?_ | refine op_v (v_field Try.underlying24 rfl fz3 rfl rfl) rfl ?_
  refine op_v (v_load ty3 rfl (by repeat (first | exact Has.here | apply Has.there)) rfl) rfl ?_
  first | refine op_v (v_subb rfl rfl rfl (by omega)) rfl ?_ | refine op_v (v_sub rfl rfl) rfl ?_
  by_cases hof : (ofB bs (-1 - t.head)).isSome = true
  · obtain ⟨u, hu⟩ := Option.isSome_iff_exists.1 hof
    obtain ⟨uv, hg, huv⟩ := (hM (-1 - t.head)).2 u hu
    obtain ⟨ua, uc, rfl, _⟩ := huv.shape
    refine op_v (v_mlook2 (v := .agg #[.int .i64 u.head, .slice ua u.args.length uc]) (g := true) Try.underlying93 Try.underlying3 z24 rfl rfl (by repeat (first | exact Has.here | apply Has.there)) (by rw [hg]; rfl) (by rw [hg]; rfl)) rfl ?_
    refine op_v (v_move rfl) rfl ?_
    refine op_v (v_extract rfl rfl) rfl ?_
    refine op_v (v_extract rfl rfl) rfl ?_
    refine o_alloc z24 rfl rfl (fun b5 => ?_)
    refine o_store ty24 rfl rfl rfl rfl rfl (by repeat (first | exact Swap.here | apply Swap.there)) rfl ?_
    refine op_v (v_assign rfl) rfl ?_
    refine ops_nil ?_
    refine post_next ?_
    refine code_seq ?_
    refine code_region ?_
    refine op_v (v_move rfl) rfl ?_
    refine ops_nil ?_
    refine post_next ?_
    refine code_cond_t rfl ?_
    refine code_seq ?_
    refine code_region ?_
    refine op_v (v_load ty24 rfl (by repeat (first | exact Has.here | apply Has.there)) rfl) rfl ?_
    refine o_store ty24 rfl rfl rfl rfl rfl (by repeat (first | exact Swap.here | apply Swap.there)) rfl ?_
    refine ops_nil ?_
    refine post_next ?_
    refine code_ret ?_
    refine post_ret_then ?_
    refine post_ret (rs := [.cell 4 24]) rfl (List.Perm.refl _) (.cons (.cell rfl ty24 (by repeat (first | exact Has.here | apply Has.there)) rfl) .nil) (List.Sublist.cons _ (List.Sublist.cons _ (List.Sublist.cons _ (List.Sublist.refl _)))) ?_
    exact ⟨by rw [ofT, hu]; exact huv, rfl⟩
  · have hu : ofB bs (-1 - t.head) = none := by simpa using hof
    have hg := (hM (-1 - t.head)).1 hu
    refine op_v (v_mlook2 (v := .agg #[.int .i64 0, .slice none 0 0]) (g := false) Try.underlying93 Try.underlying3 z24 rfl rfl (by repeat (first | exact Has.here | apply Has.there)) (by rw [hg]; rfl) (by rw [hg]; rfl)) rfl ?_
    refine op_v (v_move rfl) rfl ?_
    refine op_v (v_extract rfl rfl) rfl ?_
    refine op_v (v_extract rfl rfl) rfl ?_
    refine o_alloc z24 rfl rfl (fun b5 => ?_)
    refine o_store ty24 rfl rfl rfl rfl rfl (by repeat (first | exact Swap.here | apply Swap.there)) rfl ?_
    refine op_v (v_assign rfl) rfl ?_
    refine ops_nil ?_
    refine post_next ?_
    refine code_seq ?_
    refine code_region ?_
    refine op_v (v_move rfl) rfl ?_
    refine ops_nil ?_
    refine post_next ?_
    refine code_cond_f rfl ?_
    refine code_skip ?_
    refine post_next ?_
    refine code_seq ?_
    refine code_region ?_
    refine op_v (v_load ty24 rfl (by repeat (first | exact Has.here | apply Has.there)) rfl) rfl ?_
    refine o_store ty24 rfl rfl rfl rfl rfl (by repeat (first | exact Swap.here | apply Swap.there)) rfl ?_
    refine ops_nil ?_
    refine post_next ?_
    refine code_ret ?_
    refine post_ret (rs := [.cell 4 24]) rfl (List.Perm.refl _) (.cons (.cell rfl ty24 (by repeat (first | exact Has.here | apply Has.there)) rfl) .nil) (List.Sublist.cons _ (List.Sublist.cons _ (List.Sublist.cons _ (List.Sublist.refl _)))) ?_
    exact ⟨by rw [ofT, hu]; exact hv, rfl⟩
end Go.Proofs.Ytdcklngleglbbaa
