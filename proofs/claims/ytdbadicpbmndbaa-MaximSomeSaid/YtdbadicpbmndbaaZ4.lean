/- Own texts, one behind the other: rules of a small program logic, walks through the program's functions, plain facts. No condition. -/
import Derived.Test.YtdbadicpbmndbaaZ3
/- Walks: which row is over another one; how two rows stand. -/
set_option linter.unusedVariables false
set_option linter.unusedSimpArgs false
/- short -/
namespace Go.Proofs.Ytdbadicpbmndbaa
open Go Lg

abbrev OvE (ba bg : Nat) (va vg : Value) : List Ent := [.box ba 45 [va], .box bg 22 [vg]]
theorem over11_does {I : Imm} {bg bu : Nat} {v : Value} {gs : List Sy} {t u : T} {ga ua : Option Addr} {gc uc : Nat} {X : Ent} (hg : RepG I (.slice ga gs.length gc) gs) (hv : RepT I v t) (hu : RepT I (.agg #[.int .i64 u.head, .slice ua u.args.length uc]) u) (ht : OkG gs t) (hou : OkG gs u) :
    Does Try.prog 170 [v, .pointer (some ⟨bg, 0, none⟩), .pointer (some ⟨bu, 0, none⟩)] I [.box bu 47 [.int .i64 u.head, .slice ua u.args.length uc], X, .box bg 22 [.slice ga gs.length gc]] (fun v _ δ' => v = .bool (decide (stT gs t u = 1)) ∧ δ' = [.box bu 47 [.int .i64 u.head, .slice ua u.args.length uc], X, .box bg 22 [.slice ga gs.length gc]]) := by
  obtain ⟨ta, tc, rfl, _⟩ := hv.shape
  refine Does.intro Try.func170 rfl Try.ntmps170 rfl fun w0 => ?_
  refine code_seq ?_
  refine code_region ?_
  refine o_box rfl rfl rfl (fun b3 => ?_)
  refine op_v (v_assign rfl) rfl ?_
  refine ops_nil ?_
  refine post_next ?_
  refine code_seq ?_
  refine code_region ?_
  refine op_v (v_load ty22 rfl (Has.there (Has.there (Has.there Has.here))) rfl) rfl ?_
  refine op_v (v_load ty47 rfl Has.here rfl) rfl ?_
  refine op_v (v_load ty47 rfl (Has.there Has.here) rfl) rfl ?_
  refine op_call pl171 rfl rfl ((stand_does t.size t u (Nat.le_refl _) _ _ _ _ hg hv hu ht hou)) Parts.none ?_
  rintro v8 I8 _ hI8 ⟨rfl, rfl⟩
  refine op_v (v_cmp (z := decide (stT gs t u = 1)) rfl rfl rfl) rfl ?_
  refine op_v (v_assign rfl) rfl ?_
  refine ops_nil ?_
  refine post_next ?_
  refine code_ret ?_
  refine post_ret (rs := [.tmp 4]) rfl (List.Perm.refl _) (.cons (.tmp rfl) .nil) (List.sublist_cons_self _ _) ?_
  exact ⟨rfl, rfl⟩
theorem over1_does {I : Imm} {ba bg : Nat} {v va : Value} {gs : List Sy} {a : List T} {u : T} {ga : Option Addr} {gc : Nat} (hg : RepG I (.slice ga gs.length gc) gs) (ha : RepS I va a) (hv : RepT I v u) (hoa : ∀ t ∈ a, OkG gs t) (hou : OkG gs u) :
    Does Try.prog 169 [v, .pointer (some ⟨ba, 0, none⟩), .pointer (some ⟨bg, 0, none⟩)] I (OvE ba bg va (.slice ga gs.length gc)) (fun v _ δ' => v = .bool (a.any fun t => decide (stT gs t u = 1)) ∧ δ' = OvE ba bg va (.slice ga gs.length gc)) := by
  obtain ⟨ua, uc, rfl, _⟩ := hv.shape
  obtain ⟨aa, ac, rfl⟩ := ha.shape
  refine Does.intro Try.func169 rfl Try.ntmps169 rfl fun w0 => ?_
  refine code_seq ?_
  refine code_region ?_
  refine o_box rfl rfl rfl (fun b3 => ?_)
  refine op_v (v_assign rfl) rfl ?_
  refine ops_nil ?_
  refine post_next ?_
  refine code_seq ?_
  refine code_region ?_
  refine op_v (v_loadA ty45 rfl rfl) rfl ?_
  refine op_v (v_makeFunc rfl rfl) rfl ?_
  refine op_call pl103 rfl rfl ((ContT_does (p := fun t => decide (stT gs t u = 1)) ha (fun J x t hJ hx ht => FDoes.ofFunc (caps := [_, _]) pl170 (over11_does (hg.mono hJ) hx (hv.mono hJ) (hoa t ht) hou)))) Parts.all ?_
  rintro v7 I7 _ hI7 ⟨rfl, rfl⟩
  rw [List.append_nil]
  refine op_v (v_assign rfl) rfl ?_
  refine ops_nil ?_
  refine post_next ?_
  refine code_ret ?_
  refine post_ret (rs := [.tmp 4]) rfl (List.Perm.refl _) (.cons (.tmp rfl) .nil) (List.sublist_cons_self _ _) ?_
  exact ⟨rfl, rfl⟩
theorem over2_does {I : Imm} {bf ba bg : Nat} {v va : Value} {gs : List Sy} {a : List T} {u : T} {ga : Option Addr} {gc : Nat} (hg : RepG I (.slice ga gs.length gc) gs) (ha : RepS I va a) (hv : RepT I v u) (hoa : ∀ t ∈ a, OkG gs t) (hou : OkG gs u) :
    Does Try.prog 172 [v, .pointer (some ⟨bf, 0, none⟩)] I (.box bf 111 [.func (.func 169) #[] #[.pointer (some ⟨ba, 0, none⟩), .pointer (some ⟨bg, 0, none⟩)]] :: OvE ba bg va (.slice ga gs.length gc)) (fun v _ δ' => v = .bool (!(a.any fun t => decide (stT gs t u = 1))) ∧ δ' = .box bf 111 [.func (.func 169) #[] #[.pointer (some ⟨ba, 0, none⟩), .pointer (some ⟨bg, 0, none⟩)]] :: OvE ba bg va (.slice ga gs.length gc)) := by
  obtain ⟨ua, uc, rfl, _⟩ := hv.shape
  refine Does.intro Try.func172 rfl Try.ntmps172 rfl fun w0 => ?_
  refine code_seq ?_
  refine code_region ?_
  refine o_box rfl rfl rfl (fun b2 => ?_)
  refine op_v (v_assign rfl) rfl ?_
  refine ops_nil ?_
  refine post_next ?_
  refine code_seq ?_
  refine code_region ?_
  refine op_v (v_load ty111 rfl (Has.there Has.here) rfl) rfl ?_
  refine op_v (v_load ty47 rfl Has.here rfl) rfl ?_
  refine op_fcall rfl rfl rfl ((FDoes.ofFunc (caps := [_, _]) pl169 (over1_does hg ha hv hoa hou))) (List.perm_append_comm (l₁ := [_, _])) ?_
  rintro v6 I6 _ hI6 ⟨rfl, rfl⟩
  refine OpsJ.view (View.perm (List.perm_append_comm (l₂ := [_, _]))) ?_
  refine op_v (v_not rfl) rfl ?_
  refine op_v (v_assign rfl) rfl ?_
  refine ops_nil ?_
  refine post_next ?_
  refine code_ret ?_
  refine post_ret (rs := [.tmp 3]) rfl (List.Perm.refl _) (.cons (.tmp rfl) .nil) (List.sublist_cons_self _ _) ?_
  exact ⟨rfl, rfl⟩
theorem over_does {I : Imm} {vg va vb : Value} {gs : List Sy} {a b : List T} (hg : RepG I vg gs) (ha : RepS I va a) (hb : RepS I vb b) (hoa : ∀ t ∈ a, OkG gs t) (hob : ∀ t ∈ b, OkG gs t) :
    Does Try.prog 139 [vg, va, vb] I [] (fun v _ δ' => v = .bool (overL gs a b) ∧ δ' = []) := by
  obtain ⟨ga, gc, rfl⟩ := hg.shape
  obtain ⟨aa, ac, rfl⟩ := ha.shape
  have hall : (b.all fun u => a.any fun t => decide (stT gs t u = 1)) = !(b.any fun u => !(a.any fun t => decide (stT gs t u = 1))) := by
    rw [List.not_any_eq_all_not]; simp
  refine Does.intro Try.func139 rfl Try.ntmps139 rfl fun w0 => ?_
  refine code_seq ?_
  refine code_region ?_
  refine o_box rfl rfl rfl (fun b3 => ?_)
  refine o_box rfl rfl rfl (fun b4 => ?_)
  refine op_v (v_assign rfl) rfl ?_
  refine ops_nil ?_
  refine post_next ?_
  refine code_seq ?_
  refine code_region ?_
  refine op_v (v_makeFunc rfl rfl) rfl ?_
  refine o_alloc z111 rfl rfl (fun b7 => ?_)
  refine o_store ty111 rfl rfl rfl rfl rfl (by repeat (first | exact Swap.here | apply Swap.there)) rfl ?_
  refine ops_nil ?_
  refine post_next ?_
  refine code_seq ?_
  refine code_region ?_
  refine op_v (v_loadA ty45 rfl rfl) rfl ?_
  refine op_v (v_len Try.underlying45 rfl) rfl ?_
  by_cases h11 : 0 < a.length
  · first | refine op_v (v_cmptA rfl rfl rfl) rfl ?_ | refine op_v (v_cmpfA rfl rfl rfl) rfl ?_ | refine op_v (v_cmp rfl rfl rfl) rfl ?_
    refine op_v (v_move rfl) rfl ?_
    first
      | (refine op_want rfl rfl ?_
         refine op_v (v_move rfl) rfl ?_)
      | (refine op_skip rfl rfl (by simp [undef]) rfl ?_)
    first
      | (refine op_want rfl rfl ?_
         refine op_v (v_makeFunc rfl rfl) rfl ?_)
      | (refine op_skip rfl rfl (by simp [undef]) rfl ?_)
    first
      | (refine op_want rfl rfl ?_
         refine op_call pl103 rfl rfl ((ContT_does (p := fun u => !(a.any fun t => decide (stT gs t u = 1))) hb (fun J x u hJ hx hu => FDoes.ofFunc (caps := [_]) pl172 (over2_does (hg.mono hJ) (ha.mono hJ) hx hoa (hob u hu))))) Parts.all ?_
         rintro v15 I15 _ hI15 ⟨rfl, rfl⟩
         rw [List.append_nil])
      | (refine op_skip rfl rfl (by simp [undef]) rfl ?_)
    first
      | (refine op_want rfl rfl ?_
         refine op_v (v_not rfl) rfl ?_)
      | (refine op_skip rfl rfl (by simp [undef]) rfl ?_)
    first | refine op_v (v_pickt rfl rfl) rfl ?_ | refine op_v (v_pickf rfl rfl) rfl ?_ | refine op_v (v_pickb rfl rfl rfl) rfl ?_
    refine op_v (v_assign rfl) rfl ?_
    refine ops_nil ?_
    refine post_next ?_
    refine code_ret ?_
    refine post_ret (rs := [.tmp 6]) rfl (List.Perm.refl _) (.cons (.tmp rfl) .nil) (List.nil_sublist _) ?_
    exact ⟨by simp only [outV, overL, hall, h11, decide_true, Bool.true_and], rfl⟩
  · first | refine op_v (v_cmptA rfl rfl rfl) rfl ?_ | refine op_v (v_cmpfA rfl rfl rfl) rfl ?_ | refine op_v (v_cmp rfl rfl rfl) rfl ?_
    refine op_v (v_move rfl) rfl ?_
    first
      | (refine op_want rfl rfl ?_
         refine op_v (v_move rfl) rfl ?_)
      | (refine op_skip rfl rfl (by simp [undef]) rfl ?_)
    first
      | (refine op_want rfl rfl ?_
         refine op_v (v_makeFunc rfl rfl) rfl ?_)
      | (refine op_skip rfl rfl (by simp [undef]) rfl ?_)
    first
      | (refine op_want rfl rfl ?_
         refine op_call pl103 rfl rfl ((ContT_does (p := fun u => !(a.any fun t => decide (stT gs t u = 1))) hb (fun J x u hJ hx hu => FDoes.ofFunc (caps := [_]) pl172 (over2_does (hg.mono hJ) (ha.mono hJ) hx hoa (hob u hu))))) Parts.all ?_
         rintro v15 I15 _ hI15 ⟨rfl, rfl⟩
         rw [List.append_nil])
      | (refine op_skip rfl rfl (by simp [undef]) rfl ?_)
    first
      | (refine op_want rfl rfl ?_
         refine op_v (v_not rfl) rfl ?_)
      | (refine op_skip rfl rfl (by simp [undef]) rfl ?_)
    first | refine op_v (v_pickt rfl rfl) rfl ?_ | refine op_v (v_pickf rfl rfl) rfl ?_ | refine op_v (v_pickb rfl rfl rfl) rfl ?_
    refine op_v (v_assign rfl) rfl ?_
    refine ops_nil ?_
    refine post_next ?_
    refine code_ret ?_
    refine post_ret (rs := [.tmp 6]) rfl (List.Perm.refl _) (.cons (.tmp rfl) .nil) (List.nil_sublist _) ?_
    exact ⟨by simp [outV, overL, h11], rfl⟩

theorem Grow_does {I : Imm} {n : Nat} (hn : n ≤ 4000000000000) :
    Does Try.prog 165 [.slice none 0 0, .int .i64 n] I [] (fun v _ δ' => ∃ A c, v = .slice A 0 c ∧ δ' = [tRow A c 0 []]) := by
  refine Does.intro Try.func165 rfl Try.ntmps165 rfl fun w0 => ?_
  refine code_seq ?_
  refine code_region ?_
  refine op_v (v_assign rfl) rfl ?_
  refine ops_nil ?_
  refine post_next ?_
  refine code_seq ?_
  refine code_seq ?_
  refine code_region ?_
  refine op_v (v_move rfl) rfl ?_
  refine op_v (v_cmpf rfl rfl rfl (by omega)) rfl ?_
  refine ops_nil ?_
  refine post_next ?_
  refine code_cond_f rfl ?_
  refine code_skip ?_
  refine post_next ?_
  refine code_seq ?_
  refine code_seq ?_
  refine code_region ?_
  refine op_v (v_move rfl) rfl ?_
  refine op_v (v_move rfl) rfl ?_
  refine op_v (v_cap Try.underlying45 rfl) rfl ?_
  refine op_v (v_move rfl) rfl ?_
  refine op_v (v_len Try.underlying45 rfl) rfl ?_
  first | refine op_v (v_subb rfl rfl rfl (by omega)) rfl ?_ | refine op_v (v_sub rfl rfl) rfl ?_
  refine op_v (v_subb (c := (n : Int)) rfl rfl (by omega) ⟨by omega, by omega⟩) rfl ?_
  refine op_v (v_assign rfl) rfl ?_
  refine ops_nil ?_
  refine post_next ?_
  refine code_seq ?_
  refine code_region ?_
  refine op_v (v_move rfl) rfl ?_
  by_cases h16 : 0 < n
  · first | refine op_v (v_cmptA rfl rfl rfl) rfl ?_ | refine op_v (v_cmpfA rfl rfl rfl) rfl ?_ | refine op_v (v_cmp rfl rfl rfl) rfl ?_
    refine ops_nil ?_
    refine post_next ?_
    refine code_cond_t rfl ?_
    refine code_region ?_
    refine op_v (v_move rfl) rfl ?_
    refine op_v (v_move rfl) rfl ?_
    refine op_v (v_cap Try.underlying45 rfl) rfl ?_
    refine op_v (v_sliceTo (h := 0) Try.underlying45 sz47 rfl rfl (by omega)) rfl ?_
    refine op_v (v_move rfl) rfl ?_
    refine o_appendMake Try.underlying45 Try.underlying3 bs47 (by rfl) rfl rfl rfl h16 (by omega) (by omega) (by omega) (by omega) (fun g22 c22 hc22 => ?_)
    refine op_v (v_move rfl) rfl ?_
    refine op_v (v_len Try.underlying45 rfl) rfl ?_
    refine op_v (v_sliceTo (h := 0) Try.underlying45 sz47 rfl rfl (by omega)) rfl ?_
    refine op_v (v_assign rfl) rfl ?_
    refine ops_nil ?_
    refine post_next ?_
    refine code_seq ?_
    refine code_region ?_
    refine op_v (v_move rfl) rfl ?_
    refine op_v (v_assign rfl) rfl ?_
    refine ops_nil ?_
    refine post_next ?_
    refine code_ret ?_
    refine post_ret (rs := [.tmp 4]) rfl (List.Perm.refl _) (.cons (.tmp rfl) .nil) (List.Sublist.refl _) ?_
    exact ⟨_, _, rfl, rfl⟩
  · first | refine op_v (v_cmptA rfl rfl rfl) rfl ?_ | refine op_v (v_cmpfA rfl rfl rfl) rfl ?_ | refine op_v (v_cmp rfl rfl rfl) rfl ?_
    refine ops_nil ?_
    refine post_next ?_
    refine code_cond_f rfl ?_
    refine code_skip ?_
    refine post_next ?_
    refine code_seq ?_
    refine code_region ?_
    refine op_v (v_move rfl) rfl ?_
    refine op_v (v_assign rfl) rfl ?_
    refine ops_nil ?_
    refine post_next ?_
    refine code_ret ?_
    refine PostJ.view (View.nilRow 47 2) (post_ret (rs := [.tmp 4]) rfl (List.Perm.refl _) (.cons (.tmp rfl) .nil) (List.Sublist.refl _) ⟨none, 0, rfl, rfl⟩)
theorem Concat_does {I : Imm} {ad : Option Addr} {c : Nat} {va vb : Value} {a b : List T} (hcells : Cells I ad [va, vb]) (ha : RepS I va a) (hb : RepS I vb b) (hla : a.length ≤ 1000000) (hlb : b.length ≤ 1000000) :
    Does Try.prog 137 [.slice ad 2 c] I [] (fun v I' δ' => RepS I' v (a ++ b) ∧ δ' = []) := by
  have has : ad.isSome = true := by
    have := hcells 0 va rfl
    cases ad with
    | none => simp [Imm.cellO] at this
    | some x => rfl
  have hel : ∀ k, k < 2 → ∃ (A : Option Addr) (e : Nat) (L : List T) (xs : List Value), At I ad (k * 1) [.slice A L.length e] ∧ Cells I A xs ∧ RowT I xs L ∧ L.length ≤ 1000000 ∧ ∀ (l : List T), l = (if k = 0 then [] else a) → l ++ L = (if k = 0 then a else a ++ b) := by
    intro k hk
    have key : ∀ (v : Value) (L : List T), RepS I v L → L.length ≤ 1000000 → At I ad (k * 1) [v] → (∀ (l : List T), l = (if k = 0 then [] else a) → l ++ L = (if k = 0 then a else a ++ b)) → ∃ (A : Option Addr) (e : Nat) (L : List T) (xs : List Value), At I ad (k * 1) [.slice A L.length e] ∧ Cells I A xs ∧ RowT I xs L ∧ L.length ≤ 1000000 ∧ ∀ (l : List T), l = (if k = 0 then [] else a) → l ++ L = (if k = 0 then a else a ++ b) := by
      intro v L hv hl hat hq
      obtain ⟨A, e, ss, L, hc, hb, hat2, hr, hsub0⟩ := hv
      obtain ⟨h1, h2⟩ := RowT.of hat2 (fun i hi => RepT.mk _ _ (hr i hi) (hsub0 i hi))
      exact ⟨A, e, L, _, hat, h1, h2, hl, hq⟩
    have hat : ∀ (v : Value), [va, vb][k]? = some v → At I ad (k * 1) [v] := fun v hv => hcells.at _ fun j u hj => by
      rcases j with _ | j
      · simp at hj; subst hj; rw [Nat.mul_one, Nat.add_zero]; exact hv
      · simp at hj
    rcases (show k = 0 ∨ k = 1 by omega) with rfl | rfl
    · exact key va a ha hla (hat va rfl) (fun l hl => by simp at hl; subst hl; simp)
    · exact key vb b hb hlb (hat vb rfl) (fun l hl => by simp at hl; subst hl; simp)
  refine Does.intro Try.func137 rfl Try.ntmps137 rfl fun w0 => ?_
  refine code_seq ?_
  refine code_region ?_
  refine op_v (v_assign rfl) rfl ?_
  refine ops_nil ?_
  refine post_next ?_
  refine code_seq ?_
  refine code_region ?_
  refine op_v (v_assign rfl) rfl ?_
  refine ops_nil ?_
  refine post_next ?_
  refine code_seq ?_
  refine code_seq ?_
  refine code_region ?_
  refine op_v (v_move rfl) rfl ?_
  refine op_v (v_len Try.underlying182 rfl) rfl ?_
  refine op_v (v_move rfl) rfl ?_
  refine ops_nil ?_
  refine post_next ?_
  refine code_block ?_
  refine code_loop (fun m σ' I' δ' => ∃ k n : Nat, m = 2 - k ∧ k ≤ 2 ∧ σ' = [(0, .slice ad 2 c), (3, .int .i64 n), (9, .slice ad 2 c), (10, .int .i64 2), (11, .int .i64 k)] ∧ I = I' ∧ δ' = [] ∧ n ≤ k * 1000000) 2 [(0, .slice ad 2 c), (3, .int .i64 (0 : Nat)), (9, .slice ad 2 c), (10, .int .i64 2), (11, .int .i64 (0 : Nat))] ⟨0, 0, rfl, by omega, rfl, rfl, rfl, by omega⟩ ⟨rfl, rfl, rfl, rfl, rfl, trivial⟩ ?_
  rintro m _ _ _ ⟨k, n, rfl, hk, rfl, rfl, rfl, hn⟩
  refine code_seq ?_
  refine code_region ?_
  first | refine op_v (v_cmptA rfl rfl rfl) rfl ?_ | refine op_v (v_cmpfA rfl rfl rfl) rfl ?_ | refine op_v (v_cmp rfl rfl rfl) rfl ?_
  refine ops_nil ?_
  refine post_next ?_
  refine code_seq ?_
  refine code_cond rfl (fun hc0 => ?_) (fun hc0 => ?_)
  · have hlt : k < 2 := by have h := hc0; simp at h; omega
    obtain ⟨A, e, L, xs, hat, hcx, hrx, hll, _⟩ := hel k hlt
    refine code_skip ?_
    refine post_next ?_
    refine code_seq ?_
    refine code_block ?_
    refine code_seq ?_
    refine code_region ?_
    first | refine op_v (v_indexA Try.underlying182 sz45 rfl rfl) rfl ?_ | refine op_v (v_indexIA Try.underlying182 sz45 rfl rfl) rfl ?_
    first | refine op_v (v_loadI0 ty45 (hat) rfl rfl rfl) rfl ?_ | refine op_v (v_loadI ty45 (hat) rfl rfl rfl) rfl ?_
    refine op_v (v_assign rfl) rfl ?_
    refine ops_nil ?_
    refine post_next ?_
    refine code_seq ?_
    refine code_region ?_
    refine op_v (v_move rfl) rfl ?_
    refine op_v (v_move rfl) rfl ?_
    refine op_v (v_len Try.underlying45 rfl) rfl ?_
    first | refine op_v (v_addb rfl rfl rfl (by omega)) rfl ?_ | refine op_v (v_add rfl rfl) rfl ?_
    refine op_v (v_assign rfl) rfl ?_
    refine ops_nil ?_
    refine post_next ?_
    refine code_seq ?_
    refine code_region ?_
    refine op_v (v_move rfl) rfl ?_
    refine op_v (v_cmpf rfl rfl rfl (by omega)) rfl ?_
    refine ops_nil ?_
    refine post_next ?_
    refine code_cond_f rfl ?_
    refine code_skip ?_
    refine post_out ?_
    refine post_next ?_
    refine code_region ?_
    first | refine op_v (v_addb rfl rfl rfl (by omega)) rfl ?_ | refine op_v (v_add rfl rfl) rfl ?_
    refine op_v (v_move rfl) rfl ?_
    refine ops_nil ?_
    refine post_again (2 - (k + 1)) [(0, .slice ad 2 c), (3, .int .i64 ((n : Int) + (L.length : Int))), (9, .slice ad 2 c), (10, .int .i64 2), (11, .int .i64 (k + 1 : Nat))] (by omega) ⟨k + 1, n + L.length, rfl, hlt, by rw [show ((n + L.length : Nat) : Int) = (n : Int) + (L.length : Int) from Int.natCast_add _ _], rfl, rfl, by omega⟩ ⟨rfl, rfl, rfl, rfl, rfl, trivial⟩
  · refine code_exit ?_
    refine post_exit_then ?_
    refine post_exit_then ?_
    refine post_exit ?_
    refine post_next ?_
    refine code_seq ?_
    refine code_region ?_
    refine op_v (v_move rfl) rfl ?_
    refine op_call pl165 rfl rfl ((Grow_does (n := n) (by omega))) Parts.none ?_
    rintro v24 I24 _ hI24 ⟨A24, c24, rfl, rfl⟩
    refine op_v (v_assign rfl) rfl ?_
    refine ops_nil ?_
    refine post_next ?_
    refine code_seq ?_
    refine code_seq ?_
    refine code_region ?_
    refine op_v (v_move rfl) rfl ?_
    refine op_v (v_len Try.underlying182 rfl) rfl ?_
    refine op_v (v_move rfl) rfl ?_
    refine ops_nil ?_
    refine post_next ?_
    refine code_block ?_
    refine code_loop (fun m σ' I' δ' => ∃ (k : Nat) (A : Option Addr) (e : Nat) (L : List T) (xs : List Value), m = 2 - k ∧ k ≤ 2 ∧ σ' = [(6, .slice A L.length e), (25, .slice ad 2 c), (26, .int .i64 2), (27, .int .i64 k)] ∧ I.le I' ∧ δ' = [tRow A e L.length xs] ∧ RowT I' xs L ∧ L = (if k = 0 then [] else if k = 1 then a else a ++ b) ∧ L.length ≤ k * 1000000) 2 [(6, .slice A24 0 c24), (25, .slice ad 2 c), (26, .int .i64 2), (27, .int .i64 (0 : Nat))] ⟨0, A24, c24, [], [], rfl, by omega, rfl, hI24, rfl, RowT.nil _, rfl, by simp⟩ ⟨rfl, rfl, rfl, rfl, trivial⟩ ?_
    rintro m _ I0 _ ⟨k, A, e, L, xs, rfl, hk, rfl, hI0, rfl, hx, hL, hll⟩
    refine code_seq ?_
    refine code_region ?_
    first | refine op_v (v_cmptA rfl rfl rfl) rfl ?_ | refine op_v (v_cmpfA rfl rfl rfl) rfl ?_ | refine op_v (v_cmp rfl rfl rfl) rfl ?_
    refine ops_nil ?_
    refine post_next ?_
    refine code_seq ?_
    refine code_cond rfl (fun hc2 => ?_) (fun hc2 => ?_)
    · have hlt : k < 2 := by have h := hc2; simp at h; omega
      obtain ⟨A2, e2, L2, xs2, hat, hcx, hrx, hll2, hq⟩ := hel k hlt
      have hLe : L = (if k = 0 then [] else a) := by rw [hL]; rcases (show k = 0 ∨ k = 1 by omega) with rfl | rfl <;> simp
      have hq2 := hq L hLe
      refine code_skip ?_
      refine post_next ?_
      refine code_seq ?_
      refine code_block ?_
      refine code_seq ?_
      refine code_region ?_
      first | refine op_v (v_indexA Try.underlying182 sz45 rfl rfl) rfl ?_ | refine op_v (v_indexIA Try.underlying182 sz45 rfl rfl) rfl ?_
      first | refine op_v (v_loadI0 ty45 (hat.mono hI0) rfl rfl rfl) rfl ?_ | refine op_v (v_loadI ty45 (hat.mono hI0) rfl rfl rfl) rfl ?_
      refine op_v (v_assign rfl) rfl ?_
      refine ops_nil ?_
      refine post_next ?_
      refine code_region ?_
      refine op_v (v_move rfl) rfl ?_
      refine op_v (v_move rfl) rfl ?_
      refine o_append Try.underlying45 bs47 rfl rfl rfl (fun v' => by repeat (first | exact Swap.here | apply Swap.there)) (Src.ofI (hcx.mono hI0)) hrx.1 hrx.one1 (by omega) (by omega) (fun a33 c33 => ?_)
      have hl3 : L.length + L2.length = (L ++ L2).length := by simp
      refine op_v (v_assign rfl) rfl ?_
      refine ops_nil ?_
      refine post_out ?_
      refine post_next ?_
      refine code_region ?_
      first | refine op_v (v_addb rfl rfl rfl (by omega)) rfl ?_ | refine op_v (v_add rfl rfl) rfl ?_
      refine op_v (v_move rfl) rfl ?_
      refine ops_nil ?_
      refine post_again (2 - (k + 1)) [(6, .slice a33 (L.length + L2.length) c33), (25, .slice ad 2 c), (26, .int .i64 2), (27, .int .i64 (k + 1 : Nat))] (by omega) ⟨k + 1, a33, c33, L ++ L2, xs ++ xs2, rfl, hlt, by rw [hl3], Imm.leA, by simp only [tRow, ← hl3], hx.app (hrx.mono hI0), by rw [hq2]; rcases (show k = 0 ∨ k = 1 by omega) with rfl | rfl <;> simp, by rw [← hl3]; omega⟩ ⟨rfl, rfl, rfl, rfl, trivial⟩
    · refine code_exit ?_
      refine post_exit_then ?_
      refine post_exit_then ?_
      refine post_exit ?_
      refine post_next ?_
      refine code_seq ?_
      refine code_region ?_
      refine OpsJ.freezeRow Del.here ?_
      rintro I35 A35 c35 hI35 hvr hcr hlr hcells35
      cases hvr
      have hk2 : ¬ k < 2 := by have h := hc2; simp at h; omega
      have hLab : L = a ++ b := by rw [hL]; rw [show k = 2 by omega]; rfl
      refine op_v (v_move rfl) rfl ?_
      refine op_v (v_assign rfl) rfl ?_
      refine ops_nil ?_
      refine post_next ?_
      refine code_ret ?_
      refine post_ret (rs := [.tmp 2]) rfl (List.Perm.refl _) (.cons (.tmp rfl) .nil) (List.nil_sublist _) ?_
      exact ⟨by rw [← hLab]; exact RowT.repS rfl hcells35 (hx.mono hI35) hcr (by omega), rfl⟩
theorem Multi_does {I : Imm} {vg va vb : Value} {gs : List Sy} {a b : List T} (hg : RepG I vg gs) (ha : RepS I va a) (hb : RepS I vb b) (hsa : ∀ t ∈ a, t.size ≤ 1000000000) (hsb : ∀ t ∈ b, t.size ≤ 1000000000) (hla : a.length ≤ 1000000) (hlb : b.length ≤ 1000000) :
    Does Try.prog 97 [vg, va, vb] I [] (fun v _ δ' => v = .tuple #[.int .i64 (if wrongG gs (a ++ b) = 0 then mulG gs a b else 0), .int .i64 (wrongG gs (a ++ b))] ∧ δ' = []) := by
  obtain ⟨aa, ac, rfl⟩ := ha.shape
  obtain ⟨ba, bc, rfl⟩ := hb.shape
  have hl1 := rsL_len a b
  have hl2 := rsL_len b a
  refine Does.intro Try.func97 rfl Try.ntmps97 rfl fun w0 => ?_
  refine code_seq ?_
  refine code_region ?_
  refine op_v (v_assign rfl) rfl ?_
  refine op_v (v_assign rfl) rfl ?_
  refine ops_nil ?_
  refine post_next ?_
  refine code_seq ?_
  refine code_seq ?_
  refine code_region ?_
  refine op_v (v_move rfl) rfl ?_
  refine op_v (v_move rfl) rfl ?_
  refine op_v (v_move rfl) rfl ?_
  refine o_buildSlice (xs := [(Go.Operand.tmp 12), (Go.Operand.tmp 13)]) Try.underlying182 bs45 rfl rfl rfl rfl rfl (fun b14 => ?_)
  refine OpsJ.freezeRow Del.here ?_
  rintro I14 a14 c14 hI14 hq hc14 hl14 hcells14
  cases hq
  refine op_call pl137 rfl rfl ((Concat_does hcells14 (ha.mono hI14) (hb.mono hI14) hla hlb)) Parts.none ?_
  rintro v15 I15 _ hI15 ⟨hv15, rfl⟩
  refine op_call pl136 rfl rfl ((wrong_does (hg.mono Imm.leA) hv15 (fun t ht => by rcases List.mem_append.1 ht with h | h; exact hsa t h; exact hsb t h))) Parts.none ?_
  rintro v16 I16 _ hI16 ⟨rfl, rfl⟩
  refine op_v (v_assign rfl) rfl ?_
  refine ops_nil ?_
  refine post_next ?_
  refine code_seq ?_
  refine code_region ?_
  refine op_v (v_move rfl) rfl ?_
  by_cases h18 : wrongG gs (a ++ b) ≠ 0
  · first | refine op_v (v_cmptA rfl rfl rfl) rfl ?_ | refine op_v (v_cmpfA rfl rfl rfl) rfl ?_ | refine op_v (v_cmp rfl rfl rfl) rfl ?_
    refine ops_nil ?_
    refine post_next ?_
    refine code_cond_t rfl ?_
    refine code_seq ?_
    refine code_region ?_
    refine op_v (v_move rfl) rfl ?_
    refine op_v (v_assign rfl) rfl ?_
    refine op_v (v_assign rfl) rfl ?_
    refine ops_nil ?_
    refine post_next ?_
    refine code_ret ?_
    refine post_ret_then ?_
    refine post_ret (rs := [.tmp 6, .tmp 7]) rfl (List.Perm.refl _) (.cons (.tmp rfl) (.cons (.tmp rfl) .nil)) (List.nil_sublist _) ?_
    exact ⟨by rw [if_neg h18]; rfl, rfl⟩
  · have h0 : wrongG gs (a ++ b) = 0 := by omega
    have hall := wrongG_ok.1 h0
    have hoa : ∀ t ∈ a, OkG gs t := fun t ht => hall t (List.mem_append_left _ ht)
    have hob : ∀ t ∈ b, OkG gs t := fun t ht => hall t (List.mem_append_right _ ht)
    first | refine op_v (v_cmptA rfl rfl rfl) rfl ?_ | refine op_v (v_cmpfA rfl rfl rfl) rfl ?_ | refine op_v (v_cmp rfl rfl rfl) rfl ?_
    refine ops_nil ?_
    refine post_next ?_
    refine code_cond_f rfl ?_
    refine code_skip ?_
    refine post_next ?_
    refine code_seq ?_
    refine code_region ?_
    refine op_v (v_move rfl) rfl ?_
    refine op_v (v_move rfl) rfl ?_
    refine op_call pl138 rfl rfl ((rest_does (ha.mono Imm.leA) (hb.mono Imm.leA) hsa hsb hla hlb)) Parts.none ?_
    rintro v22 I22 _ hI22 ⟨hv22, rfl⟩
    obtain ⟨xa, xc, rfl⟩ := hv22.shape
    refine op_v (v_move rfl) rfl ?_
    refine op_v (v_move rfl) rfl ?_
    refine op_call pl138 rfl rfl ((rest_does (hb.mono Imm.leA) (ha.mono Imm.leA) hsb hsa hlb hla)) Parts.none ?_
    rintro v25 I25 _ hI25 ⟨hv25, rfl⟩
    obtain ⟨ya, yc, rfl⟩ := hv25.shape
    refine op_v (v_assign rfl) rfl ?_
    refine op_v (v_assign rfl) rfl ?_
    refine ops_nil ?_
    refine post_next ?_
    refine code_seq ?_
    refine code_block ?_
    refine code_seq ?_
    refine code_region ?_
    refine op_v (v_move rfl) rfl ?_
    refine op_v (v_len Try.underlying45 rfl) rfl ?_
    refine op_v (v_move rfl) rfl ?_
    refine op_v (v_len Try.underlying45 rfl) rfl ?_
    first | refine op_v (v_addb rfl rfl rfl (by omega)) rfl ?_ | refine op_v (v_add rfl rfl) rfl ?_
    by_cases h32 : (rsL a b).length + (rsL b a).length = 0
    · first | refine op_v (v_cmptA rfl rfl rfl) rfl ?_ | refine op_v (v_cmpfA rfl rfl rfl) rfl ?_ | refine op_v (v_cmp rfl rfl rfl) rfl ?_
      refine op_v (v_assign rfl) rfl ?_
      refine ops_nil ?_
      refine post_next ?_
      refine code_cond_t rfl ?_
      refine code_seq ?_
      refine code_region ?_
      refine op_v (v_assign rfl) rfl ?_
      refine op_v (v_assign rfl) rfl ?_
      refine ops_nil ?_
      refine post_next ?_
      refine code_ret ?_
      refine post_ret_block ?_
      refine post_ret_then ?_
      refine post_ret (rs := [.tmp 6, .tmp 7]) rfl (List.Perm.refl _) (.cons (.tmp rfl) (.cons (.tmp rfl) .nil)) (List.nil_sublist _) ?_
      exact ⟨by rw [if_pos h0, h0]; simp only [outV, mulG]; rw [if_pos h32], rfl⟩
    · first | refine op_v (v_cmptA rfl rfl rfl) rfl ?_ | refine op_v (v_cmpfA rfl rfl rfl) rfl ?_ | refine op_v (v_cmp rfl rfl rfl) rfl ?_
      refine op_v (v_assign rfl) rfl ?_
      refine ops_nil ?_
      refine post_next ?_
      refine code_cond_f rfl ?_
      refine code_seq ?_
      refine code_region ?_
      refine op_v (v_move rfl) rfl ?_
      refine op_v (v_move rfl) rfl ?_
      refine op_v (v_move rfl) rfl ?_
      refine op_call pl139 rfl rfl ((over_does (hg.mono Imm.leA) (hv22.mono Imm.leA) (hv25.mono Imm.leA) (fun t ht => hoa t (rsL_mem ht)) (fun t ht => hob t (rsL_mem ht)))) Parts.none ?_
      rintro v37 I37 _ hI37 ⟨rfl, rfl⟩
      refine op_v (v_assign rfl) rfl ?_
      refine ops_nil ?_
      refine post_next ?_
      refine code_cond rfl (fun hc2 => ?_) (fun hc2 => ?_)
      · have h37 : overL gs (rsL a b) (rsL b a) = true := hc2
        refine code_seq ?_
        refine code_region ?_
        refine op_v (v_assign rfl) rfl ?_
        refine op_v (v_assign rfl) rfl ?_
        refine ops_nil ?_
        refine post_next ?_
        refine code_ret ?_
        refine post_ret_block ?_
        refine post_ret_then ?_
        refine post_ret (rs := [.tmp 6, .tmp 7]) rfl (List.Perm.refl _) (.cons (.tmp rfl) (.cons (.tmp rfl) .nil)) (List.nil_sublist _) ?_
        exact ⟨by rw [if_pos h0, h0]; simp only [outV, mulG]; rw [if_neg h32, if_pos h37], rfl⟩
      · have h37 : ¬ overL gs (rsL a b) (rsL b a) = true := by rw [hc2]; simp
        refine code_seq ?_
        refine code_region ?_
        refine op_v (v_move rfl) rfl ?_
        refine op_v (v_move rfl) rfl ?_
        refine op_v (v_move rfl) rfl ?_
        refine op_call pl139 rfl rfl ((over_does (hg.mono Imm.leA) (hv25.mono Imm.leA) (hv22.mono Imm.leA) (fun t ht => hob t (rsL_mem ht)) (fun t ht => hoa t (rsL_mem ht)))) Parts.none ?_
        rintro v42 I42 _ hI42 ⟨rfl, rfl⟩
        refine op_v (v_assign rfl) rfl ?_
        refine ops_nil ?_
        refine post_next ?_
        refine code_cond rfl (fun hc3 => ?_) (fun hc3 => ?_)
        · have h42 : overL gs (rsL b a) (rsL a b) = true := hc3
          refine code_seq ?_
          refine code_region ?_
          refine op_v (v_assign rfl) rfl ?_
          refine op_v (v_assign rfl) rfl ?_
          refine ops_nil ?_
          refine post_next ?_
          refine code_ret ?_
          refine post_ret_block ?_
          refine post_ret_then ?_
          refine post_ret (rs := [.tmp 6, .tmp 7]) rfl (List.Perm.refl _) (.cons (.tmp rfl) (.cons (.tmp rfl) .nil)) (List.nil_sublist _) ?_
          exact ⟨by rw [if_pos h0, h0]; simp only [outV, mulG]; rw [if_neg h32, if_neg h37, if_pos h42], rfl⟩
        · have h42 : ¬ overL gs (rsL b a) (rsL a b) = true := by rw [hc3]; simp
          refine code_skip ?_
          refine post_out ?_
          refine post_next ?_
          refine code_seq ?_
          refine code_region ?_
          refine op_v (v_assign rfl) rfl ?_
          refine op_v (v_assign rfl) rfl ?_
          refine ops_nil ?_
          refine post_next ?_
          refine code_ret ?_
          refine post_ret (rs := [.tmp 6, .tmp 7]) rfl (List.Perm.refl _) (.cons (.tmp rfl) (.cons (.tmp rfl) .nil)) (List.nil_sublist _) ?_
          exact ⟨by rw [if_pos h0, h0]; simp only [outV, mulG]; rw [if_neg h32, if_neg h37, if_neg h42], rfl⟩
end Go.Proofs.Ytdbadicpbmndbaa
/- The rules of the logic: pointers against nil, division, entries that are taken out of a map. No condition. -/
set_option linter.unusedVariables false
set_option linter.unusedSimpArgs false
namespace Go.Proofs.Ytdbadicpbmndbaa.Lg
open Go Go.RowKit

variable {C : Ctx} {Q : Exit → Act → World → Prop} {σ : Env} {ds : List Nat} {I : Imm} {δ : List Ent} {ops : Array Oper} {rest : List Oper}
variable {d : Nat} {ty : TypeId} {pos : String} {after : Array Edge}

/-! ### acts that leave all that some floats of a region look at -/
end Go.Proofs.Ytdbadicpbmndbaa.Lg
/- Rows of things of one kind, in memory. Plain definitions and theorems; no condition. -/
set_option linter.unusedVariables false
set_option linter.unusedSimpArgs false
namespace Go.Proofs.Ytdbadicpbmndbaa
open Go Lg

/-- how one thing lies in so many cells -/
structure Elt (n : Nat) (α : Type) where
  R : Imm → α → List Value → Prop
  len : ∀ {I : Imm} {a : α} {vs : List Value}, R I a vs → vs.length = n
  one : ∀ {I : Imm} {a : α} {vs : List Value}, R I a vs → ∀ u ∈ vs, u.oneCell' = true
  mono : ∀ {I J : Imm} {a : α} {vs : List Value}, I.le J → R I a vs → R J a vs
section
variable {n : Nat} {α : Type} {E : Elt n α} {I J : Imm}
def RowE (E : Elt n α) (I : Imm) : List Value → List α → Prop
  | xs, [] => xs = []
  | xs, a :: al => ∃ vs ys, xs = vs ++ ys ∧ E.R I a vs ∧ RowE E I ys al
theorem RowE.nil : RowE E I [] [] := rfl
theorem RowE.length : ∀ {al : List α} {xs : List Value}, RowE E I xs al → xs.length = al.length * n
  | [], xs, h => by have : xs = [] := h; simp [this]
  | a :: al, xs, h => by
    obtain ⟨vs, ys, rfl, h1, h2⟩ := h
    have := E.len h1
    have := RowE.length h2
    rw [List.length_append, List.length_cons, Nat.succ_mul]; omega
theorem RowE.one1 : ∀ {al : List α} {xs : List Value}, RowE E I xs al → ∀ u ∈ xs, u.oneCell' = true
  | [], xs, h => by have : xs = [] := h; simp [this]
  | a :: al, xs, h => by
    obtain ⟨vs, ys, rfl, h1, h2⟩ := h
    intro u hu
    rcases List.mem_append.1 hu with q | q
    · exact E.one h1 u q
    · exact RowE.one1 h2 u q
theorem RowE.mono : ∀ {al : List α} {xs : List Value}, RowE E I xs al → I.le J → RowE E J xs al
  | [], xs, h, _ => h
  | a :: al, xs, h, hl => by
    obtain ⟨vs, ys, rfl, h1, h2⟩ := h
    exact ⟨vs, ys, rfl, E.mono hl h1, RowE.mono h2 hl⟩
theorem RowE.app : ∀ {al bs : List α} {xs ys : List Value}, RowE E I xs al → RowE E I ys bs → RowE E I (xs ++ ys) (al ++ bs)
  | [], bs, xs, ys, h, k => by have : xs = [] := h; subst this; exact k
  | a :: al, bs, xs, ys, h, k => by
    obtain ⟨vs, zs, rfl, h1, h2⟩ := h
    exact ⟨vs, zs ++ ys, by simp, h1, RowE.app h2 k⟩
theorem RowE.single {a : α} {vs : List Value} (h : E.R I a vs) : RowE E I vs [a] := ⟨vs, [], by simp, h, rfl⟩
theorem RowE.split : ∀ {al : List α} {xs : List Value} {i : Nat}, RowE E I xs al → (hi : i < al.length) → ∃ pre vs suf, xs = pre ++ (vs ++ suf) ∧ pre.length = i * n ∧ RowE E I pre (al.take i) ∧ E.R I al[i] vs ∧ RowE E I suf (al.drop (i + 1))
  | [], xs, i, h, hi => by simp at hi
  | a :: al, xs, 0, h, hi => by
    obtain ⟨vs, ys, rfl, h1, h2⟩ := h
    exact ⟨[], vs, ys, rfl, by simp, rfl, h1, h2⟩
  | a :: al, xs, i + 1, h, hi => by
    obtain ⟨vs, ys, rfl, h1, h2⟩ := h
    obtain ⟨pre, ws, suf, rfl, hl, k1, k2, k3⟩ := RowE.split (i := i) h2 (by simpa using hi)
    refine ⟨vs ++ pre, ws, suf, by simp, ?_, ⟨vs, pre, rfl, h1, k1⟩, k2, k3⟩
    rw [List.length_append, E.len h1, hl, Nat.succ_mul]; omega
theorem RowE.at {al : List α} {xs : List Value} {i : Nat} (h : RowE E I xs al) (hi : i < al.length) : ∃ vs, E.R I al[i] vs ∧ (∀ j v, vs[j]? = some v → xs[i * n + j]? = some v) ∧ ∃ r, xs.drop (i * n) = vs ++ r := by
  obtain ⟨pre, vs, suf, rfl, hl, _, h2, _⟩ := h.split hi
  refine ⟨vs, h2, fun j v hj => ?_, suf, by rw [← hl, List.drop_left]⟩
  have hlt := (List.getElem?_eq_some_iff.1 hj).1
  rw [List.getElem?_append_right (by omega), ← hl, Nat.add_sub_cancel_left, List.getElem?_append_left hlt]; exact hj
theorem RowE.cellsAt {al : List α} {xs : List Value} {ad : Option Addr} {i : Nat} (h : RowE E I xs al) (hc : Cells J ad xs) (hi : i < al.length) : ∃ vs, E.R I al[i] vs ∧ At J ad (i * n) vs := by
  obtain ⟨vs, h1, h2, _⟩ := h.at hi
  exact ⟨vs, h1, hc.at _ h2⟩
theorem RowE.take {al : List α} {xs : List Value} (h : RowE E I xs al) (k : Nat) (hk : k ≤ al.length) : RowE E I (xs.take (k * n)) (al.take k) := by
  rcases Nat.lt_or_ge k al.length with q | q
  · obtain ⟨pre, vs, suf, rfl, hl, h1, _, _⟩ := h.split q
    rw [← hl, List.take_left]; exact h1
  · have hx := h.length
    rw [List.take_of_length_le (by rw [hx]; exact Nat.mul_le_mul_right _ q), List.take_of_length_le q]; exact h
theorem RowE.drop : ∀ {al : List α} {xs : List Value} (k : Nat), RowE E I xs al → k ≤ al.length → RowE E I (xs.drop (k * n)) (al.drop k)
  | al, xs, 0, h, _ => by simpa using h
  | [], xs, k + 1, h, hk => by simp at hk
  | a :: al, xs, k + 1, h, hk => by
    obtain ⟨vs, ys, rfl, h1, h2⟩ := h
    have := RowE.drop k h2 (by simpa using hk)
    have e : (vs ++ ys).drop ((k + 1) * n) = ys.drop (k * n) := by
      rw [Nat.succ_mul, Nat.add_comm, ← E.len h1, ← List.drop_drop, List.drop_left]
    rw [e]; exact this
end
theorem stL_mid : ∀ (pre vs suf us ws : List Value) (k : Nat), Lg.stL vs k us = some ws → Lg.stL (pre ++ (vs ++ suf)) (pre.length + k) us = some (pre ++ (ws ++ suf))
  | p :: pre, vs, suf, us, ws, k, h => by
    have ih := stL_mid pre vs suf us ws k h
    show Lg.stL (p :: (pre ++ (vs ++ suf))) (pre.length + 1 + k) us = _
    rw [show pre.length + 1 + k = pre.length + k + 1 by omega]
    cases us with
    | nil =>
      have e1 : Lg.stL (p :: (pre ++ (vs ++ suf))) (pre.length + k + 1) [] = some (p :: (pre ++ (vs ++ suf))) := by simp [Lg.stL]
      have e2 : Lg.stL (pre ++ (vs ++ suf)) (pre.length + k) [] = some (pre ++ (vs ++ suf)) := by simp [Lg.stL]
      rw [e2] at ih
      rw [e1]
      simp only [Option.some.injEq] at ih
      rw [List.cons_append, ← ih]
    | cons u us =>
      simp only [Lg.stL, ih, Option.map_some, List.cons_append]
  | [], vs, suf, us, ws, k, h => by
    simp only [List.nil_append, List.length_nil, Nat.zero_add]
    induction vs generalizing us ws k with
    | nil =>
      cases us with
      | nil => simp [Lg.stL] at h; subst h; simp [Lg.stL]
      | cons u us => simp [Lg.stL] at h
    | cons v vs ih =>
      cases us with
      | nil => simp [Lg.stL] at h; subst h; simp [Lg.stL]
      | cons u us =>
        cases k with
        | zero =>
          simp only [Lg.stL, Option.map_eq_some_iff] at h
          obtain ⟨q, hq, rfl⟩ := h
          simp only [List.cons_append, Lg.stL, ih _ _ _ hq, Option.map_some]
        | succ k =>
          simp only [Lg.stL, Option.map_eq_some_iff] at h
          obtain ⟨q, hq, rfl⟩ := h
          simp only [List.cons_append, Lg.stL, ih _ _ _ hq, Option.map_some]
section
variable {n : Nat} {α : Type} {E : Elt n α} {I J : Imm}
/-- a thing is changed where it stands -/
theorem RowE.store {al : List α} {xs : List Value} {i : Nat} {b : α} (h : RowE E I xs al) (hi : i < al.length) : ∃ vs, E.R I al[i] vs ∧ (∃ r, xs.drop (i * n) = vs ++ r) ∧ ∀ k us ws, Lg.stL vs k us = some ws → E.R I b ws → ∃ ys, Lg.stL xs (i * n + k) us = some ys ∧ RowE E I ys (al.set i b) := by
  obtain ⟨pre, vs, suf, rfl, hl, h1, h2, h3⟩ := h.split hi
  refine ⟨vs, h2, ⟨suf, by rw [← hl, List.drop_left]⟩, fun k us ws hs hb => ⟨pre ++ (ws ++ suf), by rw [← hl]; exact stL_mid _ _ _ _ _ _ hs, ?_⟩⟩
  have e : al.set i b = al.take i ++ (b :: al.drop (i + 1)) := by rw [List.set_eq_take_append_cons_drop]; simp [hi]
  rw [e]
  exact h1.app ⟨ws, suf, rfl, hb, h3⟩
/-- a row that is only read -/
def RepE (E : Elt n α) (I : Imm) (v : Value) (al : List α) : Prop := ∃ (ad : Option Addr) (c : Nat) (xs : List Value), v = .slice ad al.length c ∧ al.length ≤ c ∧ al.length ≤ 1954687338211 ∧ Cells I ad xs ∧ RowE E I xs al
theorem RepE.mono {v : Value} {al : List α} (h : RepE E I v al) (hl : I.le J) : RepE E J v al := by
  obtain ⟨ad, c, xs, rfl, h1, h2, h3, h4⟩ := h
  exact ⟨ad, c, xs, rfl, h1, h2, h3.mono hl, h4.mono hl⟩
theorem RepE.nil : RepE E I (.slice none 0 0) [] := ⟨none, 0, [], rfl, Nat.le_refl _, by simp, fun j v hj => by simp at hj, rfl⟩
theorem RepE.small {v : Value} {al : List α} (h : RepE E I v al) : al.length ≤ 1954687338211 := by obtain ⟨_, _, _, _, _, h2, _⟩ := h; exact h2
end
theorem Lg.Cells.take {I : Imm} {A : Option Addr} {vs : List Value} (h : Cells I A vs) (n : Nat) : Cells I A (vs.take n) := fun j v hj => h j v (by
  rw [List.getElem?_take] at hj
  by_cases q : j < n
  · rwa [if_pos q] at hj
  · rw [if_neg q] at hj; cases hj)
theorem Lg.Cells.cut {I : Imm} {A : Option Addr} {c m size : Nat} {vs : List Value} (h : Cells I A vs) (hl : vs.length ≤ c * size) : Cells I (cutAt A c m size) (vs.drop (m * size)) := fun j v hj => by
  rw [List.getElem?_drop] at hj
  unfold cutAt
  by_cases e : c = m
  · exfalso
    have := (List.getElem?_eq_some_iff.1 hj).1
    subst e; omega
  · rw [if_neg e]
    have := h _ _ hj
    cases A with
    | none => simp [Imm.cellO] at this
    | some a => simpa [add_add] using this
section
variable {n : Nat} {α : Type} {E : Elt n α} {I J : Imm}
end
theorem RepE.shape {n : Nat} {α : Type} {E : Elt n α} {I : Imm} {v : Value} {al : List α} (h : RepE E I v al) : ∃ ad c, v = .slice ad al.length c := by obtain ⟨ad, c, _, h, _⟩ := h; exact ⟨ad, c, h⟩
end Go.Proofs.Ytdbadicpbmndbaa
/- Literals and clauses: how they lie in memory. Plain definitions and theorems; no condition. -/
set_option linter.unusedVariables false
set_option linter.unusedSimpArgs false
namespace Go.Proofs.Ytdbadicpbmndbaa
open Go Lg

structure Li where
  neg : Bool
  l : T
  r : T
abbrev liC (x : Li) (la : Option Addr) (lc : Nat) (ra : Option Addr) (rc : Nat) : List Value := [.bool x.neg, .int .i64 x.l.head, .slice la x.l.args.length lc, .int .i64 x.r.head, .slice ra x.r.args.length rc]
/-- a literal that is only read -/
def RepL (I : Imm) (v : Value) (x : Li) : Prop := ∃ (la : Option Addr) (lc : Nat) (ra : Option Addr) (rc : Nat), v = .agg #[.bool x.neg, .int .i64 x.l.head, .slice la x.l.args.length lc, .int .i64 x.r.head, .slice ra x.r.args.length rc] ∧ RepT I (.agg #[.int .i64 x.l.head, .slice la x.l.args.length lc]) x.l ∧ RepT I (.agg #[.int .i64 x.r.head, .slice ra x.r.args.length rc]) x.r
theorem RepL.mono {I J : Imm} {v : Value} {x : Li} (h : RepL I v x) (hl : I.le J) : RepL J v x := by
  obtain ⟨la, lc, ra, rc, h1, h2, h3⟩ := h; exact ⟨la, lc, ra, rc, h1, h2.mono hl, h3.mono hl⟩
def zeroLi : Li := ⟨false, zeroT, zeroT⟩
def eqL (x y : Li) : Bool := (decide (x.l = y.l) && decide (x.r = y.r)) || (decide (x.l = y.r) && decide (x.r = y.l))
def sameL (x y : Li) : Bool := (x.neg == y.neg) && eqL x y
def rowL (x : Li) : List T := if x.neg = true then [x.l, x.l, x.r, x.r] else [x.l, x.r]
instance : DecidableEq Li := fun a b => if h : a.neg = b.neg ∧ a.l = b.l ∧ a.r = b.r then .isTrue (by obtain ⟨h1, h2, h3⟩ := h; cases a; cases b; simp_all) else .isFalse fun e => h (by subst e; exact ⟨rfl, rfl, rfl⟩)
def LitE : Elt 5 Li where
  R := fun I x vs => ∃ (la : Option Addr) (lc : Nat) (ra : Option Addr) (rc : Nat), vs = liC x la lc ra rc ∧ RepT I (.agg #[.int .i64 x.l.head, .slice la x.l.args.length lc]) x.l ∧ RepT I (.agg #[.int .i64 x.r.head, .slice ra x.r.args.length rc]) x.r
  len := by rintro I a vs ⟨la, lc, ra, rc, rfl, _, _⟩; rfl
  one := by
    rintro I a vs ⟨la, lc, ra, rc, rfl, _, _⟩ u hu
    simp only [List.mem_cons, List.not_mem_nil, or_false] at hu
    rcases hu with rfl | rfl | rfl | rfl | rfl <;> rfl
  mono := by rintro I J a vs hl ⟨la, lc, ra, rc, rfl, h1, h2⟩; exact ⟨la, lc, ra, rc, rfl, h1.mono hl, h2.mono hl⟩
abbrev RepC (I : Imm) (v : Value) (c : List Li) : Prop := RepE LitE I v c
theorem RepL.row {I : Imm} {v : Value} {x : Li} (h : RepL I v x) : ∃ vs, v = .agg vs.toArray ∧ LitE.R I x vs := by
  obtain ⟨la, lc, ra, rc, rfl, h1, h2⟩ := h
  exact ⟨_, rfl, la, lc, ra, rc, rfl, h1, h2⟩
/-- all sides -/
def sidesL (c : List Li) : List T := c.flatMap fun x => [x.l, x.r]
def TermE : Elt 2 T where
  R := fun I t vs => ∃ (a : Option Addr) (c : Nat), vs = [.int .i64 t.head, .slice a t.args.length c] ∧ RepT I (.agg #[.int .i64 t.head, .slice a t.args.length c]) t
  len := by rintro I a vs ⟨la, lc, rfl, _⟩; rfl
  one := by
    rintro I a vs ⟨la, lc, rfl, _⟩ u hu
    simp only [List.mem_cons, List.not_mem_nil, or_false] at hu
    rcases hu with rfl | rfl <;> rfl
  mono := by rintro I J a vs hl ⟨la, lc, rfl, h1⟩; exact ⟨la, lc, rfl, h1.mono hl⟩
theorem RowE.rowT {I : Imm} {xs : List Value} {ts : List T} (h : RowE TermE I xs ts) : RowT I xs ts := by
  refine ⟨h.length, fun i hi => ?_⟩
  obtain ⟨vs, ⟨a, c, rfl, hr⟩, hat, _⟩ := h.at hi
  exact ⟨(a, c), hat 0 _ rfl, hat 1 _ rfl, hr⟩
theorem RowE.repS {I : Imm} {ad : Option Addr} {c : Nat} {xs : List Value} {ts : List T} (h : RowE TermE I xs ts) (hc : Cells I ad xs) (hle : ts.length ≤ c) (hb : ts.length ≤ 4398046511104) : RepS I (.slice ad ts.length c) ts := by
  have := RowT.rep (h := 0) hc h.rowT (by unfold InR; omega) hle hb
  have key : ∀ (v : Value) (t : T) (s : Value), RepT I v t → v = .agg #[.int .i64 t.head, s] → RepS I s t.args := fun v t s hv e => by
    obtain ⟨s', t, hr, hs⟩ := hv
    have e' : s' = s := by simpa using e
    subst e'; exact hs
  exact key _ _ _ this rfl
end Go.Proofs.Ytdbadicpbmndbaa
/- The rules of the logic: arrays as values. No condition. -/
set_option linter.unusedVariables false
set_option linter.unusedSimpArgs false
namespace Go.Proofs.Ytdbadicpbmndbaa.Lg
open Go Go.RowKit

variable {C : Ctx} {Q : Exit → Act → World → Prop} {σ : Env} {ds : List Nat} {I : Imm} {δ : List Ent} {ops : Array Oper} {rest : List Oper}
variable {d : Nat} {ty : TypeId} {pos : String} {after : Array Edge}

/-- an array out of its parts; what the instruction yields is computed -/
theorem v_buildK {t : TypeId} {parts : List (Nat × Operand)} {vs : List (Nat × Value)} {v : Value} (hx : evP σ parts = some vs) (h : ∀ w, (Instr.build t vs.toArray).run C.P w = .ok v w) :
    ValJ C σ ds I δ (.build t parts.toArray) v :=
  fun _ _ _ _ _ a w he _ => by
    have hmap : parts.toArray.map (fun (x : Nat × Operand) => match x with | (i, x) => (i, a.eval x)) = vs.toArray := by
      rw [← evP_ok he hx]; simp
    simp only [execOp, hmap, Sem.run_bind, h, Result.andThen]; rfl
end Go.Proofs.Ytdbadicpbmndbaa.Lg
/- Walks: rows of literals: a clone, all sides, whether they are few. -/
set_option linter.unusedVariables false
set_option linter.unusedSimpArgs false
set_option linter.unnecessarySimpa false
/- short -/
namespace Go.Proofs.Ytdbadicpbmndbaa
open Go Lg

theorem sidesL_len (c : List Li) : (sidesL c).length = 2 * c.length := by
  induction c with
  | nil => rfl
  | cons x r ih => simp only [sidesL, List.flatMap_cons, List.length_append, List.length_cons, List.length_nil] at ih ⊢; omega
theorem sidesL_take (c : List Li) (k : Nat) (h : k < c.length) : sidesL (c.take (k + 1)) = sidesL (c.take k) ++ [c[k].l, c[k].r] := by
  rw [List.take_succ_eq_append_getElem h]; simp only [sidesL, List.flatMap_append, List.flatMap_cons, List.flatMap_nil, List.append_nil]
theorem Terms_does {I : Imm} {v : Value} {c : List Li} (hv : RepC I v c) :
    Does Try.prog 39 [v] I [] (fun v I' δ' => RepS I' v (sidesL c) ∧ δ' = []) := by
  obtain ⟨ad, c0, xs, rfl, hc, hb, hcells, hrow⟩ := hv
  refine Does.intro Try.func39 rfl Try.ntmps39 rfl fun w0 => ?_
  refine code_seq ?_
  refine code_region ?_
  refine op_v (v_assign rfl) rfl ?_
  refine ops_nil ?_
  refine post_next ?_
  refine code_seq ?_
  refine code_region ?_
  refine op_v (v_assign rfl) rfl ?_
  refine ops_nil ?_
  refine post_next ?_
  refine code_seq ?_
  refine code_seq ?_
  refine code_region ?_
  refine op_v (v_assign rfl) rfl ?_
  refine ops_nil ?_
  refine post_next ?_
  refine code_block ?_
  refine CodeJ.view (View.nilRow 47 2) ?_
  refine code_loop (fun m σ' I' δ' => ∃ (k : Nat) (A : Option Addr) (c' : Nat) (ys : List Value), m = c.length - k ∧ k ≤ c.length ∧ σ' = [(0, .slice ad c.length c0), (3, .slice A (2 * k) c'), (4, .int .i64 k)] ∧ I = I' ∧ δ' = [.row (.slice A (2 * k) c') 47 2 (2 * k) ys] ∧ RowE TermE I ys (sidesL (c.take k))) c.length [(0, .slice ad c.length c0), (3, .slice none (2 * 0) 0), (4, .int .i64 (0 : Nat))] ⟨0, none, 0, [], rfl, Nat.zero_le _, rfl, rfl, rfl, rfl⟩ ⟨rfl, rfl, rfl, trivial⟩ ?_
  rintro m _ _ _ ⟨k, A, c', ys, rfl, hk, rfl, rfl, rfl, hys⟩
  refine code_seq ?_
  refine code_seq ?_
  refine code_region ?_
  refine op_v (v_move rfl) rfl ?_
  refine op_v (v_move rfl) rfl ?_
  refine op_v (v_len Try.underlying26 rfl) rfl ?_
  first | refine op_v (v_cmptA rfl rfl rfl) rfl ?_ | refine op_v (v_cmpfA rfl rfl rfl) rfl ?_ | refine op_v (v_cmp rfl rfl rfl) rfl ?_
  refine ops_nil ?_
  refine post_next ?_
  refine code_cond rfl (fun hc0 => ?_) (fun hc0 => ?_)
  · have hlt : k < c.length := by simpa using hc0
    obtain ⟨vs, ⟨la, lc, ra, rc, rfl, hl, hr⟩, hat⟩ := hrow.cellsAt hcells hlt
    have hs1 := hat.isSome
    refine code_skip ?_
    refine post_next ?_
    refine code_seq ?_
    refine code_block ?_
    refine code_draw (.fl 0 (.fl 1 (.fl 2 (.fl 3 (.fl 4 (.fl 5 (.fl 6 (.fl 7 (.fl 8 (.fl 9 (.fl 10 (.ef 11 (.ef 12 (.ef 13 .done)))))))))))))) (fun _ => ([] : List Ent)) mixed (by kernel_rfl) (by kernel_rfl) (fun _ => (List.nil_sublist _)) ?_
    refine e_fl rfl rfl (fun hs_ => PF.mk rfl (v_move rfl) hs_) ?_
    refine e_fl rfl rfl (fun hs_ => PF.mk rfl (v_move rfl) hs_) ?_
    refine e_fl rfl rfl (fun hs_ => PF.mk rfl (v_move rfl) hs_) ?_
    first | refine e_fl rfl rfl (fun hs_ => PF.mk rfl (v_indexA Try.underlying26 sz49 rfl rfl) hs_) ?_ | refine e_fl rfl rfl (fun hs_ => PF.mk rfl (v_indexIA Try.underlying26 sz49 rfl rfl) hs_) ?_
    first | refine e_fl rfl rfl (fun hs_ => PF.mk rfl (v_fieldB 1 Try.underlying49 rfl rfl fz47 rfl) hs_) ?_ | refine e_fl rfl rfl (fun hs_ => PF.mk rfl (v_fieldI 1 Try.underlying49 rfl rfl fz47 rfl (by assumption)) hs_) ?_ | refine e_fl rfl rfl (fun hs_ => PF.mk rfl (v_field Try.underlying49 rfl fz47 rfl rfl) hs_) ?_
    refine e_fl rfl rfl (fun hs_ => PF.mk rfl (v_loadI (k := 1) ty47 hat rfl rfl rfl) hs_) ?_
    refine e_fl rfl rfl (fun hs_ => PF.mk rfl (v_move rfl) hs_) ?_
    refine e_fl rfl rfl (fun hs_ => PF.mk rfl (v_move rfl) hs_) ?_
    first | refine e_fl rfl rfl (fun hs_ => PF.mk rfl (v_indexA Try.underlying26 sz49 rfl rfl) hs_) ?_ | refine e_fl rfl rfl (fun hs_ => PF.mk rfl (v_indexIA Try.underlying26 sz49 rfl rfl) hs_) ?_
    first | refine e_fl rfl rfl (fun hs_ => PF.mk rfl (v_fieldB 3 Try.underlying49 rfl rfl fz47 rfl) hs_) ?_ | refine e_fl rfl rfl (fun hs_ => PF.mk rfl (v_fieldI 3 Try.underlying49 rfl rfl fz47 rfl (by assumption)) hs_) ?_ | refine e_fl rfl rfl (fun hs_ => PF.mk rfl (v_field Try.underlying49 rfl fz47 rfl rfl) hs_) ?_
    refine e_fl rfl rfl (fun hs_ => PF.mk rfl (v_loadI (k := 3) ty47 hat rfl rfl rfl) hs_) ?_
    refine e_eff rfl (by intro cs b hc; cases hc) (by intro c hc; cases hc) ?_
    refine o_buildSlice (xs := [(Go.Operand.tmp 16), (Go.Operand.tmp 21)]) Try.underlying45 bs47 rfl rfl rfl rfl rfl (fun b22 => ?_)
    refine ops_nil ?_
    refine e_next rfl side_allA ?_
    refine e_eff rfl (by intro cs b hc; cases hc) (by intro c hc; cases hc) ?_
    refine o_append Try.underlying45 bs47 rfl rfl rfl (fun v' => by repeat (first | exact Swap.here | apply Swap.there)) (Src.ofRow (by repeat (first | exact Has.here | apply Has.there)) rfl) (by first | rfl | omega | simp) (by simp [cat, cellsL, Value.oneCell']) (by omega) (by omega) (fun a23 c23 => ?_)
    refine ops_nil ?_
    refine e_next rfl side_allA ?_
    refine e_eff rfl (by intro cs b hc; cases hc) (by intro c hc; cases hc) ?_
    refine op_v (v_assign rfl) rfl ?_
    refine ops_nil ?_
    refine e_next rfl (side_nil (by kernel_rfl)) ?_
    refine e_done ?_
    refine post_out ?_
    refine post_next ?_
    refine code_region ?_
    refine op_v (v_move rfl) rfl ?_
    first | refine op_v (v_addb rfl rfl rfl (by omega)) rfl ?_ | refine op_v (v_add rfl rfl) rfl ?_
    refine op_v (v_assign rfl) rfl ?_
    refine ops_nil ?_
    refine PostJ.view (View.drop Del.here) ?_
    refine post_again (c.length - (k + 1)) [(0, .slice ad c.length c0), (3, .slice a23 (2 * (k + 1)) c23), (4, .int .i64 (k + 1 : Nat))] (by omega) ⟨k + 1, a23, c23, ys ++ [.int .i64 c[k].l.head, .slice la c[k].l.args.length lc, .int .i64 c[k].r.head, .slice ra c[k].r.args.length rc], rfl, hlt, rfl, rfl, ?_, ?_⟩ ⟨rfl, rfl, rfl, trivial⟩
    · simp [cat, cellsL]; omega
    · rw [sidesL_take c k hlt]
      exact hys.app ⟨[.int .i64 c[k].l.head, .slice la c[k].l.args.length lc], [.int .i64 c[k].r.head, .slice ra c[k].r.args.length rc], rfl, ⟨la, lc, rfl, hl⟩, RowE.single ⟨ra, rc, rfl, hr⟩⟩
  · have hge : k = c.length := by simp at hc0; omega
    subst hge
    rw [List.take_length] at hys
    refine code_exit ?_
    refine post_exit_then ?_
    refine post_exit_then ?_
    refine post_exit ?_
    refine post_next ?_
    refine code_seq ?_
    refine code_region ?_
    refine OpsJ.freezeRow Del.here ?_
    rintro I24 a24 c24 hI24 hq hc24 hl24 hcells24
    cases hq
    refine op_v (v_move rfl) rfl ?_
    refine op_v (v_assign rfl) rfl ?_
    refine ops_nil ?_
    refine post_next ?_
    refine code_ret ?_
    refine post_ret (rs := [.tmp 2]) rfl (List.Perm.refl _) (.cons (.tmp rfl) .nil) (List.nil_sublist _) ?_
    refine ⟨?_, rfl⟩
    have h2 := sidesL_len c
    have := RowE.repS (c := c') (hys.mono hI24) hcells24 (by omega) (by omega)
    rw [h2] at this; exact this
theorem sizeL_getL {ts : List T} {n : Nat} (h : sizeL ts ≤ n) : ∀ x ∈ ts, x.size ≤ n := by
  intro x hx
  obtain ⟨i, hi, rfl⟩ := List.getElem_of_mem hx
  have h1 := sizeL_take ts i hi
  have h2 : sizeL (ts.take (i + 1)) + sizeL (ts.drop (i + 1)) = sizeL ts := by rw [← sizeL_app, List.take_append_drop]
  omega
theorem Few5_does {I : Imm} {v : Value} {ts : List T} (hv : RepS I v ts) :
    Does Try.prog 73 [v] I [] (fun v I' δ' => (∃ b, v = .bool b ∧ (b = true → sizeL ts ≤ 500)) ∧ δ' = []) := by
  obtain ⟨ad, c, ss, ts, hc, hb, hat, hr, hsub0⟩ := hv
  have hsub : ∀ i (h : i < ts.length), RepT I (.agg #[.int .i64 ts[i].head, .slice (ss i).1 ts[i].args.length (ss i).2]) ts[i] := fun i hi => RepT.mk _ _ (hr i hi) (hsub0 i hi)
  refine Does.intro Try.func73 rfl Try.ntmps73 rfl fun w0 => ?_
  refine code_seq ?_
  refine code_region ?_
  refine op_v (v_assign rfl) rfl ?_
  refine ops_nil ?_
  refine post_next ?_
  refine code_seq ?_
  refine code_region ?_
  refine op_v (v_assign rfl) rfl ?_
  refine ops_nil ?_
  refine post_next ?_
  refine code_seq ?_
  refine code_seq ?_
  refine code_region ?_
  refine op_v (v_assign rfl) rfl ?_
  refine ops_nil ?_
  refine post_next ?_
  refine code_block ?_
  refine code_loop (fun m σ' I' δ' => ∃ (k n : Nat), m = ts.length - k ∧ k ≤ ts.length ∧ σ' = [(0, .slice ad ts.length c), (3, .int .i64 n), (4, .int .i64 k)] ∧ I.le I' ∧ δ' = [] ∧ n ≤ 2000 ∧ (n ≤ 500 → n = sizeL (ts.take k))) ts.length [(0, .slice ad ts.length c), (3, .int .i64 (0 : Nat)), (4, .int .i64 (0 : Nat))] ⟨0, 0, rfl, Nat.zero_le _, rfl, Imm.le_refl _, rfl, by omega, fun _ => rfl⟩ ⟨rfl, rfl, rfl, trivial⟩ ?_
  rintro m _ I0 _ ⟨k, n, rfl, hk, rfl, hI0, rfl, hn, hp⟩
  refine code_seq ?_
  refine code_seq ?_
  refine code_region ?_
  refine op_v (v_move rfl) rfl ?_
  refine op_v (v_move rfl) rfl ?_
  refine op_v (v_len Try.underlying45 rfl) rfl ?_
  by_cases h7 : k < ts.length
  · have hs1 := (hat k h7).isSome
    have hst := sizeL_take ts k h7
    first | refine op_v (v_cmptA rfl rfl rfl) rfl ?_ | refine op_v (v_cmpfA rfl rfl rfl) rfl ?_ | refine op_v (v_cmp rfl rfl rfl) rfl ?_
    refine op_v (v_move rfl) rfl ?_
    first
      | (refine op_want rfl rfl ?_
         refine op_v (v_move rfl) rfl ?_)
      | (refine op_skip rfl rfl (by simp [undef]) rfl ?_)
    by_cases h16 : n ≤ 500
    · first
        | (refine op_want rfl rfl ?_
           first | refine op_v (v_cmptA rfl rfl rfl) rfl ?_ | refine op_v (v_cmpfA rfl rfl rfl) rfl ?_ | refine op_v (v_cmp rfl rfl rfl) rfl ?_)
        | (refine op_skip rfl rfl (by simp [undef]) rfl ?_)
      first | refine op_v (v_pickt rfl rfl) rfl ?_ | refine op_v (v_pickf rfl rfl) rfl ?_ | refine op_v (v_pickb rfl rfl rfl) rfl ?_
      refine ops_nil ?_
      refine post_next ?_
      refine code_cond_t rfl ?_
      refine code_skip ?_
      refine post_next ?_
      refine code_seq ?_
      refine code_block ?_
      refine code_region ?_
      refine op_v (v_move rfl) rfl ?_
      refine op_v (v_move rfl) rfl ?_
      refine op_v (v_move rfl) rfl ?_
      first | refine op_v (v_indexA Try.underlying45 sz47 rfl rfl) rfl ?_ | refine op_v (v_indexIA Try.underlying45 sz47 rfl rfl) rfl ?_
      first | refine op_v (v_loadI0 ty47 ((hat k h7).mono hI0) rfl rfl rfl) rfl ?_ | refine op_v (v_loadI ty47 ((hat k h7).mono hI0) rfl rfl rfl) rfl ?_
      refine op_call pl82 rfl rfl ((Count_does _ _ (Nat.le_refl _) 500 (by omega) _ _ ((hsub k h7).mono hI0))) Parts.none ?_
      rintro v20 I20 _ hI20 ⟨rfl, rfl⟩
      first | refine op_v (v_addb rfl rfl rfl (by omega)) rfl ?_ | refine op_v (v_add rfl rfl) rfl ?_
      refine op_v (v_assign rfl) rfl ?_
      refine ops_nil ?_
      refine post_out ?_
      refine post_next ?_
      refine code_region ?_
      refine op_v (v_move rfl) rfl ?_
      first | refine op_v (v_addb rfl rfl rfl (by omega)) rfl ?_ | refine op_v (v_add rfl rfl) rfl ?_
      refine op_v (v_assign rfl) rfl ?_
      refine ops_nil ?_
      refine post_again (ts.length - (k + 1)) [(0, .slice ad ts.length c), (3, .int .i64 ((n : Int) + ((min ts[k].size (500 + 1) : Nat) : Int))), (4, .int .i64 (k + 1 : Nat))] (by omega) ⟨k + 1, n + min ts[k].size (500 + 1), rfl, h7, by rw [show ((n + min ts[k].size (500 + 1) : Nat) : Int) = (n : Int) + ((min ts[k].size (500 + 1) : Nat) : Int) from Int.natCast_add _ _], Imm.leA, rfl, by omega, fun hq => ?_⟩ ⟨rfl, rfl, rfl, trivial⟩
      have := hp (by omega)
      omega
    · first
        | (refine op_want rfl rfl ?_
           first | refine op_v (v_cmptA rfl rfl rfl) rfl ?_ | refine op_v (v_cmpfA rfl rfl rfl) rfl ?_ | refine op_v (v_cmp rfl rfl rfl) rfl ?_)
        | (refine op_skip rfl rfl (by simp [undef]) rfl ?_)
      first | refine op_v (v_pickt rfl rfl) rfl ?_ | refine op_v (v_pickf rfl rfl) rfl ?_ | refine op_v (v_pickb rfl rfl rfl) rfl ?_
      refine ops_nil ?_
      refine post_next ?_
      refine code_cond_f rfl ?_
      refine code_exit ?_
      refine post_exit_then ?_
      refine post_exit_then ?_
      refine post_exit ?_
      refine post_next ?_
      refine code_seq ?_
      refine code_region ?_
      refine op_v (v_move rfl) rfl ?_
      first | refine op_v (v_cmptA rfl rfl rfl) rfl ?_ | refine op_v (v_cmpfA rfl rfl rfl) rfl ?_ | refine op_v (v_cmp rfl rfl rfl) rfl ?_
      refine op_v (v_assign rfl) rfl ?_
      refine ops_nil ?_
      refine post_next ?_
      refine code_ret ?_
      refine post_ret (rs := [.tmp 2]) rfl (List.Perm.refl _) (.cons (.tmp rfl) .nil) (List.nil_sublist _) ?_
      exact ⟨⟨false, rfl, fun h => by cases h⟩, rfl⟩
  · first | refine op_v (v_cmptA rfl rfl rfl) rfl ?_ | refine op_v (v_cmpfA rfl rfl rfl) rfl ?_ | refine op_v (v_cmp rfl rfl rfl) rfl ?_
    refine op_v (v_move rfl) rfl ?_
    first
      | (refine op_want rfl rfl ?_
         refine op_v (v_move rfl) rfl ?_)
      | (refine op_skip rfl rfl (by simp [undef]) rfl ?_)
    first
      | (refine op_want rfl rfl ?_
         first | refine op_v (v_cmptA rfl rfl rfl) rfl ?_ | refine op_v (v_cmpfA rfl rfl rfl) rfl ?_ | refine op_v (v_cmp rfl rfl rfl) rfl ?_)
      | (refine op_skip rfl rfl (by simp [undef]) rfl ?_)
    first | refine op_v (v_pickt rfl rfl) rfl ?_ | refine op_v (v_pickf rfl rfl) rfl ?_ | refine op_v (v_pickb rfl rfl rfl) rfl ?_
    refine ops_nil ?_
    refine post_next ?_
    refine code_cond_f rfl ?_
    refine code_exit ?_
    refine post_exit_then ?_
    refine post_exit_then ?_
    refine post_exit ?_
    refine post_next ?_
    refine code_seq ?_
    refine code_region ?_
    refine op_v (v_move rfl) rfl ?_
    by_cases h33 : n ≤ 500
    · first | refine op_v (v_cmptA rfl rfl rfl) rfl ?_ | refine op_v (v_cmpfA rfl rfl rfl) rfl ?_ | refine op_v (v_cmp rfl rfl rfl) rfl ?_
      refine op_v (v_assign rfl) rfl ?_
      refine ops_nil ?_
      refine post_next ?_
      refine code_ret ?_
      refine post_ret (rs := [.tmp 2]) rfl (List.Perm.refl _) (.cons (.tmp rfl) .nil) (List.nil_sublist _) ?_
      exact ⟨⟨true, rfl, fun _ => by have := hp h33; rw [List.take_of_length_le (by omega)] at this; omega⟩, rfl⟩
    · first | refine op_v (v_cmptA rfl rfl rfl) rfl ?_ | refine op_v (v_cmpfA rfl rfl rfl) rfl ?_ | refine op_v (v_cmp rfl rfl rfl) rfl ?_
      refine op_v (v_assign rfl) rfl ?_
      refine ops_nil ?_
      refine post_next ?_
      refine code_ret ?_
      refine post_ret (rs := [.tmp 2]) rfl (List.Perm.refl _) (.cons (.tmp rfl) .nil) (List.nil_sublist _) ?_
      exact ⟨⟨false, rfl, fun h => by cases h⟩, rfl⟩
def FewC (c : List Li) : Prop := c.length ≤ 40 ∧ sizeL (sidesL c) ≤ 500
theorem Few10_does {I : Imm} {v : Value} {c : List Li} (hv : RepC I v c) :
    Does Try.prog 28 [v] I [] (fun v I' δ' => (∃ b, v = .bool b ∧ (b = true → FewC c)) ∧ δ' = []) := by
  obtain ⟨ad, c0, hvs⟩ : ∃ ad c0, v = .slice ad c.length c0 := by obtain ⟨ad, c0, _, h, _⟩ := hv; exact ⟨ad, c0, h⟩
  subst hvs
  have hsm := hv.small
  refine Does.intro Try.func28 rfl Try.ntmps28 rfl fun w0 => ?_
  refine code_seq ?_
  refine code_region ?_
  refine op_v (v_assign rfl) rfl ?_
  refine ops_nil ?_
  refine post_next ?_
  refine code_seq ?_
  refine code_region ?_
  refine op_v (v_move rfl) rfl ?_
  refine op_v (v_len Try.underlying26 rfl) rfl ?_
  by_cases h5 : c.length ≤ 40
  · first | refine op_v (v_cmptA rfl rfl rfl) rfl ?_ | refine op_v (v_cmpfA rfl rfl rfl) rfl ?_ | refine op_v (v_cmp rfl rfl rfl) rfl ?_
    refine op_v (v_move rfl) rfl ?_
    first
      | (refine op_want rfl rfl ?_
         refine op_v (v_move rfl) rfl ?_)
      | (refine op_skip rfl rfl (by simp [undef]) rfl ?_)
    first
      | (refine op_want rfl rfl ?_
         refine op_call pl39 rfl rfl ((Terms_does (hv.mono Imm.leA))) Parts.none ?_
         rintro v8 I8 _ hI8 ⟨hs8, rfl⟩)
      | (refine op_skip rfl rfl (by simp [undef]) rfl ?_)
    first
      | (refine op_want rfl rfl ?_
         refine op_call pl73 rfl rfl ((Few5_does hs8)) Parts.none ?_
         rintro v9 I9 _ hI9 ⟨⟨b9, rfl, hb9⟩, rfl⟩)
      | (refine op_skip rfl rfl (by simp [undef]) rfl ?_)
    first | refine op_v (v_pickt rfl rfl) rfl ?_ | refine op_v (v_pickf rfl rfl) rfl ?_ | refine op_v (v_pickb rfl rfl rfl) rfl ?_
    refine op_v (v_assign rfl) rfl ?_
    refine ops_nil ?_
    refine post_next ?_
    refine code_ret ?_
    refine post_ret (rs := [.tmp 2]) rfl (List.Perm.refl _) (.cons (.tmp rfl) .nil) (List.nil_sublist _) ?_
    exact ⟨⟨b9, rfl, fun h => ⟨h5, hb9 h⟩⟩, rfl⟩
  · first | refine op_v (v_cmptA rfl rfl rfl) rfl ?_ | refine op_v (v_cmpfA rfl rfl rfl) rfl ?_ | refine op_v (v_cmp rfl rfl rfl) rfl ?_
    refine op_v (v_move rfl) rfl ?_
    first
      | (refine op_want rfl rfl ?_
         refine op_v (v_move rfl) rfl ?_)
      | (refine op_skip rfl rfl (by simp [undef]) rfl ?_)
    first
      | (refine op_want rfl rfl ?_
         refine op_call pl39 rfl rfl ((Terms_does (hv.mono Imm.leA))) Parts.none ?_
         rintro v8 I8 _ hI8 ⟨hs8, rfl⟩)
      | (refine op_skip rfl rfl (by simp [undef]) rfl ?_)
    first
      | (refine op_want rfl rfl ?_
         refine op_call pl73 rfl rfl ((Few5_does hs8)) Parts.none ?_
         rintro v9 I9 _ hI9 ⟨⟨b9, rfl, hb9⟩, rfl⟩)
      | (refine op_skip rfl rfl (by simp [undef]) rfl ?_)
    first | refine op_v (v_pickt rfl rfl) rfl ?_ | refine op_v (v_pickf rfl rfl) rfl ?_ | refine op_v (v_pickb rfl rfl rfl) rfl ?_
    refine op_v (v_assign rfl) rfl ?_
    refine ops_nil ?_
    refine post_next ?_
    refine code_ret ?_
    refine post_ret (rs := [.tmp 2]) rfl (List.Perm.refl _) (.cons (.tmp rfl) .nil) (List.nil_sublist _) ?_
    exact ⟨⟨false, rfl, fun h => by cases h⟩, rfl⟩
theorem FewC.sides {c : List Li} (h : FewC c) : ∀ x ∈ c, x.l.size ≤ 500 ∧ x.r.size ≤ 500 := fun x hx =>
  ⟨sizeL_getL h.2 _ (List.mem_flatMap.2 ⟨x, hx, by simp⟩), sizeL_getL h.2 _ (List.mem_flatMap.2 ⟨x, hx, by simp⟩)⟩
end Go.Proofs.Ytdbadicpbmndbaa
/- Walks: the example of the chapter on the order; few signatures and terms. -/
set_option linter.unusedVariables false
set_option linter.unusedSimpArgs false
/- short -/
namespace Go.Proofs.Ytdbadicpbmndbaa
open Go Lg

def gs8 : List Sy := [truthS, ⟨⟨#[97]⟩, 0, 1, false⟩, ⟨⟨#[102]⟩, 1, 1, false⟩]
end Go.Proofs.Ytdbadicpbmndbaa
/- Walks: literals: whether two are the same, what they are compared by. -/
set_option linter.unusedVariables false
set_option linter.unusedSimpArgs false
set_option linter.unnecessarySimpa false
/- short -/
namespace Go.Proofs.Ytdbadicpbmndbaa
open Go Lg

/-! ### walks -/
theorem row_doesL {I : Imm} {va : Value} {x : Li} (ha : RepL I va x) :
    Does Try.prog 98 [va] I [] (fun v I' δ' => RepS I' v (rowL x) ∧ δ' = []) := by
  obtain ⟨la, lc, ra, rc, rfl, hl, hr⟩ := ha
  refine Does.intro Try.func98 rfl Try.ntmps98 rfl fun w0 => ?_
  refine code_seq ?_
  refine code_region ?_
  refine o_box rfl rfl rfl (fun b1 => ?_)
  refine op_v (v_assign rfl) rfl ?_
  refine ops_nil ?_
  refine post_next ?_
  refine code_seq ?_
  refine code_seq ?_
  refine code_region ?_
  first | refine op_v (v_fieldB 0 Try.underlying49 rfl rfl fz4 rfl) rfl ?_ | refine op_v (v_fieldI 0 Try.underlying49 rfl rfl fz4 rfl (by assumption)) rfl ?_ | refine op_v (v_field Try.underlying49 rfl fz4 rfl rfl) rfl ?_
  refine op_v (v_loadA ty4 rfl rfl) rfl ?_
  refine ops_nil ?_
  refine post_next ?_
  refine code_cond rfl (fun hc0 => ?_) (fun hc0 => ?_)
  · have hn : x.neg = true := hc0
    refine code_seq ?_
    refine code_region ?_
    first | refine op_v (v_fieldB 1 Try.underlying49 rfl rfl fz47 rfl) rfl ?_ | refine op_v (v_fieldI 1 Try.underlying49 rfl rfl fz47 rfl (by assumption)) rfl ?_ | refine op_v (v_field Try.underlying49 rfl fz47 rfl rfl) rfl ?_
    refine op_v (v_loadA ty47 rfl rfl) rfl ?_
    first | refine op_v (v_fieldB 1 Try.underlying49 rfl rfl fz47 rfl) rfl ?_ | refine op_v (v_fieldI 1 Try.underlying49 rfl rfl fz47 rfl (by assumption)) rfl ?_ | refine op_v (v_field Try.underlying49 rfl fz47 rfl rfl) rfl ?_
    refine op_v (v_loadA ty47 rfl rfl) rfl ?_
    first | refine op_v (v_fieldB 3 Try.underlying49 rfl rfl fz47 rfl) rfl ?_ | refine op_v (v_fieldI 3 Try.underlying49 rfl rfl fz47 rfl (by assumption)) rfl ?_ | refine op_v (v_field Try.underlying49 rfl fz47 rfl rfl) rfl ?_
    refine op_v (v_loadA ty47 rfl rfl) rfl ?_
    first | refine op_v (v_fieldB 3 Try.underlying49 rfl rfl fz47 rfl) rfl ?_ | refine op_v (v_fieldI 3 Try.underlying49 rfl rfl fz47 rfl (by assumption)) rfl ?_ | refine op_v (v_field Try.underlying49 rfl fz47 rfl rfl) rfl ?_
    refine op_v (v_loadA ty47 rfl rfl) rfl ?_
    refine o_buildSlice (xs := [(Go.Operand.tmp 6), (Go.Operand.tmp 8), (Go.Operand.tmp 10), (Go.Operand.tmp 12)]) Try.underlying45 bs47 rfl rfl rfl rfl rfl (fun b13 => ?_)
    refine OpsJ.freezeRow Del.here ?_
    rintro I13 a13 c13 hI13 hq hc13 hl13 hcells13
    cases hq
    refine op_v (v_assign rfl) rfl ?_
    refine ops_nil ?_
    refine post_next ?_
    refine code_ret ?_
    refine post_ret_then ?_
    refine post_ret (rs := [.tmp 2]) rfl (List.Perm.refl _) (.cons (.tmp rfl) .nil) (List.nil_sublist _) ?_
    exact ⟨by unfold rowL; rw [if_pos hn]; exact RowT.repS (ts := [x.l, x.l, x.r, x.r]) rfl hcells13 ((RowT.one (hl.mono Imm.leA)).app ((RowT.one (hl.mono Imm.leA)).app ((RowT.one (hr.mono Imm.leA)).app (RowT.one (hr.mono Imm.leA))))) hc13 (by omega), rfl⟩
  · have hn : ¬ x.neg = true := by rw [hc0]; simp
    refine code_skip ?_
    refine post_next ?_
    refine code_seq ?_
    refine code_region ?_
    first | refine op_v (v_fieldB 1 Try.underlying49 rfl rfl fz47 rfl) rfl ?_ | refine op_v (v_fieldI 1 Try.underlying49 rfl rfl fz47 rfl (by assumption)) rfl ?_ | refine op_v (v_field Try.underlying49 rfl fz47 rfl rfl) rfl ?_
    refine op_v (v_loadA ty47 rfl rfl) rfl ?_
    first | refine op_v (v_fieldB 3 Try.underlying49 rfl rfl fz47 rfl) rfl ?_ | refine op_v (v_fieldI 3 Try.underlying49 rfl rfl fz47 rfl (by assumption)) rfl ?_ | refine op_v (v_field Try.underlying49 rfl fz47 rfl rfl) rfl ?_
    refine op_v (v_loadA ty47 rfl rfl) rfl ?_
    refine o_buildSlice (xs := [(Go.Operand.tmp 15), (Go.Operand.tmp 17)]) Try.underlying45 bs47 rfl rfl rfl rfl rfl (fun b18 => ?_)
    refine OpsJ.freezeRow Del.here ?_
    rintro I18 a18 c18 hI18 hq hc18 hl18 hcells18
    cases hq
    refine op_v (v_assign rfl) rfl ?_
    refine ops_nil ?_
    refine post_next ?_
    refine code_ret ?_
    refine post_ret (rs := [.tmp 2]) rfl (List.Perm.refl _) (.cons (.tmp rfl) .nil) (List.nil_sublist _) ?_
    exact ⟨by unfold rowL; rw [if_neg hn]; exact RowT.repS (ts := [x.l, x.r]) rfl hcells18 ((RowT.one (hl.mono Imm.leA)).app (RowT.one (hr.mono Imm.leA))) hc18 (by omega), rfl⟩
end Go.Proofs.Ytdbadicpbmndbaa
/- Clauses, plainly: what is left of one behind Tidy. Walks: whether one of a row of literals is so; two clauses, literal by literal. -/
set_option linter.unusedVariables false
set_option linter.unusedSimpArgs false
set_option linter.unnecessarySimpa false
/- short -/
namespace Go.Proofs.Ytdbadicpbmndbaa
open Go Lg

/-! ### plain -/
def trivL (x : Li) : Bool := decide (x.l = x.r)
/-- what is not left -/
def goneL (acc : List Li) (x : Li) : Bool := acc.any (fun m => sameL x m) || (x.neg && trivL x)
def TidyOK (t : List Li) : Prop := ∀ i (hi : i < t.length), goneL (t.take i) t[i] = false
theorem TidyOK.push {t : List Li} {x : Li} (h : TidyOK t) (hx : goneL t x = false) : TidyOK (t ++ [x]) := fun i hi => by
  by_cases q : i < t.length
  · rw [List.getElem_append_left q, List.take_append_of_le_length (by omega)]; exact h i q
  · have : i = t.length := by simp at hi; omega
    subst this
    rw [List.getElem_append_right (by omega), List.take_left]; simpa using hx
theorem TidyOK.same {t : List Li} (h : TidyOK t) {i j : Nat} (hi : i < t.length) (hij : j < i) : sameL t[i] (t[j]'(by omega)) = false := by
  have := h i hi
  unfold goneL at this
  rw [Bool.or_eq_false_iff] at this
  have h1 := List.any_eq_false.1 this.1 (t[j]'(by omega)) (List.mem_take_iff_getElem.2 ⟨j, by omega, rfl⟩)
  simpa using h1
/-! ### walks -/
/-- a function of a literal -/
abbrev LitP (P : Program) (fv : Value) (I : Imm) (δf : List Ent) (c : List Li) (p : Li → Bool) : Prop := ∀ J x u, I.le J → LitE.R J x u → x ∈ c → FDoes P fv [.agg u.toArray] J δf (fun v _ δ' => v = .bool (p x) ∧ δ' = δf)
def IdxH (c : List Li) (p : Li → Bool) (n : Int) : Prop := (n = -1 ∧ c.any p = false) ∨ ∃ (j : Nat) (h : j < c.length), n = j ∧ p c[j] = true ∧ (c.take j).any p = false
theorem IdxH.any {c : List Li} {p : Li → Bool} {n : Int} (h : IdxH c p n) : decide (0 ≤ n) = c.any p := by
  rcases h with ⟨rfl, h⟩ | ⟨j, hj, rfl, h, _⟩
  · rw [h]; rfl
  · rw [show c.any p = true from List.any_eq_true.2 ⟨c[j], List.getElem_mem hj, h⟩]; simp
theorem IdxC_does {I : Imm} {v fv : Value} {c : List Li} {δf : List Ent} {p : Li → Bool} (hv : RepC I v c) (hf : LitP Try.prog fv I δf c p) :
    Does Try.prog 116 [v, fv] I δf (fun v _ δ' => (∃ n : Int, v = .int .i64 n ∧ IdxH c p n) ∧ δ' = δf) := by
  obtain ⟨ad, c0, xs, rfl, hc, hb, hcells, hrow⟩ := hv
  refine Does.intro Try.func116 rfl Try.ntmps116 rfl fun w0 => ?_
  refine code_seq ?_
  refine code_region ?_
  refine op_v (v_assign rfl) rfl ?_
  refine ops_nil ?_
  refine post_next ?_
  refine code_seq ?_
  refine code_seq ?_
  refine code_region ?_
  refine op_v (v_move rfl) rfl ?_
  refine op_v (v_len Try.underlying26 rfl) rfl ?_
  refine op_v (v_move rfl) rfl ?_
  refine ops_nil ?_
  refine post_next ?_
  refine code_block ?_
  refine code_loop (fun m σ' I' δ' => ∃ k : Nat, m = c.length - k ∧ k ≤ c.length ∧ σ' = [(0, .slice ad c.length c0), (1, fv), (7, .int .i64 c.length), (8, .int .i64 k)] ∧ I.le I' ∧ δ' = δf ∧ (c.take k).any p = false) c.length [(0, .slice ad c.length c0), (1, fv), (7, .int .i64 c.length), (8, .int .i64 (0 : Nat))] ⟨0, rfl, Nat.zero_le _, rfl, Imm.le_refl _, rfl, rfl⟩ ⟨rfl, rfl, rfl, rfl, trivial⟩ ?_
  rintro m _ I0 _ ⟨k, rfl, hk, rfl, hI0, rfl, hp⟩
  refine code_seq ?_
  refine code_region ?_
  first | refine op_v (v_cmptA rfl rfl rfl) rfl ?_ | refine op_v (v_cmpfA rfl rfl rfl) rfl ?_ | refine op_v (v_cmp rfl rfl rfl) rfl ?_
  refine ops_nil ?_
  refine post_next ?_
  refine code_seq ?_
  refine code_cond rfl (fun hc0 => ?_) (fun hc0 => ?_)
  · have hlt : k < c.length := by simpa using hc0
    obtain ⟨vs, ⟨la, lc, ra, rc, rfl, hl, hr⟩, hat⟩ := hrow.cellsAt hcells hlt
    have hs1 := hat.isSome
    refine code_skip ?_
    refine post_next ?_
    refine code_seq ?_
    refine code_block ?_
    refine code_seq ?_
    refine code_region ?_
    refine op_v (v_move rfl) rfl ?_
    refine op_v (v_assign rfl) rfl ?_
    refine ops_nil ?_
    refine post_next ?_
    refine code_seq ?_
    refine code_region ?_
    refine op_v (v_move rfl) rfl ?_
    refine op_v (v_move rfl) rfl ?_
    refine op_v (v_move rfl) rfl ?_
    first | refine op_v (v_indexA Try.underlying26 sz49 rfl rfl) rfl ?_ | refine op_v (v_indexIA Try.underlying26 sz49 rfl rfl) rfl ?_
    first | refine op_v (v_loadI0 ty49 (hat.mono hI0) rfl rfl rfl) rfl ?_ | refine op_v (v_loadI ty49 (hat.mono hI0) rfl rfl rfl) rfl ?_
    refine op_fcall rfl rfl rfl ((hf _ c[k] (liC c[k] la lc ra rc) hI0 ⟨la, lc, ra, rc, rfl, hl.mono hI0, hr.mono hI0⟩ (List.getElem_mem hlt))) Parts.all ?_
    rintro v16 I16 _ hI16 ⟨rfl, rfl⟩
    rw [List.append_nil]
    refine ops_nil ?_
    refine post_next ?_
    refine code_cond rfl (fun hc1 => ?_) (fun hc1 => ?_)
    · refine code_seq ?_
      refine code_region ?_
      refine op_v (v_move rfl) rfl ?_
      refine op_v (v_assign rfl) rfl ?_
      refine ops_nil ?_
      refine post_next ?_
      refine code_ret ?_
      refine post_ret_block ?_
      refine post_ret_then ?_
      refine post_ret_then ?_
      refine post_ret_block ?_
      refine post_ret_then ?_
      refine post_ret (rs := [.tmp 4]) rfl (List.Perm.refl _) (.cons (.tmp rfl) .nil) (List.Sublist.refl _) ?_
      exact ⟨⟨k, rfl, .inr ⟨k, hlt, rfl, hc1, hp⟩⟩, rfl⟩
    · refine code_skip ?_
      refine post_out ?_
      refine post_next ?_
      refine code_region ?_
      first | refine op_v (v_addb rfl rfl rfl (by omega)) rfl ?_ | refine op_v (v_add rfl rfl) rfl ?_
      refine op_v (v_move rfl) rfl ?_
      refine ops_nil ?_
      refine post_again (c.length - (k + 1)) [(0, .slice ad c.length c0), (1, fv), (7, .int .i64 c.length), (8, .int .i64 (k + 1 : Nat))] (by omega) ⟨k + 1, rfl, hlt, rfl, Imm.le_trans hI0 hI16, rfl, by rw [List.take_succ_eq_append_getElem hlt, List.any_append, hp]; simp [hc1]⟩ ⟨rfl, rfl, rfl, rfl, trivial⟩
  · have hge : k = c.length := by simp at hc0; omega
    subst hge
    rw [List.take_length] at hp
    refine code_exit ?_
    refine post_exit_then ?_
    refine post_exit_then ?_
    refine post_exit ?_
    refine post_next ?_
    refine code_seq ?_
    refine code_region ?_
    refine op_v (v_assign rfl) rfl ?_
    refine ops_nil ?_
    refine post_next ?_
    refine code_ret ?_
    refine post_ret (rs := [.tmp 4]) rfl (List.Perm.refl _) (.cons (.tmp rfl) .nil) (List.Sublist.refl _) ?_
    exact ⟨⟨-1, rfl, .inl ⟨rfl, hp⟩⟩, rfl⟩
abbrev cRow (A : Option Addr) (c : Nat) (n : Nat) (xs : List Value) : Ent := .row (.slice A n c) 49 5 n xs
end Go.Proofs.Ytdbadicpbmndbaa
/- Walks: whether a literal is one of a signature; how two stand. -/
set_option linter.unusedVariables false
set_option linter.unusedSimpArgs false
set_option linter.unnecessarySimpa false
/- short -/
namespace Go.Proofs.Ytdbadicpbmndbaa
open Go Lg

def trL (gs : List Sy) (t : T) : Bool := decide (0 ≤ t.head) && trG gs t.head
def sortL (gs : List Sy) (x : Li) : Bool := (trL gs x.l && decide (x.r.head ≠ 0)) || (!trL gs x.l && trL gs x.r)
def litG (gs : List Sy) (x : Li) : Int := if termG gs x.l ≠ 0 then termG gs x.l else if termG gs x.r ≠ 0 then termG gs x.r else if sortL gs x = true then 10 else 0
theorem litG_ok {gs : List Sy} {x : Li} (h : litG gs x = 0) : OkG gs x.l ∧ OkG gs x.r := by
  unfold litG at h
  by_cases h1 : termG gs x.l = 0
  · by_cases h2 : termG gs x.r = 0
    · exact ⟨termG_ok.1 h1, termG_ok.1 h2⟩
    · rw [if_neg (by omega), if_pos h2] at h; exact absurd h h2
  · rw [if_pos h1] at h; exact absurd h h1
theorem left_does {I : Imm} {vg : Value} {gs : List Sy} {x : Li} {la ra : Option Addr} {lc rc : Nat} (hg : RepG I vg gs) (hl : RepT I (.agg #[.int .i64 x.l.head, .slice la x.l.args.length lc]) x.l) (h1 : x.l.size ≤ 1000000000) :
    Does Try.prog 132 [.agg #[vg, .bool x.neg, .int .i64 x.l.head, .slice la x.l.args.length lc, .int .i64 x.r.head, .slice ra x.r.args.length rc]] I [] (fun v _ δ' => v = .int .i64 (termG gs x.l) ∧ δ' = []) := by
  obtain ⟨ga, gc, rfl⟩ := hg.shape
  refine Does.intro Try.func132 rfl Try.ntmps132 rfl fun w0 => ?_
  refine code_seq ?_
  refine code_region ?_
  refine o_box rfl rfl rfl (fun b1 => ?_)
  refine op_v (v_assign rfl) rfl ?_
  refine ops_nil ?_
  refine post_next ?_
  refine code_seq ?_
  refine code_region ?_
  first | refine op_v (v_fieldB 0 Try.underlying153 rfl rfl fz22 rfl) rfl ?_ | refine op_v (v_fieldI 0 Try.underlying153 rfl rfl fz22 rfl (by assumption)) rfl ?_ | refine op_v (v_field Try.underlying153 rfl fz22 rfl rfl) rfl ?_
  refine op_v (v_loadA ty22 rfl rfl) rfl ?_
  first | refine op_v (v_fieldB 1 Try.underlying153 rfl rfl fz49 rfl) rfl ?_ | refine op_v (v_fieldI 1 Try.underlying153 rfl rfl fz49 rfl (by assumption)) rfl ?_ | refine op_v (v_field Try.underlying153 rfl fz49 rfl rfl) rfl ?_
  first | refine op_v (v_fieldB 1 Try.underlying49 rfl rfl fz47 rfl) rfl ?_ | refine op_v (v_fieldI 1 Try.underlying49 rfl rfl fz47 rfl (by assumption)) rfl ?_ | refine op_v (v_field Try.underlying49 rfl fz47 rfl rfl) rfl ?_
  refine op_v (v_loadA ty47 rfl rfl) rfl ?_
  refine op_call pl163 rfl rfl ((GTerm_does (hg.mono Imm.leA) (hl.mono Imm.leA) h1)) Parts.none ?_
  rintro _ I8 _ hI8 ⟨rfl, rfl⟩
  refine op_v (v_assign rfl) rfl ?_
  refine ops_nil ?_
  refine post_next ?_
  refine code_ret ?_
  refine post_ret (rs := [.tmp 2]) rfl (List.Perm.refl _) (.cons (.tmp rfl) .nil) (List.nil_sublist _) ?_
  exact ⟨rfl, rfl⟩
theorem right_does {I : Imm} {vg : Value} {gs : List Sy} {x : Li} {la ra : Option Addr} {lc rc : Nat} (hg : RepG I vg gs) (hl : RepT I (.agg #[.int .i64 x.r.head, .slice ra x.r.args.length rc]) x.r) (h1 : x.r.size ≤ 1000000000) :
    Does Try.prog 133 [.agg #[vg, .bool x.neg, .int .i64 x.l.head, .slice la x.l.args.length lc, .int .i64 x.r.head, .slice ra x.r.args.length rc]] I [] (fun v _ δ' => v = .int .i64 (termG gs x.r) ∧ δ' = []) := by
  obtain ⟨ga, gc, rfl⟩ := hg.shape
  refine Does.intro Try.func133 rfl Try.ntmps133 rfl fun w0 => ?_
  refine code_seq ?_
  refine code_region ?_
  refine o_box rfl rfl rfl (fun b1 => ?_)
  refine op_v (v_assign rfl) rfl ?_
  refine ops_nil ?_
  refine post_next ?_
  refine code_seq ?_
  refine code_region ?_
  first | refine op_v (v_fieldB 0 Try.underlying153 rfl rfl fz22 rfl) rfl ?_ | refine op_v (v_fieldI 0 Try.underlying153 rfl rfl fz22 rfl (by assumption)) rfl ?_ | refine op_v (v_field Try.underlying153 rfl fz22 rfl rfl) rfl ?_
  refine op_v (v_loadA ty22 rfl rfl) rfl ?_
  first | refine op_v (v_fieldB 1 Try.underlying153 rfl rfl fz49 rfl) rfl ?_ | refine op_v (v_fieldI 1 Try.underlying153 rfl rfl fz49 rfl (by assumption)) rfl ?_ | refine op_v (v_field Try.underlying153 rfl fz49 rfl rfl) rfl ?_
  first | refine op_v (v_fieldB 3 Try.underlying49 rfl rfl fz47 rfl) rfl ?_ | refine op_v (v_fieldI 3 Try.underlying49 rfl rfl fz47 rfl (by assumption)) rfl ?_ | refine op_v (v_field Try.underlying49 rfl fz47 rfl rfl) rfl ?_
  refine op_v (v_loadA ty47 rfl rfl) rfl ?_
  refine op_call pl163 rfl rfl ((GTerm_does (hg.mono Imm.leA) (hl.mono Imm.leA) h1)) Parts.none ?_
  rintro _ I8 _ hI8 ⟨rfl, rfl⟩
  refine op_v (v_assign rfl) rfl ?_
  refine ops_nil ?_
  refine post_next ?_
  refine code_ret ?_
  refine post_ret (rs := [.tmp 2]) rfl (List.Perm.refl _) (.cons (.tmp rfl) .nil) (List.nil_sublist _) ?_
  exact ⟨rfl, rfl⟩
theorem truth_does {I : Imm} {vg v : Value} {gs : List Sy} {t : T} {cs : List Value} (hg : RepG I vg gs) (hv : RepT I v t) (h5 : ∃ a b c d e, cs = [a, b, c, d, e]) (hh : 0 ≤ t.head → t.head < gs.length) :
    Does Try.prog 164 [.agg (vg :: cs).toArray, v] I [] (fun v _ δ' => v = .bool (trL gs t) ∧ δ' = []) := by
  obtain ⟨a, b, c, d, e, rfl⟩ := h5
  obtain ⟨ga, gc, rfl⟩ := hg.shape
  obtain ⟨_, hgc, hgb, hgat, hgok⟩ := hg.open
  obtain ⟨a0, c0, rfl, hr0⟩ := hv.shape
  refine Does.intro Try.func164 rfl Try.ntmps164 rfl fun w0 => ?_
  refine code_seq ?_
  refine code_region ?_
  refine o_box rfl rfl rfl (fun b2 => ?_)
  refine o_box rfl rfl rfl (fun b3 => ?_)
  refine op_v (v_assign rfl) rfl ?_
  refine ops_nil ?_
  refine post_next ?_
  refine code_seq ?_
  refine code_region ?_
  first | refine op_v (v_fieldB 0 Try.underlying47 rfl rfl fz3 rfl) rfl ?_ | refine op_v (v_fieldI 0 Try.underlying47 rfl rfl fz3 rfl (by assumption)) rfl ?_ | refine op_v (v_field Try.underlying47 rfl fz3 rfl rfl) rfl ?_
  refine op_v (v_loadA ty3 rfl rfl) rfl ?_
  by_cases h7 : 0 ≤ t.head
  · have hl0 := hh h7
    have hlt0 : t.head.toNat < gs.length := by omega
    have hs0 := (hgat _ hlt0).isSome
    first | refine op_v (v_cmptA rfl rfl rfl) rfl ?_ | refine op_v (v_cmpfA rfl rfl rfl) rfl ?_ | refine op_v (v_cmp rfl rfl rfl) rfl ?_
    refine op_v (v_move rfl) rfl ?_
    first
      | (refine op_want rfl rfl ?_
         first | refine op_v (v_fieldB 0 Try.underlying153 rfl rfl fz22 rfl) rfl ?_ | refine op_v (v_fieldI 0 Try.underlying153 rfl rfl fz22 rfl (by assumption)) rfl ?_ | refine op_v (v_field Try.underlying153 rfl fz22 rfl rfl) rfl ?_)
      | (refine op_skip rfl rfl (by simp [undef]) rfl ?_)
    first
      | (refine op_want rfl rfl ?_
         refine op_v (v_loadA ty22 rfl rfl) rfl ?_)
      | (refine op_skip rfl rfl (by simp [undef]) rfl ?_)
    first
      | (refine op_want rfl rfl ?_
         first | refine op_v (v_fieldB 0 Try.underlying47 rfl rfl fz3 rfl) rfl ?_ | refine op_v (v_fieldI 0 Try.underlying47 rfl rfl fz3 rfl (by assumption)) rfl ?_ | refine op_v (v_field Try.underlying47 rfl fz3 rfl rfl) rfl ?_)
      | (refine op_skip rfl rfl (by simp [undef]) rfl ?_)
    first
      | (refine op_want rfl rfl ?_
         refine op_v (v_loadA ty3 rfl rfl) rfl ?_)
      | (refine op_skip rfl rfl (by simp [undef]) rfl ?_)
    first
      | (refine op_want rfl rfl ?_
         first | refine op_v (v_indexA Try.underlying22 sz79 rfl rfl) rfl ?_ | refine op_v (v_indexIA Try.underlying22 sz79 rfl rfl) rfl ?_)
      | (refine op_skip rfl rfl (by simp [undef]) rfl ?_)
    first
      | (refine op_want rfl rfl ?_
         first | refine op_v (v_fieldB 3 Try.underlying79 rfl rfl fz4 rfl) rfl ?_ | refine op_v (v_fieldI 3 Try.underlying79 rfl rfl fz4 rfl (by assumption)) rfl ?_ | refine op_v (v_field Try.underlying79 rfl fz4 rfl rfl) rfl ?_)
      | (refine op_skip rfl rfl (by simp [undef]) rfl ?_)
    first
      | (refine op_want rfl rfl ?_
         first | refine op_v (v_loadI0 ty4 (hgat _ hlt0) rfl rfl rfl) rfl ?_ | refine op_v (v_loadI ty4 (hgat _ hlt0) rfl rfl rfl) rfl ?_)
      | (refine op_skip rfl rfl (by simp [undef]) rfl ?_)
    first | refine op_v (v_pickt rfl rfl) rfl ?_ | refine op_v (v_pickf rfl rfl) rfl ?_ | refine op_v (v_pickb rfl rfl rfl) rfl ?_
    refine op_v (v_assign rfl) rfl ?_
    refine ops_nil ?_
    refine post_next ?_
    refine code_ret ?_
    refine post_ret (rs := [.tmp 4]) rfl (List.Perm.refl _) (.cons (.tmp rfl) .nil) (List.nil_sublist _) ?_
    exact ⟨by simp [outV, trL, h7, trG_at h7 hl0], rfl⟩
  · first | refine op_v (v_cmptA rfl rfl rfl) rfl ?_ | refine op_v (v_cmpfA rfl rfl rfl) rfl ?_ | refine op_v (v_cmp rfl rfl rfl) rfl ?_
    refine op_v (v_move rfl) rfl ?_
    first
      | (refine op_want rfl rfl ?_
         first | refine op_v (v_fieldB 0 Try.underlying153 rfl rfl fz22 rfl) rfl ?_ | refine op_v (v_fieldI 0 Try.underlying153 rfl rfl fz22 rfl (by assumption)) rfl ?_ | refine op_v (v_field Try.underlying153 rfl fz22 rfl rfl) rfl ?_)
      | (refine op_skip rfl rfl (by simp [undef]) rfl ?_)
    first
      | (refine op_want rfl rfl ?_
         refine op_v (v_loadA ty22 rfl rfl) rfl ?_)
      | (refine op_skip rfl rfl (by simp [undef]) rfl ?_)
    first
      | (refine op_want rfl rfl ?_
         first | refine op_v (v_fieldB 0 Try.underlying47 rfl rfl fz3 rfl) rfl ?_ | refine op_v (v_fieldI 0 Try.underlying47 rfl rfl fz3 rfl (by assumption)) rfl ?_ | refine op_v (v_field Try.underlying47 rfl fz3 rfl rfl) rfl ?_)
      | (refine op_skip rfl rfl (by simp [undef]) rfl ?_)
    first
      | (refine op_want rfl rfl ?_
         refine op_v (v_loadA ty3 rfl rfl) rfl ?_)
      | (refine op_skip rfl rfl (by simp [undef]) rfl ?_)
    first
      | (refine op_want rfl rfl ?_
         first | refine op_v (v_indexA Try.underlying22 sz79 rfl rfl) rfl ?_ | refine op_v (v_indexIA Try.underlying22 sz79 rfl rfl) rfl ?_)
      | (refine op_skip rfl rfl (by simp [undef]) rfl ?_)
    first
      | (refine op_want rfl rfl ?_
         first | refine op_v (v_fieldB 3 Try.underlying79 rfl rfl fz4 rfl) rfl ?_ | refine op_v (v_fieldI 3 Try.underlying79 rfl rfl fz4 rfl (by assumption)) rfl ?_ | refine op_v (v_field Try.underlying79 rfl fz4 rfl rfl) rfl ?_)
      | (refine op_skip rfl rfl (by simp [undef]) rfl ?_)
    first
      | (refine op_want rfl rfl ?_
         first | refine op_v (v_loadI0 ty4 (hgat _ hlt0) rfl rfl rfl) rfl ?_ | refine op_v (v_loadI ty4 (hgat _ hlt0) rfl rfl rfl) rfl ?_)
      | (refine op_skip rfl rfl (by simp [undef]) rfl ?_)
    first | refine op_v (v_pickt rfl rfl) rfl ?_ | refine op_v (v_pickf rfl rfl) rfl ?_ | refine op_v (v_pickb rfl rfl rfl) rfl ?_
    refine op_v (v_assign rfl) rfl ?_
    refine ops_nil ?_
    refine post_next ?_
    refine code_ret ?_
    refine post_ret (rs := [.tmp 4]) rfl (List.Perm.refl _) (.cons (.tmp rfl) .nil) (List.nil_sublist _) ?_
    exact ⟨by simp [outV, trL, h7], rfl⟩
theorem sorts_does {I : Imm} {vg : Value} {gs : List Sy} {x : Li} {la ra : Option Addr} {lc rc : Nat} (hg : RepG I vg gs) (hl : RepT I (.agg #[.int .i64 x.l.head, .slice la x.l.args.length lc]) x.l) (hr : RepT I (.agg #[.int .i64 x.r.head, .slice ra x.r.args.length rc]) x.r) (h1 : 0 ≤ x.l.head → x.l.head < gs.length) (h2 : 0 ≤ x.r.head → x.r.head < gs.length) :
    Does Try.prog 134 [.agg #[vg, .bool x.neg, .int .i64 x.l.head, .slice la x.l.args.length lc, .int .i64 x.r.head, .slice ra x.r.args.length rc]] I [] (fun v _ δ' => v = .int .i64 (if sortL gs x = true then 10 else 0) ∧ δ' = []) := by
  obtain ⟨ga, gc, rfl⟩ := hg.shape
  refine Does.intro Try.func134 rfl Try.ntmps134 rfl fun w0 => ?_
  refine code_seq ?_
  refine code_region ?_
  refine o_box rfl rfl rfl (fun b1 => ?_)
  refine op_v (v_assign rfl) rfl ?_
  refine ops_nil ?_
  refine post_next ?_
  refine code_seq ?_
  refine code_region ?_
  refine op_v (v_load6 ty153 rfl rfl) rfl ?_
  first | refine op_v (v_fieldB 1 Try.underlying153 rfl rfl fz49 rfl) rfl ?_ | refine op_v (v_fieldI 1 Try.underlying153 rfl rfl fz49 rfl (by assumption)) rfl ?_ | refine op_v (v_field Try.underlying153 rfl fz49 rfl rfl) rfl ?_
  first | refine op_v (v_fieldB 1 Try.underlying49 rfl rfl fz47 rfl) rfl ?_ | refine op_v (v_fieldI 1 Try.underlying49 rfl rfl fz47 rfl (by assumption)) rfl ?_ | refine op_v (v_field Try.underlying49 rfl fz47 rfl rfl) rfl ?_
  refine op_v (v_loadA ty47 rfl rfl) rfl ?_
  refine op_call pl164 rfl rfl ((truth_does (cs := liC x la lc ra rc) (hg.mono Imm.leA) (hl.mono Imm.leA) ⟨_, _, _, _, _, rfl⟩ h1)) Parts.none ?_
  rintro _ I8 _ hI8 ⟨rfl, rfl⟩
  refine op_v (v_assign rfl) rfl ?_
  refine ops_nil ?_
  refine post_next ?_
  refine code_seq ?_
  refine code_seq ?_
  refine code_region ?_
  by_cases e1 : trL gs x.l = true
  · rw [e1]
    refine op_v (v_move rfl) rfl ?_
    refine op_v (v_move rfl) rfl ?_
    first
      | (refine op_want rfl rfl ?_
         first | refine op_v (v_fieldB 1 Try.underlying153 rfl rfl fz49 rfl) rfl ?_ | refine op_v (v_fieldI 1 Try.underlying153 rfl rfl fz49 rfl (by assumption)) rfl ?_ | refine op_v (v_field Try.underlying153 rfl fz49 rfl rfl) rfl ?_)
      | (refine op_skip rfl rfl (by simp [undef]) rfl ?_)
    first
      | (refine op_want rfl rfl ?_
         first | refine op_v (v_fieldB 3 Try.underlying49 rfl rfl fz47 rfl) rfl ?_ | refine op_v (v_fieldI 3 Try.underlying49 rfl rfl fz47 rfl (by assumption)) rfl ?_ | refine op_v (v_field Try.underlying49 rfl fz47 rfl rfl) rfl ?_)
      | (refine op_skip rfl rfl (by simp [undef]) rfl ?_)
    first
      | (refine op_want rfl rfl ?_
         first | refine op_v (v_fieldB 0 Try.underlying47 rfl rfl fz3 rfl) rfl ?_ | refine op_v (v_fieldI 0 Try.underlying47 rfl rfl fz3 rfl (by assumption)) rfl ?_ | refine op_v (v_field Try.underlying47 rfl fz3 rfl rfl) rfl ?_)
      | (refine op_skip rfl rfl (by simp [undef]) rfl ?_)
    first
      | (refine op_want rfl rfl ?_
         refine op_v (v_loadA ty3 rfl rfl) rfl ?_)
      | (refine op_skip rfl rfl (by simp [undef]) rfl ?_)
    by_cases e2 : x.r.head ≠ 0
    · first
        | (refine op_want rfl rfl ?_
           first | refine op_v (v_cmptA rfl rfl rfl) rfl ?_ | refine op_v (v_cmpfA rfl rfl rfl) rfl ?_ | refine op_v (v_cmp rfl rfl rfl) rfl ?_)
        | (refine op_skip rfl rfl (by simp [undef]) rfl ?_)
      first | refine op_v (v_pickt rfl rfl) rfl ?_ | refine op_v (v_pickf rfl rfl) rfl ?_ | refine op_v (v_pickb rfl rfl rfl) rfl ?_
      refine op_v (v_move rfl) rfl ?_
      first
        | (refine op_want rfl rfl ?_
           refine op_v (v_move rfl) rfl ?_)
        | (refine op_skip rfl rfl (by simp [undef]) rfl ?_)
      first
        | (refine op_want rfl rfl ?_
           refine op_v (v_not rfl) rfl ?_)
        | (refine op_skip rfl rfl (by simp [undef]) rfl ?_)
      first
        | (refine op_want rfl rfl ?_
           refine op_v (v_move rfl) rfl ?_)
        | (refine op_skip rfl rfl (by simp [undef]) rfl ?_)
      first
        | (refine op_want rfl rfl ?_
           refine op_v (v_load6 ty153 rfl rfl) rfl ?_)
        | (refine op_skip rfl rfl (by simp [undef]) rfl ?_)
      first
        | (refine op_want rfl rfl ?_
           first | refine op_v (v_fieldB 1 Try.underlying153 rfl rfl fz49 rfl) rfl ?_ | refine op_v (v_fieldI 1 Try.underlying153 rfl rfl fz49 rfl (by assumption)) rfl ?_ | refine op_v (v_field Try.underlying153 rfl fz49 rfl rfl) rfl ?_)
        | (refine op_skip rfl rfl (by simp [undef]) rfl ?_)
      first
        | (refine op_want rfl rfl ?_
           first | refine op_v (v_fieldB 3 Try.underlying49 rfl rfl fz47 rfl) rfl ?_ | refine op_v (v_fieldI 3 Try.underlying49 rfl rfl fz47 rfl (by assumption)) rfl ?_ | refine op_v (v_field Try.underlying49 rfl fz47 rfl rfl) rfl ?_)
        | (refine op_skip rfl rfl (by simp [undef]) rfl ?_)
      first
        | (refine op_want rfl rfl ?_
           refine op_v (v_loadA ty47 rfl rfl) rfl ?_)
        | (refine op_skip rfl rfl (by simp [undef]) rfl ?_)
      first
        | (refine op_want rfl rfl ?_
           refine op_call pl164 rfl rfl ((truth_does (cs := liC x la lc ra rc) (hg.mono Imm.leA) (hr.mono Imm.leA) ⟨_, _, _, _, _, rfl⟩ h2)) Parts.none ?_
           rintro _ I25 _ hI25 ⟨rfl, rfl⟩)
        | (refine op_skip rfl rfl (by simp [undef]) rfl ?_)
      first
        | (refine op_want rfl rfl ?_
           first | refine op_v (v_pickt rfl rfl) rfl ?_ | refine op_v (v_pickf rfl rfl) rfl ?_ | refine op_v (v_pickb rfl rfl rfl) rfl ?_)
        | (refine op_skip rfl rfl (by simp [undef]) rfl ?_)
      first | refine op_v (v_pickt rfl rfl) rfl ?_ | refine op_v (v_pickf rfl rfl) rfl ?_ | refine op_v (v_pickb rfl rfl rfl) rfl ?_
      refine ops_nil ?_
      refine post_next ?_
      refine code_cond_t rfl ?_
      refine code_seq ?_
      refine code_region ?_
      refine op_v (v_assign rfl) rfl ?_
      refine ops_nil ?_
      refine post_next ?_
      refine code_ret ?_
      refine post_ret_then ?_
      refine post_ret (rs := [.tmp 2]) rfl (List.Perm.refl _) (.cons (.tmp rfl) .nil) (List.nil_sublist _) ?_
      exact ⟨by rw [if_pos (by simp [sortL, e1, e2])]; rfl, rfl⟩
    · first
        | (refine op_want rfl rfl ?_
           first | refine op_v (v_cmptA rfl rfl rfl) rfl ?_ | refine op_v (v_cmpfA rfl rfl rfl) rfl ?_ | refine op_v (v_cmp rfl rfl rfl) rfl ?_)
        | (refine op_skip rfl rfl (by simp [undef]) rfl ?_)
      first | refine op_v (v_pickt rfl rfl) rfl ?_ | refine op_v (v_pickf rfl rfl) rfl ?_ | refine op_v (v_pickb rfl rfl rfl) rfl ?_
      refine op_v (v_move rfl) rfl ?_
      first
        | (refine op_want rfl rfl ?_
           refine op_v (v_move rfl) rfl ?_)
        | (refine op_skip rfl rfl (by simp [undef]) rfl ?_)
      first
        | (refine op_want rfl rfl ?_
           refine op_v (v_not rfl) rfl ?_)
        | (refine op_skip rfl rfl (by simp [undef]) rfl ?_)
      first
        | (refine op_want rfl rfl ?_
           refine op_v (v_move rfl) rfl ?_)
        | (refine op_skip rfl rfl (by simp [undef]) rfl ?_)
      first
        | (refine op_want rfl rfl ?_
           refine op_v (v_load6 ty153 rfl rfl) rfl ?_)
        | (refine op_skip rfl rfl (by simp [undef]) rfl ?_)
      first
        | (refine op_want rfl rfl ?_
           first | refine op_v (v_fieldB 1 Try.underlying153 rfl rfl fz49 rfl) rfl ?_ | refine op_v (v_fieldI 1 Try.underlying153 rfl rfl fz49 rfl (by assumption)) rfl ?_ | refine op_v (v_field Try.underlying153 rfl fz49 rfl rfl) rfl ?_)
        | (refine op_skip rfl rfl (by simp [undef]) rfl ?_)
      first
        | (refine op_want rfl rfl ?_
           first | refine op_v (v_fieldB 3 Try.underlying49 rfl rfl fz47 rfl) rfl ?_ | refine op_v (v_fieldI 3 Try.underlying49 rfl rfl fz47 rfl (by assumption)) rfl ?_ | refine op_v (v_field Try.underlying49 rfl fz47 rfl rfl) rfl ?_)
        | (refine op_skip rfl rfl (by simp [undef]) rfl ?_)
      first
        | (refine op_want rfl rfl ?_
           refine op_v (v_loadA ty47 rfl rfl) rfl ?_)
        | (refine op_skip rfl rfl (by simp [undef]) rfl ?_)
      first
        | (refine op_want rfl rfl ?_
           refine op_call pl164 rfl rfl ((truth_does (cs := liC x la lc ra rc) (hg.mono Imm.leA) (hr.mono Imm.leA) ⟨_, _, _, _, _, rfl⟩ h2)) Parts.none ?_
           rintro _ I25 _ hI25 ⟨rfl, rfl⟩)
        | (refine op_skip rfl rfl (by simp [undef]) rfl ?_)
      first
        | (refine op_want rfl rfl ?_
           first | refine op_v (v_pickt rfl rfl) rfl ?_ | refine op_v (v_pickf rfl rfl) rfl ?_ | refine op_v (v_pickb rfl rfl rfl) rfl ?_)
        | (refine op_skip rfl rfl (by simp [undef]) rfl ?_)
      first | refine op_v (v_pickt rfl rfl) rfl ?_ | refine op_v (v_pickf rfl rfl) rfl ?_ | refine op_v (v_pickb rfl rfl rfl) rfl ?_
      refine ops_nil ?_
      refine post_next ?_
      refine code_cond_f rfl ?_
      refine code_skip ?_
      refine post_next ?_
      refine code_seq ?_
      refine code_region ?_
      refine op_v (v_assign rfl) rfl ?_
      refine ops_nil ?_
      refine post_next ?_
      refine code_ret ?_
      refine post_ret (rs := [.tmp 2]) rfl (List.Perm.refl _) (.cons (.tmp rfl) .nil) (List.nil_sublist _) ?_
      exact ⟨by rw [if_neg (by simp [sortL, e1]; omega)]; rfl, rfl⟩
  · have e1' : trL gs x.l = false := by simpa using e1
    rw [e1']
    refine op_v (v_move rfl) rfl ?_
    refine op_v (v_move rfl) rfl ?_
    first
      | (refine op_want rfl rfl ?_
         first | refine op_v (v_fieldB 1 Try.underlying153 rfl rfl fz49 rfl) rfl ?_ | refine op_v (v_fieldI 1 Try.underlying153 rfl rfl fz49 rfl (by assumption)) rfl ?_ | refine op_v (v_field Try.underlying153 rfl fz49 rfl rfl) rfl ?_)
      | (refine op_skip rfl rfl (by simp [undef]) rfl ?_)
    first
      | (refine op_want rfl rfl ?_
         first | refine op_v (v_fieldB 3 Try.underlying49 rfl rfl fz47 rfl) rfl ?_ | refine op_v (v_fieldI 3 Try.underlying49 rfl rfl fz47 rfl (by assumption)) rfl ?_ | refine op_v (v_field Try.underlying49 rfl fz47 rfl rfl) rfl ?_)
      | (refine op_skip rfl rfl (by simp [undef]) rfl ?_)
    first
      | (refine op_want rfl rfl ?_
         first | refine op_v (v_fieldB 0 Try.underlying47 rfl rfl fz3 rfl) rfl ?_ | refine op_v (v_fieldI 0 Try.underlying47 rfl rfl fz3 rfl (by assumption)) rfl ?_ | refine op_v (v_field Try.underlying47 rfl fz3 rfl rfl) rfl ?_)
      | (refine op_skip rfl rfl (by simp [undef]) rfl ?_)
    first
      | (refine op_want rfl rfl ?_
         refine op_v (v_loadA ty3 rfl rfl) rfl ?_)
      | (refine op_skip rfl rfl (by simp [undef]) rfl ?_)
    first
      | (refine op_want rfl rfl ?_
         first | refine op_v (v_cmptA rfl rfl rfl) rfl ?_ | refine op_v (v_cmpfA rfl rfl rfl) rfl ?_ | refine op_v (v_cmp rfl rfl rfl) rfl ?_)
      | (refine op_skip rfl rfl (by simp [undef]) rfl ?_)
    first | refine op_v (v_pickt rfl rfl) rfl ?_ | refine op_v (v_pickf rfl rfl) rfl ?_ | refine op_v (v_pickb rfl rfl rfl) rfl ?_
    refine op_v (v_move rfl) rfl ?_
    first
      | (refine op_want rfl rfl ?_
         refine op_v (v_move rfl) rfl ?_)
      | (refine op_skip rfl rfl (by simp [undef]) rfl ?_)
    first
      | (refine op_want rfl rfl ?_
         refine op_v (v_not rfl) rfl ?_)
      | (refine op_skip rfl rfl (by simp [undef]) rfl ?_)
    first
      | (refine op_want rfl rfl ?_
         refine op_v (v_move rfl) rfl ?_)
      | (refine op_skip rfl rfl (by simp [undef]) rfl ?_)
    first
      | (refine op_want rfl rfl ?_
         refine op_v (v_load6 ty153 rfl rfl) rfl ?_)
      | (refine op_skip rfl rfl (by simp [undef]) rfl ?_)
    first
      | (refine op_want rfl rfl ?_
         first | refine op_v (v_fieldB 1 Try.underlying153 rfl rfl fz49 rfl) rfl ?_ | refine op_v (v_fieldI 1 Try.underlying153 rfl rfl fz49 rfl (by assumption)) rfl ?_ | refine op_v (v_field Try.underlying153 rfl fz49 rfl rfl) rfl ?_)
      | (refine op_skip rfl rfl (by simp [undef]) rfl ?_)
    first
      | (refine op_want rfl rfl ?_
         first | refine op_v (v_fieldB 3 Try.underlying49 rfl rfl fz47 rfl) rfl ?_ | refine op_v (v_fieldI 3 Try.underlying49 rfl rfl fz47 rfl (by assumption)) rfl ?_ | refine op_v (v_field Try.underlying49 rfl fz47 rfl rfl) rfl ?_)
      | (refine op_skip rfl rfl (by simp [undef]) rfl ?_)
    first
      | (refine op_want rfl rfl ?_
         refine op_v (v_loadA ty47 rfl rfl) rfl ?_)
      | (refine op_skip rfl rfl (by simp [undef]) rfl ?_)
    first
      | (refine op_want rfl rfl ?_
         refine op_call pl164 rfl rfl ((truth_does (cs := liC x la lc ra rc) (hg.mono Imm.leA) (hr.mono Imm.leA) ⟨_, _, _, _, _, rfl⟩ h2)) Parts.none ?_
         rintro _ I25 _ hI25 ⟨rfl, rfl⟩)
      | (refine op_skip rfl rfl (by simp [undef]) rfl ?_)
    by_cases e3 : trL gs x.r = true
    · rw [e3]
      first
        | (refine op_want rfl rfl ?_
           first | refine op_v (v_pickt rfl rfl) rfl ?_ | refine op_v (v_pickf rfl rfl) rfl ?_ | refine op_v (v_pickb rfl rfl rfl) rfl ?_)
        | (refine op_skip rfl rfl (by simp [undef]) rfl ?_)
      first | refine op_v (v_pickt rfl rfl) rfl ?_ | refine op_v (v_pickf rfl rfl) rfl ?_ | refine op_v (v_pickb rfl rfl rfl) rfl ?_
      refine ops_nil ?_
      refine post_next ?_
      refine code_cond_t rfl ?_
      refine code_seq ?_
      refine code_region ?_
      refine op_v (v_assign rfl) rfl ?_
      refine ops_nil ?_
      refine post_next ?_
      refine code_ret ?_
      refine post_ret_then ?_
      refine post_ret (rs := [.tmp 2]) rfl (List.Perm.refl _) (.cons (.tmp rfl) .nil) (List.nil_sublist _) ?_
      exact ⟨by rw [if_pos (by simp [sortL, e1', e3])]; rfl, rfl⟩
    · have e3' : trL gs x.r = false := by simpa using e3
      rw [e3']
      first
        | (refine op_want rfl rfl ?_
           first | refine op_v (v_pickt rfl rfl) rfl ?_ | refine op_v (v_pickf rfl rfl) rfl ?_ | refine op_v (v_pickb rfl rfl rfl) rfl ?_)
        | (refine op_skip rfl rfl (by simp [undef]) rfl ?_)
      first | refine op_v (v_pickt rfl rfl) rfl ?_ | refine op_v (v_pickf rfl rfl) rfl ?_ | refine op_v (v_pickb rfl rfl rfl) rfl ?_
      refine ops_nil ?_
      refine post_next ?_
      refine code_cond_f rfl ?_
      refine code_skip ?_
      refine post_next ?_
      refine code_seq ?_
      refine code_region ?_
      refine op_v (v_assign rfl) rfl ?_
      refine ops_nil ?_
      refine post_next ?_
      refine code_ret ?_
      refine post_ret (rs := [.tmp 2]) rfl (List.Perm.refl _) (.cons (.tmp rfl) .nil) (List.nil_sublist _) ?_
      exact ⟨by rw [if_neg (by simp [sortL, e1', e3'])]; rfl, rfl⟩
theorem first_does {I : Imm} {A : Option Addr} {vg : Value} {x : Li} {la ra : Option Addr} {lc rc : Nat} {fs : List Value} {es : List Int} (hcells : Cells I A fs) (hlen : fs.length = es.length) (hl3 : fs.length ≤ 1000) (hg1 : vg.oneCell' = true)
    (hf : ∀ J i (h : i < fs.length), I.le J → (∀ j (hj : j < es.length), j < i → es[j] = 0) → FDoes Try.prog fs[i] [.agg #[vg, .bool x.neg, .int .i64 x.l.head, .slice la x.l.args.length lc, .int .i64 x.r.head, .slice ra x.r.args.length rc]] J [] (fun v _ δ' => v = .int .i64 (es[i]'(by omega)) ∧ δ' = [])) :
    Does Try.prog 131 [.agg #[vg, .bool x.neg, .int .i64 x.l.head, .slice la x.l.args.length lc, .int .i64 x.r.head, .slice ra x.r.args.length rc], .slice A fs.length fs.length] I [] (fun v _ δ' => v = .int .i64 (orI es) ∧ δ' = []) := by
  have hat : ∀ i (h : i < fs.length), At I A (i * 1) [fs[i]] := fun i h => hcells.at _ fun j u hj => by
    rcases j with _ | j
    · simp at hj; subst hj; simp [h]
    · simp at hj
  refine Does.intro Try.func131 rfl Try.ntmps131 rfl fun w0 => ?_
  refine code_seq ?_
  refine code_region ?_
  refine o_box rfl rfl rfl (fun b2 => ?_)
  refine op_v (v_assign rfl) rfl ?_
  refine ops_nil ?_
  refine post_next ?_
  refine code_seq ?_
  refine code_seq ?_
  refine code_region ?_
  refine op_v (v_move rfl) rfl ?_
  refine op_v (v_len Try.underlying181 rfl) rfl ?_
  refine op_v (v_move rfl) rfl ?_
  refine ops_nil ?_
  refine post_next ?_
  refine code_block ?_
  refine code_loop (fun m σ' I' δ' => ∃ k : Nat, m = fs.length - k ∧ k ≤ fs.length ∧ σ' = [(2, .pointer (some ⟨b2, 0, none⟩)), (8, .slice A fs.length fs.length), (9, .int .i64 fs.length), (10, .int .i64 k)] ∧ I.le I' ∧ δ' = [.box b2 153 [vg, .bool x.neg, .int .i64 x.l.head, .slice la x.l.args.length lc, .int .i64 x.r.head, .slice ra x.r.args.length rc]] ∧ orI es = orI (es.drop k) ∧ ∀ j (hj : j < es.length), j < k → es[j] = 0) fs.length [(2, .pointer (some ⟨b2, 0, none⟩)), (8, .slice A fs.length fs.length), (9, .int .i64 fs.length), (10, .int .i64 (0 : Nat))] ⟨0, rfl, Nat.zero_le _, rfl, Imm.le_refl _, rfl, rfl, fun j _ h => by omega⟩ ⟨rfl, rfl, rfl, rfl, trivial⟩ ?_
  rintro m _ I0 _ ⟨k, rfl, hk, rfl, hI0, rfl, hp, hz⟩
  refine code_seq ?_
  refine code_region ?_
  first | refine op_v (v_cmptA rfl rfl rfl) rfl ?_ | refine op_v (v_cmpfA rfl rfl rfl) rfl ?_ | refine op_v (v_cmp rfl rfl rfl) rfl ?_
  refine ops_nil ?_
  refine post_next ?_
  refine code_seq ?_
  refine code_cond rfl (fun hc0 => ?_) (fun hc0 => ?_)
  · have hlt : k < fs.length := by simpa using hc0
    have hlt2 : k < es.length := by omega
    have hs1 := (hat k hlt).isSome
    rw [List.drop_eq_getElem_cons hlt2] at hp
    refine code_skip ?_
    refine post_next ?_
    refine code_seq ?_
    refine code_block ?_
    refine code_seq ?_
    refine code_region ?_
    first | refine op_v (v_indexA Try.underlying181 sz154 rfl rfl) rfl ?_ | refine op_v (v_indexIA Try.underlying181 sz154 rfl rfl) rfl ?_
    first | refine op_v (v_loadI0 ty154 ((hat k hlt).mono hI0) rfl rfl rfl) rfl ?_ | refine op_v (v_loadI ty154 ((hat k hlt).mono hI0) rfl rfl rfl) rfl ?_
    refine op_v (v_assign rfl) rfl ?_
    refine ops_nil ?_
    refine post_next ?_
    refine code_seq ?_
    refine code_region ?_
    refine op_v (v_move rfl) rfl ?_
    refine op_v (v_load6 ty153 rfl rfl) rfl ?_
    refine op_fcall rfl rfl rfl ((hf _ k hlt Imm.leA hz)) Parts.none ?_
    rintro _ I16 _ hI16 ⟨rfl, rfl⟩
    refine op_v (v_assign rfl) rfl ?_
    refine ops_nil ?_
    refine post_next ?_
    refine code_seq ?_
    refine code_region ?_
    refine op_v (v_move rfl) rfl ?_
    first | refine op_v (v_cmptA rfl rfl rfl) rfl ?_ | refine op_v (v_cmpfA rfl rfl rfl) rfl ?_ | refine op_v (v_cmp rfl rfl rfl) rfl ?_
    refine ops_nil ?_
    refine post_next ?_
    refine code_cond rfl (fun hc1 => ?_) (fun hc1 => ?_)
    · have hne : es[k] ≠ 0 := by simpa using hc1
      refine code_seq ?_
      refine code_region ?_
      refine op_v (v_move rfl) rfl ?_
      refine op_v (v_assign rfl) rfl ?_
      refine ops_nil ?_
      refine post_next ?_
      refine code_ret ?_
      refine post_ret_block ?_
      refine post_ret_then ?_
      refine post_ret_then ?_
      refine post_ret_block ?_
      refine post_ret_then ?_
      refine post_ret (rs := [.tmp 4]) rfl (List.Perm.refl _) (.cons (.tmp rfl) .nil) (List.nil_sublist _) ?_
      exact ⟨by rw [hp]; simp [outV, orI, hne], rfl⟩
    · have heq : es[k] = 0 := by simpa using hc1
      refine code_skip ?_
      refine post_out ?_
      refine post_next ?_
      refine code_region ?_
      first | refine op_v (v_addb rfl rfl rfl (by omega)) rfl ?_ | refine op_v (v_add rfl rfl) rfl ?_
      refine op_v (v_move rfl) rfl ?_
      refine ops_nil ?_
      refine post_again (fs.length - (k + 1)) [(2, .pointer (some ⟨b2, 0, none⟩)), (8, .slice A fs.length fs.length), (9, .int .i64 fs.length), (10, .int .i64 (k + 1 : Nat))] (by omega) ⟨k + 1, rfl, hlt, rfl, Imm.leA, rfl, by rw [hp]; simp [orI, heq], fun j hj hjk => ?_⟩ ⟨rfl, rfl, rfl, rfl, trivial⟩
      rcases Nat.lt_or_ge j k with hq | hq
      · exact hz j hj hq
      have hq2 : j = k := by omega
      subst hq2
      exact heq
  · have hge : k = es.length := by simp at hc0; omega
    rw [hge, List.drop_length] at hp
    refine code_exit ?_
    refine post_exit_then ?_
    refine post_exit_then ?_
    refine post_exit ?_
    refine post_next ?_
    refine code_seq ?_
    refine code_region ?_
    refine op_v (v_assign rfl) rfl ?_
    refine ops_nil ?_
    refine post_next ?_
    refine code_ret ?_
    refine post_ret (rs := [.tmp 4]) rfl (List.Perm.refl _) (.cons (.tmp rfl) .nil) (List.nil_sublist _) ?_
    exact ⟨by rw [hp]; simp [outV, orI], rfl⟩

theorem LCheck_does {I : Imm} {vg va : Value} {gs : List Sy} {x : Li} (hg : RepG I vg gs) (ha : RepL I va x) (h1 : x.l.size ≤ 1000000000) (h2 : x.r.size ≤ 1000000000) :
    Does Try.prog 94 [vg, va] I [] (fun v _ δ' => v = .int .i64 (litG gs x) ∧ δ' = []) := by
  obtain ⟨la, lc, ra, rc, rfl, hl, hr⟩ := ha
  obtain ⟨ga, gc, rfl⟩ := hg.shape
  have hor : orI [termG gs x.l, termG gs x.r, if sortL gs x = true then 10 else 0] = litG gs x := by
    unfold litG; simp only [orI]
    split <;> (try rfl)
    split <;> (try rfl)
    split <;> rfl
  refine Does.intro Try.func94 rfl Try.ntmps94 rfl fun w0 => ?_
  refine code_seq ?_
  refine code_region ?_
  refine o_box rfl rfl rfl (fun b3 => ?_)
  refine op_v (v_assign rfl) rfl ?_
  refine ops_nil ?_
  refine post_next ?_
  refine code_seq ?_
  refine code_region ?_
  refine op_v (v_move rfl) rfl ?_
  refine op_v (v_loadA ty49 rfl rfl) rfl ?_
  refine op_v (v_build (cs := [.slice ga gs.length gc, .bool x.neg, .int .i64 x.l.head, .slice la x.l.args.length lc, .int .i64 x.r.head, .slice ra x.r.args.length rc]) bl153 rfl rfl) rfl ?_
  refine o_buildSlice (xs := [(Go.Operand.func 132), (Go.Operand.func 133), (Go.Operand.func 134)]) Try.underlying181 bs154 rfl rfl rfl rfl rfl (fun b8 => ?_)
  refine OpsJ.freezeRow Del.here ?_
  rintro I8 a8 c8 hI8 hq hc8 hl8 hcells8
  cases hq
  have hc3 : Cells I8 _ [.func (.func 132) #[] #[], .func (.func 133) #[] #[], .func (.func 134) #[] #[]] := hcells8
  have hF0 : ∀ J, I8.le J → FDoes Try.prog (.func (.func 132) #[] #[]) [.agg #[.slice ga gs.length gc, .bool x.neg, .int .i64 x.l.head, .slice la x.l.args.length lc, .int .i64 x.r.head, .slice ra x.r.args.length rc]] J [] (fun v _ δ' => v = .int .i64 (termG gs x.l) ∧ δ' = []) := fun J hJ => FDoes.ofFunc (caps := []) (show Plainf Try.prog 132 = true by kernel_rfl) (left_does (x := x) (hg.mono Imm.leA) (hl.mono Imm.leA) h1)
  have hF1 : ∀ J, I8.le J → FDoes Try.prog (.func (.func 133) #[] #[]) [.agg #[.slice ga gs.length gc, .bool x.neg, .int .i64 x.l.head, .slice la x.l.args.length lc, .int .i64 x.r.head, .slice ra x.r.args.length rc]] J [] (fun v _ δ' => v = .int .i64 (termG gs x.r) ∧ δ' = []) := fun J hJ => FDoes.ofFunc (caps := []) (show Plainf Try.prog 133 = true by kernel_rfl) (right_does (x := x) (hg.mono Imm.leA) (hr.mono Imm.leA) h2)
  have hF2 : ∀ J, I8.le J → OkG gs x.l → OkG gs x.r → FDoes Try.prog (.func (.func 134) #[] #[]) [.agg #[.slice ga gs.length gc, .bool x.neg, .int .i64 x.l.head, .slice la x.l.args.length lc, .int .i64 x.r.head, .slice ra x.r.args.length rc]] J [] (fun v _ δ' => v = .int .i64 (if sortL gs x = true then 10 else 0) ∧ δ' = []) := fun J hJ z1 z2 => by
    have q1 := z1.heads (true, x.l) (by rw [visT_eq]; exact List.mem_cons_self ..)
    have q2 := z2.heads (true, x.r) (by rw [visT_eq]; exact List.mem_cons_self ..)
    simp only at q1 q2
    exact FDoes.ofFunc (caps := []) (show Plainf Try.prog 134 = true by kernel_rfl) (sorts_does (x := x) (hg.mono Imm.leA) (hl.mono Imm.leA) (hr.mono Imm.leA) (by omega) (by omega))
  have hF : ∀ J i (h : i < [Value.func (.func 132) #[] #[], Value.func (.func 133) #[] #[], Value.func (.func 134) #[] #[]].length), I8.le J → (∀ j (hj : j < [termG gs x.l, termG gs x.r, if sortL gs x = true then 10 else 0].length), j < i → [termG gs x.l, termG gs x.r, if sortL gs x = true then 10 else 0][j] = 0) → FDoes Try.prog [Value.func (.func 132) #[] #[], Value.func (.func 133) #[] #[], Value.func (.func 134) #[] #[]][i] [.agg #[.slice ga gs.length gc, .bool x.neg, .int .i64 x.l.head, .slice la x.l.args.length lc, .int .i64 x.r.head, .slice ra x.r.args.length rc]] J [] (fun v _ δ' => v = .int .i64 ([termG gs x.l, termG gs x.r, if sortL gs x = true then 10 else 0][i]'(by simpa using h)) ∧ δ' = []) := fun J i hi hJ hz => by
    rcases i with _ | _ | _ | i
    · exact hF0 J hJ
    · exact hF1 J hJ
    · exact hF2 J hJ (termG_ok.1 (hz 0 (by simp) (by omega))) (termG_ok.1 (hz 1 (by simp) (by omega)))
    · simp at hi; omega
  have hfd := first_does (A := some ⟨b8, 0, none⟩) (x := x) (vg := .slice ga gs.length gc) (la := la) (ra := ra) (lc := lc) (rc := rc) (es := [termG gs x.l, termG gs x.r, if sortL gs x = true then 10 else 0]) hc3 (by simp) (by simp) rfl hF
  rw [hor] at hfd
  refine op_call pl131 rfl rfl (hfd) Parts.none ?_
  rintro _ I9 _ hI9 ⟨rfl, rfl⟩
  refine op_v (v_assign rfl) rfl ?_
  refine ops_nil ?_
  refine post_next ?_
  refine code_ret ?_
  refine post_ret (rs := [.tmp 4]) rfl (List.Perm.refl _) (.cons (.tmp rfl) .nil) (List.nil_sublist _) ?_
  exact ⟨rfl, rfl⟩
end Go.Proofs.Ytdbadicpbmndbaa
/- Walks: a clause's sides, what is left of it, whether it always holds, whether it is right, its variables. -/
set_option linter.unusedVariables false
set_option linter.unusedSimpArgs false
set_option linter.unnecessarySimpa false
/- short -/
namespace Go.Proofs.Ytdbadicpbmndbaa
open Go Lg

/-- sides of no great size -/
def SmC (c : List Li) : Prop := ∀ x ∈ c, x.l.size ≤ 1000000000 ∧ x.r.size ≤ 1000000000
theorem FewC.sm {c : List Li} (h : FewC c) : SmC c := fun x hx => by have := h.sides x hx; omega
theorem SmC.at {c : List Li} (h : SmC c) {k : Nat} (hk : k < c.length) : c[k].l.size ≤ 1000000000 ∧ c[k].r.size ≤ 1000000000 := h _ (List.getElem_mem hk)
theorem SmC.sub {c d : List Li} (h : SmC c) (hd : ∀ x ∈ d, x ∈ c) : SmC d := fun x hx => h x (hd x hx)
def chkLs (gs : List Sy) : List Li → Int
  | [] => 0
  | x :: r => if litG gs x ≠ 0 then litG gs x else chkLs gs r
def chkC (gs : List Sy) (c : List Li) : Int := if chkG gs ≠ 0 then chkG gs else if 32 < c.length then 2 else chkLs gs c
theorem chkLs_ok {gs : List Sy} : ∀ {c : List Li}, chkLs gs c = 0 ↔ ∀ x ∈ c, litG gs x = 0
  | [] => by simp [chkLs]
  | x :: r => by
    have ih := chkLs_ok (gs := gs) (c := r)
    simp only [chkLs]
    by_cases h : litG gs x ≠ 0
    · rw [if_pos h]; exact ⟨fun q => absurd q h, fun q => absurd (q x (List.mem_cons_self ..)) h⟩
    · rw [if_neg h, ih]
      exact ⟨fun q y hy => by rcases List.mem_cons.1 hy with rfl | hy; exact Classical.not_not.1 h; exact q y hy, fun q y hy => q y (List.mem_cons_of_mem _ hy)⟩
theorem CCheck_does {I : Imm} {vg v : Value} {gs : List Sy} {c : List Li} (hg : RepG I vg gs) (hv : RepC I v c) (hs : SmC c) :
    Does Try.prog 46 [vg, v] I [] (fun v I' δ' => v = .int .i64 (chkC gs c) ∧ δ' = []) := by
  obtain ⟨ad, c0, xs, rfl, hc, hb, hcells, hrow⟩ := hv
  refine Does.intro Try.func46 rfl Try.ntmps46 rfl fun w0 => ?_
  refine code_seq ?_
  refine code_region ?_
  refine op_v (v_assign rfl) rfl ?_
  refine ops_nil ?_
  refine post_next ?_
  refine code_seq ?_
  refine code_seq ?_
  refine code_region ?_
  refine op_v (v_move rfl) rfl ?_
  refine op_call pl93 rfl rfl ((GCheck_does hg)) Parts.none ?_
  rintro v10 I10 _ hI10 ⟨rfl, rfl⟩
  refine op_v (v_assign rfl) rfl ?_
  refine ops_nil ?_
  refine post_next ?_
  refine code_seq ?_
  refine code_region ?_
  refine op_v (v_move rfl) rfl ?_
  by_cases h12 : chkG gs ≠ 0
  · first | refine op_v (v_cmptA rfl rfl rfl) rfl ?_ | refine op_v (v_cmpfA rfl rfl rfl) rfl ?_ | refine op_v (v_cmp rfl rfl rfl) rfl ?_
    refine ops_nil ?_
    refine post_next ?_
    refine code_cond_t rfl ?_
    refine code_seq ?_
    refine code_region ?_
    refine op_v (v_move rfl) rfl ?_
    refine op_v (v_assign rfl) rfl ?_
    refine ops_nil ?_
    refine post_next ?_
    refine code_ret ?_
    refine post_ret_then ?_
    refine post_ret (rs := [.tmp 4]) rfl (List.Perm.refl _) (.cons (.tmp rfl) .nil) (List.nil_sublist _) ?_
    exact ⟨by rw [show chkC gs c = chkG gs from if_pos h12]; rfl, rfl⟩
  · first | refine op_v (v_cmptA rfl rfl rfl) rfl ?_ | refine op_v (v_cmpfA rfl rfl rfl) rfl ?_ | refine op_v (v_cmp rfl rfl rfl) rfl ?_
    refine ops_nil ?_
    refine post_next ?_
    refine code_cond_f rfl ?_
    refine code_skip ?_
    refine post_next ?_
    refine code_seq ?_
    refine code_seq ?_
    refine code_region ?_
    refine op_v (v_move rfl) rfl ?_
    refine op_v (v_len Try.underlying26 rfl) rfl ?_
    by_cases h16 : 32 < c.length
    · first | refine op_v (v_cmptA rfl rfl rfl) rfl ?_ | refine op_v (v_cmpfA rfl rfl rfl) rfl ?_ | refine op_v (v_cmp rfl rfl rfl) rfl ?_
      refine ops_nil ?_
      refine post_next ?_
      refine code_cond_t rfl ?_
      refine code_seq ?_
      refine code_region ?_
      refine op_v (v_assign rfl) rfl ?_
      refine ops_nil ?_
      refine post_next ?_
      refine code_ret ?_
      refine post_ret_then ?_
      refine post_ret (rs := [.tmp 4]) rfl (List.Perm.refl _) (.cons (.tmp rfl) .nil) (List.nil_sublist _) ?_
      exact ⟨by unfold chkC; rw [if_neg h12, if_pos h16]; rfl, rfl⟩
    · have hck : chkC gs c = chkLs gs c := by unfold chkC; rw [if_neg h12, if_neg h16]
      first | refine op_v (v_cmptA rfl rfl rfl) rfl ?_ | refine op_v (v_cmpfA rfl rfl rfl) rfl ?_ | refine op_v (v_cmp rfl rfl rfl) rfl ?_
      refine ops_nil ?_
      refine post_next ?_
      refine code_cond_f rfl ?_
      refine code_skip ?_
      refine post_next ?_
      refine code_seq ?_
      refine code_seq ?_
      refine code_region ?_
      refine op_v (v_move rfl) rfl ?_
      refine op_v (v_len Try.underlying26 rfl) rfl ?_
      refine op_v (v_move rfl) rfl ?_
      refine ops_nil ?_
      refine post_next ?_
      refine code_block ?_
      refine code_loop (fun m σ' I' δ' => ∃ k : Nat, m = c.length - k ∧ k ≤ c.length ∧ σ' = [(0, vg), (17, .slice ad c.length c0), (18, .int .i64 c.length), (19, .int .i64 k)] ∧ I.le I' ∧ δ' = [] ∧ chkLs gs c = chkLs gs (c.drop k)) c.length [(0, vg), (17, .slice ad c.length c0), (18, .int .i64 c.length), (19, .int .i64 (0 : Nat))] ⟨0, rfl, Nat.zero_le _, rfl, Imm.leA, rfl, rfl⟩ ⟨rfl, rfl, rfl, rfl, trivial⟩ ?_
      rintro m _ I0 _ ⟨k, rfl, hk, rfl, hI0, rfl, hta⟩
      refine code_seq ?_
      refine code_region ?_
      first | refine op_v (v_cmptA rfl rfl rfl) rfl ?_ | refine op_v (v_cmpfA rfl rfl rfl) rfl ?_ | refine op_v (v_cmp rfl rfl rfl) rfl ?_
      refine ops_nil ?_
      refine post_next ?_
      refine code_seq ?_
      refine code_cond rfl (fun hc2 => ?_) (fun hc2 => ?_)
      · have hlt : k < c.length := by simpa using hc2
        obtain ⟨vs, ⟨la, lc, ra, rc, rfl, hl, hr⟩, hat⟩ := hrow.cellsAt hcells hlt
        have hs1 := hat.isSome
        have hsk := hs.at hlt
        rw [List.drop_eq_getElem_cons hlt] at hta
        refine code_skip ?_
        refine post_next ?_
        refine code_seq ?_
        refine code_block ?_
        refine code_seq ?_
        refine code_region ?_
        first | refine op_v (v_indexA Try.underlying26 sz49 rfl rfl) rfl ?_ | refine op_v (v_indexIA Try.underlying26 sz49 rfl rfl) rfl ?_
        first | refine op_v (v_loadI0 ty49 (hat.mono hI0) rfl rfl rfl) rfl ?_ | refine op_v (v_loadI ty49 (hat.mono hI0) rfl rfl rfl) rfl ?_
        refine o_alloc z49 rfl rfl (fun b7 => ?_)
        refine o_store ty49 rfl rfl rfl rfl rfl (by repeat (first | exact Swap.here | apply Swap.there)) rfl ?_
        refine ops_nil ?_
        refine post_next ?_
        refine code_seq ?_
        refine code_region ?_
        refine op_v (v_move rfl) rfl ?_
        refine op_v (v_loadA ty49 rfl rfl) rfl ?_
        refine op_call pl94 rfl rfl ((LCheck_does (x := c[k]) (hg.mono hI0) ⟨la, lc, ra, rc, rfl, hl.mono hI0, hr.mono hI0⟩ hsk.1 hsk.2)) Parts.none ?_
        rintro v25 I25 _ hI25 ⟨rfl, rfl⟩
        refine op_v (v_assign rfl) rfl ?_
        refine ops_nil ?_
        refine post_next ?_
        refine code_seq ?_
        refine code_region ?_
        refine op_v (v_move rfl) rfl ?_
        by_cases h27 : litG gs c[k] ≠ 0
        · first | refine op_v (v_cmptA rfl rfl rfl) rfl ?_ | refine op_v (v_cmpfA rfl rfl rfl) rfl ?_ | refine op_v (v_cmp rfl rfl rfl) rfl ?_
          refine ops_nil ?_
          refine post_next ?_
          refine code_cond_t rfl ?_
          refine code_seq ?_
          refine code_region ?_
          refine op_v (v_move rfl) rfl ?_
          refine op_v (v_assign rfl) rfl ?_
          refine ops_nil ?_
          refine post_next ?_
          refine code_ret ?_
          refine post_ret_block ?_
          refine post_ret_then ?_
          refine post_ret_then ?_
          refine post_ret_block ?_
          refine post_ret_then ?_
          refine post_ret (rs := [.tmp 4]) rfl (List.Perm.refl _) (.cons (.tmp rfl) .nil) (List.nil_sublist _) ?_
          exact ⟨by rw [hck, hta, chkLs, if_pos h27]; rfl, rfl⟩
        · first | refine op_v (v_cmptA rfl rfl rfl) rfl ?_ | refine op_v (v_cmpfA rfl rfl rfl) rfl ?_ | refine op_v (v_cmp rfl rfl rfl) rfl ?_
          refine ops_nil ?_
          refine post_next ?_
          refine code_cond_f rfl ?_
          refine code_skip ?_
          refine post_out ?_
          refine post_next ?_
          refine code_region ?_
          first | refine op_v (v_addb rfl rfl rfl (by omega)) rfl ?_ | refine op_v (v_add rfl rfl) rfl ?_
          refine op_v (v_move rfl) rfl ?_
          refine ops_nil ?_
          refine PostJ.view (View.drop Del.here) ?_
          refine post_again (c.length - (k + 1)) [(0, vg), (17, .slice ad c.length c0), (18, .int .i64 c.length), (19, .int .i64 (k + 1 : Nat))] (by omega) ⟨k + 1, rfl, hlt, rfl, Imm.leA, rfl, by rw [hta, chkLs, if_neg h27]⟩ ⟨rfl, rfl, rfl, rfl, trivial⟩
      · have hge : k = c.length := by simp at hc2; omega
        subst hge
        rw [List.drop_length] at hta
        refine code_exit ?_
        refine post_exit_then ?_
        refine post_exit_then ?_
        refine post_exit ?_
        refine post_next ?_
        refine code_seq ?_
        refine code_region ?_
        refine op_v (v_assign rfl) rfl ?_
        refine ops_nil ?_
        refine post_next ?_
        refine code_ret ?_
        refine post_ret (rs := [.tmp 4]) rfl (List.Perm.refl _) (.cons (.tmp rfl) .nil) (List.nil_sublist _) ?_
        exact ⟨by rw [hck, hta]; rfl, rfl⟩
end Go.Proofs.Ytdbadicpbmndbaa
/- Variables as they come: plainly, and walks: the renamer, rows and clauses of other variables, a clause's variables. -/
set_option linter.unusedVariables false
set_option linter.unusedSimpArgs false
set_option linter.unnecessarySimpa false
/- short -/
namespace Go.Proofs.Ytdbadicpbmndbaa
open Go Lg

/-! ### plain -/
def numOf : List Int → Int → Nat
  | [], _ => 0
  | x :: r, v => if x = v then 0 else numOf r v + 1
def addN (ns : List Int) (v : Int) : List Int := if v ∈ ns then ns else ns ++ [v]
theorem numOf_app : ∀ {ns : List Int} {v : Int} (ms : List Int), v ∈ ns → numOf (ns ++ ms) v = numOf ns v
  | x :: r, v, ms, h => by
    simp only [numOf, List.cons_append]
    by_cases e : x = v
    · rw [if_pos e, if_pos e]
    · rw [if_neg e, if_neg e, numOf_app ms (List.mem_of_ne_of_mem (fun q => e q.symm) h)]
theorem numOf_new : ∀ {ns : List Int} {v : Int}, v ∉ ns → numOf (ns ++ [v]) v = ns.length
  | [], v, _ => by simp [numOf]
  | x :: r, v, h => by
    simp only [numOf, List.cons_append]
    rw [if_neg (fun e => h (by simp [e])), numOf_new (fun q => h (List.mem_cons_of_mem _ q))]; rfl
/-- a map of numbers -/
def MN (mp : Mp) (ns : List Int) : Prop := mp.length = ns.length ∧ ∀ v, mget mp v = if v ∈ ns then some (.int .i64 (numOf ns v : Nat)) else none
theorem MN.nil : MN [] [] := ⟨rfl, fun v => by simp [mget]⟩
theorem MN.add {mp : Mp} {ns : List Int} {v : Int} (h : MN mp ns) (hv : v ∉ ns) : MN (mput mp v (.int .i64 ns.length)) (addN ns v) := by
  have hn : mget mp v = none := by rw [h.2, if_neg hv]
  have e : addN ns v = ns ++ [v] := by unfold addN; rw [if_neg hv]
  refine ⟨?_, fun u => ?_⟩
  · have := congrArg List.length (mput_keys mp v (.int .i64 ns.length))
    rw [if_pos hn] at this
    simp only [List.length_map, List.length_append, List.length_cons, List.length_nil] at this
    rw [this, e, h.1]; simp
  · rw [mget_mput, e]
    by_cases q : v = u
    · subst q; rw [if_pos rfl, if_pos (by simp), numOf_new hv]
    · rw [if_neg q, h.2]
      by_cases m : u ∈ ns
      · rw [if_pos m, if_pos (by simp [m]), numOf_app _ m]
      · rw [if_neg m, if_neg (by simp [m]; exact fun e => q e.symm)]
/-! ### walks -/
/-! ### a clause's variables -/
end Go.Proofs.Ytdbadicpbmndbaa
/- Walks: how two literals stand; a literal oriented; the example of the chapter on literals. -/
set_option linter.unusedVariables false
set_option linter.unusedSimpArgs false
set_option linter.unnecessarySimpa false
/- short -/
namespace Go.Proofs.Ytdbadicpbmndbaa
open Go Lg

def litE (gs : List Sy) (x y : Li) : Int := if litG gs x ≠ 0 then litG gs x else litG gs y
theorem rowL_mem {x : Li} {t : T} (h : t ∈ rowL x) : t = x.l ∨ t = x.r := by
  unfold rowL at h
  split at h <;> simp at h <;> exact h
theorem rowL_len (x : Li) : (rowL x).length ≤ 4 := by unfold rowL; split <;> simp
theorem LCompare_does {I : Imm} {vg va vb : Value} {gs : List Sy} {x y : Li} (hg : RepG I vg gs) (ha : RepL I va x) (hb : RepL I vb y) (h1 : x.l.size ≤ 1000000000) (h2 : x.r.size ≤ 1000000000) (h3 : y.l.size ≤ 1000000000) (h4 : y.r.size ≤ 1000000000) :
    Does Try.prog 49 [vg, va, vb] I [] (fun v _ δ' => v = .tuple #[.int .i64 (if litE gs x y = 0 then mulG gs (rowL x) (rowL y) else 0), .int .i64 (litE gs x y)] ∧ δ' = []) := by
  have ha0 := ha
  have hb0 := hb
  obtain ⟨la, lc, ra, rc, rfl, hl, hr⟩ := ha
  obtain ⟨ma, mc, na, nc, rfl, kl, kr⟩ := hb
  have hx1 := rowL_len x
  have hy1 := rowL_len y
  refine Does.intro Try.func49 rfl Try.ntmps49 rfl fun w0 => ?_
  refine code_seq ?_
  refine code_region ?_
  refine o_box rfl rfl rfl (fun b4 => ?_)
  refine o_box rfl rfl rfl (fun b5 => ?_)
  refine op_v (v_assign rfl) rfl ?_
  refine op_v (v_assign rfl) rfl ?_
  refine ops_nil ?_
  refine post_next ?_
  refine code_seq ?_
  refine code_seq ?_
  refine code_region ?_
  refine op_v (v_move rfl) rfl ?_
  refine op_v (v_loadA ty49 rfl rfl) rfl ?_
  refine op_call pl94 rfl rfl ((LCheck_does (hg.mono Imm.leA) (ha0.mono Imm.leA) h1 h2)) Parts.none ?_
  rintro _ I12 _ hI12 ⟨rfl, rfl⟩
  refine op_v (v_assign rfl) rfl ?_
  refine ops_nil ?_
  refine post_next ?_
  refine code_seq ?_
  refine code_region ?_
  refine op_v (v_move rfl) rfl ?_
  by_cases e1 : litG gs x ≠ 0
  · first | refine op_v (v_cmptA rfl rfl rfl) rfl ?_ | refine op_v (v_cmpfA rfl rfl rfl) rfl ?_ | refine op_v (v_cmp rfl rfl rfl) rfl ?_
    refine ops_nil ?_
    refine post_next ?_
    refine code_cond_t rfl ?_
    refine code_seq ?_
    refine code_region ?_
    refine op_v (v_move rfl) rfl ?_
    refine op_v (v_assign rfl) rfl ?_
    refine op_v (v_assign rfl) rfl ?_
    refine ops_nil ?_
    refine post_next ?_
    refine code_ret ?_
    refine post_ret_then ?_
    refine post_ret (rs := [.tmp 6, .tmp 7]) rfl (List.Perm.refl _) (.cons (.tmp rfl) (.cons (.tmp rfl) .nil)) (List.nil_sublist _) ?_
    have e : litE gs x y = litG gs x := by unfold litE; rw [if_pos e1]
    exact ⟨by rw [e, if_neg e1]; rfl, rfl⟩
  · first | refine op_v (v_cmptA rfl rfl rfl) rfl ?_ | refine op_v (v_cmpfA rfl rfl rfl) rfl ?_ | refine op_v (v_cmp rfl rfl rfl) rfl ?_
    refine ops_nil ?_
    refine post_next ?_
    refine code_cond_f rfl ?_
    refine code_skip ?_
    refine post_next ?_
    refine code_seq ?_
    refine code_seq ?_
    refine code_region ?_
    refine op_v (v_move rfl) rfl ?_
    refine op_v (v_loadA ty49 rfl rfl) rfl ?_
    refine op_call pl94 rfl rfl ((LCheck_does (hg.mono Imm.leA) (hb0.mono Imm.leA) h3 h4)) Parts.none ?_
    rintro _ I18 _ hI18 ⟨rfl, rfl⟩
    refine op_v (v_assign rfl) rfl ?_
    refine ops_nil ?_
    refine post_next ?_
    refine code_seq ?_
    refine code_region ?_
    refine op_v (v_move rfl) rfl ?_
    by_cases e2 : litG gs y ≠ 0
    · first | refine op_v (v_cmptA rfl rfl rfl) rfl ?_ | refine op_v (v_cmpfA rfl rfl rfl) rfl ?_ | refine op_v (v_cmp rfl rfl rfl) rfl ?_
      refine ops_nil ?_
      refine post_next ?_
      refine code_cond_t rfl ?_
      refine code_seq ?_
      refine code_region ?_
      refine op_v (v_move rfl) rfl ?_
      refine op_v (v_assign rfl) rfl ?_
      refine op_v (v_assign rfl) rfl ?_
      refine ops_nil ?_
      refine post_next ?_
      refine code_ret ?_
      refine post_ret_then ?_
      refine post_ret (rs := [.tmp 6, .tmp 7]) rfl (List.Perm.refl _) (.cons (.tmp rfl) (.cons (.tmp rfl) .nil)) (List.nil_sublist _) ?_
      have e : litE gs x y = litG gs y := by unfold litE; rw [if_neg e1]
      exact ⟨by rw [e, if_neg e2]; rfl, rfl⟩
    · have e : litE gs x y = 0 := by unfold litE; rw [if_neg e1]; omega
      obtain ⟨o1, o2⟩ := litG_ok (show litG gs x = 0 by omega)
      obtain ⟨o3, o4⟩ := litG_ok (show litG gs y = 0 by omega)
      have hw : wrongG gs (rowL x ++ rowL y) = 0 := wrongG_ok.2 fun t ht => by
        rcases List.mem_append.1 ht with h | h
        · rcases rowL_mem h with rfl | rfl <;> assumption
        · rcases rowL_mem h with rfl | rfl <;> assumption
      have hsx : ∀ t ∈ rowL x, t.size ≤ 1000000000 := fun t ht => by rcases rowL_mem ht with rfl | rfl <;> assumption
      have hsy : ∀ t ∈ rowL y, t.size ≤ 1000000000 := fun t ht => by rcases rowL_mem ht with rfl | rfl <;> assumption
      first | refine op_v (v_cmptA rfl rfl rfl) rfl ?_ | refine op_v (v_cmpfA rfl rfl rfl) rfl ?_ | refine op_v (v_cmp rfl rfl rfl) rfl ?_
      refine ops_nil ?_
      refine post_next ?_
      refine code_cond_f rfl ?_
      refine code_skip ?_
      refine post_next ?_
      refine code_seq ?_
      refine code_draw (.fl 0 (.fl 1 (.fl 3 (.ef 2 (.ef 4 (.ef 5 (.fl 6 (.fl 7 (.ef 8 (.ef 9 .done)))))))))) (fun _ => _) mixed (by kernel_rfl) (by kernel_rfl) (fun _ => (List.Sublist.refl _)) ?_
      refine e_fl rfl rfl (fun hs_ => PF.mk rfl (v_move rfl) hs_) ?_
      refine e_fl rfl rfl (fun hs_ => PF.mk rfl (v_loadA ty49 rfl rfl) hs_) ?_
      refine e_fl rfl rfl (fun hs_ => PF.mk rfl (v_loadA ty49 rfl rfl) hs_) ?_
      refine e_eff rfl (by intro cs b hc; cases hc) (by intro c hc; cases hc) ?_
      refine op_call pl98 rfl rfl ((row_doesL (ha0.mono Imm.leA))) Parts.none ?_
      rintro v24 I24 _ hI24 ⟨hv24, rfl⟩
      refine ops_nil ?_
      refine e_next rfl side_allA ?_
      refine e_eff rfl (by intro cs b hc; cases hc) (by intro c hc; cases hc) ?_
      refine op_call pl98 rfl rfl ((row_doesL (hb0.mono Imm.leA))) Parts.none ?_
      rintro v26 I26 _ hI26 ⟨hv26, rfl⟩
      refine ops_nil ?_
      refine e_next rfl side_allA ?_
      refine e_eff rfl (by intro cs b hc; cases hc) (by intro c hc; cases hc) ?_
      refine op_call pl97 rfl rfl ((Multi_does (hg.mono Imm.leA) (hv24.mono Imm.leA) (hv26.mono Imm.leA) hsx hsy (by omega) (by omega))) Parts.none ?_
      rintro _ I27 _ hI27 ⟨rfl, rfl⟩
      rw [if_pos hw, hw]
      refine ops_nil ?_
      refine e_next rfl (side_nil (by kernel_rfl)) ?_
      refine e_fl rfl rfl (fun hs_ => PF.mk rfl (v_extract rfl rfl) hs_) ?_
      refine e_fl rfl rfl (fun hs_ => PF.mk rfl (v_extract rfl rfl) hs_) ?_
      refine e_eff rfl (by intro cs b hc; cases hc) (by intro c hc; cases hc) ?_
      refine op_v (v_assign rfl) rfl ?_
      refine ops_nil ?_
      refine e_next rfl (side_nil (by kernel_rfl)) ?_
      refine e_eff rfl (by intro cs b hc; cases hc) (by intro c hc; cases hc) ?_
      refine op_v (v_assign rfl) rfl ?_
      refine ops_nil ?_
      refine e_next rfl (side_nil (by kernel_rfl)) ?_
      refine e_done ?_
      refine post_next ?_
      refine code_ret ?_
      refine post_ret (rs := [.tmp 6, .tmp 7]) rfl (List.Perm.refl _) (.cons (.tmp rfl) (.cons (.tmp rfl) .nil)) (List.nil_sublist _) ?_
      exact ⟨by rw [e, if_pos rfl]; rfl, rfl⟩
def a9 : T := .mk 1 []
end Go.Proofs.Ytdbadicpbmndbaa
/- Walks: a clause's variables; two clauses side by side; the example of the chapter on clauses. -/
set_option linter.unusedVariables false
set_option linter.unusedSimpArgs false
set_option linter.unnecessarySimpa false
/- short -/
namespace Go.Proofs.Ytdbadicpbmndbaa
open Go Lg

end Go.Proofs.Ytdbadicpbmndbaa
/- The order of terms, the other way round. Plain facts; no condition. -/
set_option linter.unusedVariables false
set_option linter.unusedSimpArgs false
namespace Go.Proofs.Ytdbadicpbmndbaa

end Go.Proofs.Ytdbadicpbmndbaa
/- Rows of things of which some are greater: what the rows' order is. Plain facts; no condition. -/
set_option linter.unusedVariables false
set_option linter.unusedSectionVars false
set_option linter.unusedSimpArgs false
namespace Go.Proofs.Ytdbadicpbmndbaa
section
variable {K : Type} [DecidableEq K]
variable (g : K → K → Bool)
variable {g}
/-- what is greater is so both ways -/
structure OrdX (g : K → K → Bool) (Ok : K → Prop) : Prop where
  irr : ∀ x, g x x = false
  tr : ∀ x y z, Ok x → Ok y → Ok z → g x y = true → g y z = true → g x z = true
/-- one is the greatest -/
theorem topX {Ok : K → Prop} (ho : OrdX g Ok) : ∀ (l : List K), 0 < l.length → (∀ x ∈ l, Ok x) → ∃ m ∈ l, ∀ x ∈ l, g x m = false
  | [x], _, _ => ⟨x, by simp, fun y hy => by simp at hy; subst hy; exact ho.irr _⟩
  | x :: y :: r, _, hk => by
    obtain ⟨m, hm, ht⟩ := topX ho (y :: r) (by simp) (fun z hz => hk z (List.mem_cons_of_mem _ hz))
    by_cases h : g x m = true
    · refine ⟨x, List.mem_cons_self .., fun z hz => ?_⟩
      rcases List.mem_cons.1 hz with rfl | hz
      · exact ho.irr _
      · cases q : g z x
        · rfl
        · have := ho.tr z x m (hk z (List.mem_cons_of_mem _ hz)) (hk x (List.mem_cons_self ..)) (hk m (List.mem_cons_of_mem _ hm)) q h
          rw [ht z hz] at this; cases this
    · refine ⟨m, List.mem_cons_of_mem _ hm, fun z hz => ?_⟩
      rcases List.mem_cons.1 hz with rfl | hz
      · simpa using h
      · exact ht z hz
end
end Go.Proofs.Ytdbadicpbmndbaa
/- Rows of terms: greater than greater is greater; rows of literals. No condition. -/
set_option linter.unusedVariables false
set_option linter.unusedSimpArgs false
set_option linter.unnecessarySimpa false
namespace Go.Proofs.Ytdbadicpbmndbaa
open Go Lg

theorem rsL_in {l m : List T} {x : T} : x ∈ rsL l m ↔ m.count x < l.count x := by
  rw [← List.count_pos_iff, rsL_count]; omega
theorem rsL_nil {l m : List T} : rsL l m = [] ↔ ∀ x, l.count x ≤ m.count x := by
  constructor
  · intro h x
    have : x ∉ rsL l m := by rw [h]; simp
    rw [rsL_in] at this; omega
  · intro h
    cases hq : rsL l m with
    | nil => rfl
    | cons y r =>
      have : y ∈ rsL l m := by rw [hq]; simp
      rw [rsL_in] at this
      have := h y; omega
theorem mulG_zero {gs : List Sy} {a b : List T} : mulG gs a b = 0 ↔ a.Perm b := by
  have hp : a.Perm b ↔ (rsL a b).length + (rsL b a).length = 0 := by
    rw [List.perm_iff_count]
    constructor
    · intro h
      have e1 := rsL_nil.2 fun x => Nat.le_of_eq (h x)
      have e2 := rsL_nil.2 fun x => Nat.le_of_eq (h x).symm
      rw [e1, e2]; rfl
    · intro h x
      have e1 := rsL_nil.1 (List.eq_nil_of_length_eq_zero (show (rsL a b).length = 0 by omega)) x
      have e2 := rsL_nil.1 (List.eq_nil_of_length_eq_zero (show (rsL b a).length = 0 by omega)) x
      omega
  rw [hp]
  unfold mulG
  by_cases h : (rsL a b).length + (rsL b a).length = 0
  · rw [if_pos h]; simp [h]
  · rw [if_neg h]
    constructor
    · intro q; split at q <;> (try split at q) <;> simp at q
    · intro q; exact absurd q h
theorem mulG_one_iff {gs : List Sy} {a b : List T} : mulG gs a b = 1 ↔ overL gs (rsL a b) (rsL b a) = true := by
  unfold mulG
  by_cases h : (rsL a b).length + (rsL b a).length = 0
  · rw [if_pos h]
    have : rsL a b = [] := List.eq_nil_of_length_eq_zero (by omega)
    rw [this]; simp [overL]
  · rw [if_neg h]
    by_cases h2 : overL gs (rsL a b) (rsL b a) = true
    · rw [if_pos h2]; simp [h2]
    · rw [if_neg h2]
      simp only [h2, iff_false]
      split <;> simp
theorem overL_iff {gs : List Sy} {a b : List T} : overL gs (rsL a b) (rsL b a) = true ↔ (∃ x, b.count x < a.count x) ∧ ∀ u, a.count u < b.count u → ∃ t, b.count t < a.count t ∧ stT gs t u = 1 := by
  unfold overL
  rw [Bool.and_eq_true, decide_eq_true_eq, List.all_eq_true]
  constructor
  · rintro ⟨h1, h2⟩
    refine ⟨?_, fun u hu => ?_⟩
    · obtain ⟨x, hx⟩ := List.exists_mem_of_length_pos h1
      exact ⟨x, rsL_in.1 hx⟩
    · have := h2 u (rsL_in.2 hu)
      rw [List.any_eq_true] at this
      obtain ⟨t, ht, he⟩ := this
      exact ⟨t, rsL_in.1 ht, by simpa using he⟩
  · rintro ⟨⟨x, hx⟩, h2⟩
    refine ⟨List.length_pos_of_mem (rsL_in.2 hx), fun u hu => ?_⟩
    obtain ⟨t, ht, he⟩ := h2 u (rsL_in.1 hu)
    exact List.any_eq_true.2 ⟨t, rsL_in.2 ht, by simpa using he⟩
theorem countP_lt {α : Type} {p q : α → Bool} : ∀ {l : List α}, (∀ x ∈ l, p x = true → q x = true) → (∃ x ∈ l, q x = true ∧ p x = false) → l.countP p < l.countP q
  | [], _, h => by obtain ⟨x, hx, _⟩ := h; cases hx
  | y :: r, hpq, h => by
    have hle : r.countP p ≤ r.countP q := List.countP_mono_left fun x hx => hpq x (List.mem_cons_of_mem _ hx)
    have hy := hpq y (List.mem_cons_self ..)
    rw [List.countP_cons, List.countP_cons]
    obtain ⟨x, hx, h1, h2⟩ := h
    rcases List.mem_cons.1 hx with rfl | hx
    · rw [h1, h2]; simp; omega
    · have ih := countP_lt (l := r) (fun x hx => hpq x (List.mem_cons_of_mem _ hx)) ⟨x, hx, h1, h2⟩
      by_cases e : p y = true
      · rw [e, hy e]; simp; omega
      · simp only [e, Bool.false_eq_true, if_false]; omega
theorem mulG_trans {gs : List Sy} {a b c : List T} (ha : ∀ t ∈ a, OkG gs t) (hb : ∀ t ∈ b, OkG gs t) (hc : ∀ t ∈ c, OkG gs t) (h1 : mulG gs a b = 1) (h2 : mulG gs b c = 1) : mulG gs a c = 1 := by
  rw [mulG_one_iff, overL_iff] at h1 h2 ⊢
  obtain ⟨⟨x1, hx1⟩, h1⟩ := h1
  obtain ⟨⟨x2, hx2⟩, h2⟩ := h2
  have inA : ∀ {x : T} {n : Nat}, n < a.count x → OkG gs x := fun h => ha _ (List.count_pos_iff.1 (by omega))
  have inB : ∀ {x : T} {n : Nat}, n < b.count x → OkG gs x := fun h => hb _ (List.count_pos_iff.1 (by omega))
  have inC : ∀ {x : T} {n : Nat}, n < c.count x → OkG gs x := fun h => hc _ (List.count_pos_iff.1 (by omega))
  have tr : ∀ {x y z : T}, OkG gs x → OkG gs y → OkG gs z → stT gs x y = 1 → stT gs y z = 1 → stT gs x z = 1 := fun hx hy hz p q => stT_trans _ _ _ _ (Nat.le_refl _) hx hy hz p q
  have key : ∀ (n : Nat) (w : T), (b ++ c).countP (fun t => decide (stT gs t w = 1)) ≤ n → (a.count w < b.count w ∨ b.count w < c.count w) → ∃ x, stT gs x w = 1 ∧ c.count x < a.count x := by
    intro n
    induction n with
    | zero =>
      intro w hn hw
      have hz : ∀ t ∈ b ++ c, ¬ stT gs t w = 1 := by
        have := List.countP_eq_zero.1 (Nat.le_zero.1 hn)
        intro t ht; simpa using this t ht
      rcases hw with hw | hw
      · obtain ⟨x, hx, hs⟩ := h1 w hw
        refine ⟨x, hs, ?_⟩
        have : c.count x = 0 := List.count_eq_zero.2 fun hm => hz x (List.mem_append_right _ hm) hs
        omega
      · obtain ⟨x, hx, hs⟩ := h2 w hw
        exact absurd hs (hz x (List.mem_append_left _ (List.count_pos_iff.1 (by omega))))
    | succ n ih =>
      intro w hn hw
      have step : ∀ x, stT gs x w = 1 → OkG gs x → OkG gs w → (a.count x < b.count x ∨ b.count x < c.count x) → ∃ y, stT gs y w = 1 ∧ c.count y < a.count y := by
        intro x hs hx hw2 hS
        have hxm : x ∈ b ++ c := by
          rcases hS with h | h
          · exact List.mem_append_left _ (List.count_pos_iff.1 (by omega))
          · exact List.mem_append_right _ (List.count_pos_iff.1 (by omega))
        have hall : ∀ t ∈ b ++ c, OkG gs t := fun t ht => by rcases List.mem_append.1 ht with h | h; exact hb t h; exact hc t h
        have hlt : (b ++ c).countP (fun t => decide (stT gs t x = 1)) < (b ++ c).countP (fun t => decide (stT gs t w = 1)) :=
          countP_lt (fun t ht h => by simp only [decide_eq_true_eq] at h ⊢; exact tr (hall t ht) hx hw2 h hs) ⟨x, hxm, by simpa using hs, by simp [stT_self]⟩
        obtain ⟨y, hy, hya⟩ := ih x (by omega) hS
        exact ⟨y, tr (inA hya) hx hw2 hy hs, hya⟩
      rcases hw with hw | hw
      · obtain ⟨x, hx, hs⟩ := h1 w hw
        by_cases hS : a.count x < b.count x ∨ b.count x < c.count x
        · exact step x hs (inA hx) (inB hw) hS
        · exact ⟨x, hs, by omega⟩
      · obtain ⟨x, hx, hs⟩ := h2 w hw
        by_cases hS : a.count x < b.count x ∨ b.count x < c.count x
        · exact step x hs (inB hx) (inC hw) hS
        · exact ⟨x, hs, by omega⟩
  refine ⟨?_, fun u hu => ?_⟩
  · by_cases hS : ∃ w, a.count w < b.count w ∨ b.count w < c.count w
    · obtain ⟨w, hw⟩ := hS
      obtain ⟨x, _, hx⟩ := key _ w (Nat.le_refl _) hw
      exact ⟨x, hx⟩
    · have hno : ∀ w, ¬ (a.count w < b.count w ∨ b.count w < c.count w) := fun w h => hS ⟨w, h⟩
      have := hno x1
      exact ⟨x1, by omega⟩
  · obtain ⟨x, hs, hx⟩ := key _ u (Nat.le_refl _) (by omega)
    exact ⟨x, hx, hs⟩
end Go.Proofs.Ytdbadicpbmndbaa
/- Clauses compared: plainly, and walks. -/
set_option linter.unusedVariables false
set_option linter.unusedSimpArgs false
set_option linter.unnecessarySimpa false
/- short -/
namespace Go.Proofs.Ytdbadicpbmndbaa
open Go Lg

/-! ### plain: a literal with its sides in order -/
def canL (x : Li) : Li := if cmpT x.l x.r = 1 then ⟨x.neg, x.r, x.l⟩ else x
/-- one is greater -/
def gtL (gs : List Sy) (x y : Li) : Bool := decide (mulG gs (rowL x) (rowL y) = 1)
def OkL (gs : List Sy) (x : Li) : Prop := OkG gs x.l ∧ OkG gs x.r
theorem OkL.row {gs : List Sy} {x : Li} (h : OkL gs x) : ∀ t ∈ rowL x, OkG gs t := fun t ht => by
  rcases rowL_mem ht with rfl | rfl
  · exact h.1
  · exact h.2
theorem OkL.can {gs : List Sy} {x : Li} (h : OkL gs x) : OkL gs (canL x) := by
  unfold canL
  split
  · exact ⟨h.2, h.1⟩
  · exact h
theorem gtL_ord (gs : List Sy) : OrdX (gtL gs) (OkL gs) where
  irr := fun x => by
    have : mulG gs (rowL x) (rowL x) = 0 := mulG_zero.2 (List.Perm.refl _)
    unfold gtL; rw [this]; rfl
  tr := fun x y z hx hy hz h k => by
    unfold gtL at *
    rw [decide_eq_true_eq] at *
    exact mulG_trans hx.row hy.row hz.row h k
/-! ### walks -/
theorem RowE.del {n : Nat} {α : Type} {E : Elt n α} {I : Imm} {xs : List Value} {al : List α} {i : Nat} (h : RowE E I xs al) (hi : i < al.length) : RowE E I (xs.take (i * n) ++ (xs.drop ((i + 1) * n)).take ((al.length - (i + 1)) * n)) (al.eraseIdx i) := by
  rw [List.eraseIdx_eq_take_drop_succ]
  refine (h.take i (by omega)).app ?_
  have h2 := h.drop (i + 1) (by omega)
  rw [List.take_of_length_le (by rw [h2.length, List.length_drop]; exact Nat.le_refl _)]
  exact h2
theorem chkC_ok {gs : List Sy} {c : List Li} (h : chkC gs c = 0) : chkG gs = 0 ∧ c.length ≤ 32 ∧ ∀ x ∈ c, litG gs x = 0 := by
  unfold chkC at h
  by_cases h1 : chkG gs ≠ 0
  · rw [if_pos h1] at h; exact absurd h h1
  · rw [if_neg h1] at h
    by_cases h2 : 32 < c.length
    · rw [if_pos h2] at h; cases h
    · rw [if_neg h2] at h
      exact ⟨Classical.not_not.1 h1, by omega, chkLs_ok.1 h⟩
end Go.Proofs.Ytdbadicpbmndbaa
/- Walks: the statement that it is an order. -/
set_option linter.unusedVariables false
set_option linter.unusedSimpArgs false
/- short -/
namespace Go.Proofs.Ytdbadicpbmndbaa
open Go Lg

end Go.Proofs.Ytdbadicpbmndbaa
/- Walks: the document's answer on variables, one by one; clauses without variables: the statement. -/
set_option linter.unusedVariables false
set_option linter.unusedSimpArgs false
set_option linter.unnecessarySimpa false
/- short -/
namespace Go.Proofs.Ytdbadicpbmndbaa
open Go Lg

/-! ### plain: without variables -/
end Go.Proofs.Ytdbadicpbmndbaa
/- Walks: the example of the chapter on literals; a literal oriented: the statement. -/
set_option linter.unusedVariables false
set_option linter.unusedSimpArgs false
set_option linter.unnecessarySimpa false
/- short -/
namespace Go.Proofs.Ytdbadicpbmndbaa
open Go Lg

end Go.Proofs.Ytdbadicpbmndbaa
/- Walks: terms put into a literal, by the program. -/
set_option linter.unusedVariables false
set_option linter.unusedSimpArgs false
set_option linter.unnecessarySimpa false
/- short -/
namespace Go.Proofs.Ytdbadicpbmndbaa
open Go Lg

/-- what Apply answers, exactly -/
def OutE (bs : List Bi) (t : T) (e : Int) (u : T) : Prop := ((chkB bs ∧ chkT t = 0) ∧ e = chkT (sbT bs t) ∧ u = (if chkT (sbT bs t) = 0 then sbT bs t else zeroT)) ∨ (¬ (chkB bs ∧ chkT t = 0) ∧ e = 1 ∧ u = zeroT)
theorem OutE.eq {bs : List Bi} {t : T} {e f : Int} {u w : T} (h : OutE bs t e u) (k : OutE bs t f w) : e = f ∧ u = w := by
  rcases h with ⟨h1, h2, h3⟩ | ⟨h1, h2, h3⟩ <;> rcases k with ⟨k1, k2, k3⟩ | ⟨k1, k2, k3⟩
  · exact ⟨by rw [h2, k2], by rw [h3, k3]⟩
  · exact absurd h1 k1
  · exact absurd k1 h1
  · exact ⟨by rw [h2, k2], by rw [h3, k3]⟩
theorem OutE.size {bs : List Bi} {t : T} {e : Int} {u : T} (h : OutE bs t e u) : u.size ≤ 400 := by
  rcases h with ⟨h1, h2, h3⟩ | ⟨h1, h2, h3⟩
  · subst h3; split
    · exact chkT_size (by assumption)
    · exact (by decide : zeroT.size ≤ 400)
  · subst h3; exact (by decide : zeroT.size ≤ 400)
theorem ApplyE_does {I : Imm} {vs v : Value} {bs : List Bi} {t : T} (hs : RepB I vs bs) (hv : RepT I v t) (hbs : ∀ b ∈ bs, b.2.size ≤ 500) (ht : t.size ≤ 500) :
    Does Try.prog 120 [vs, v] I [] (fun v I' δ' => (∃ e u r, v = .tuple #[r, .int .i64 e] ∧ RepT I' r u ∧ OutE bs t e u) ∧ δ' = []) := by
  obtain ⟨a0, c0, rfl, hr0⟩ := hv.shape
  obtain ⟨sa, sc, rfl⟩ := hs.shape
  have hsz : (sbT bs t).size ≤ 1000000000 := by have := sbT_size (m := 500) (by omega) hbs t; omega
  refine Does.intro Try.func120 rfl Try.ntmps120 rfl fun w0 => ?_
  refine code_seq ?_
  refine code_region ?_
  refine o_box rfl rfl rfl (fun b3 => ?_)
  refine o_alloc z47 rfl rfl (fun b4 => ?_)
  refine op_v (v_assign rfl) rfl ?_
  refine ops_nil ?_
  refine post_next ?_
  refine code_seq ?_
  refine code_seq ?_
  refine code_region ?_
  refine op_v (v_move rfl) rfl ?_
  refine op_call pl154 rfl rfl ((SCheck_does hs (fun b hb => by have := hbs b hb; omega))) Parts.none ?_
  rintro v7 I7 _ hI7 ⟨⟨e7, rfl, he7⟩, rfl⟩
  by_cases h8 : e7 ≠ 0
  · first | refine op_v (v_cmptA rfl rfl rfl) rfl ?_ | refine op_v (v_cmpfA rfl rfl rfl) rfl ?_ | refine op_v (v_cmp rfl rfl rfl) rfl ?_
    refine op_v (v_move rfl) rfl ?_
    first
      | (refine op_want rfl rfl ?_
         refine op_v (v_loadA ty47 rfl rfl) rfl ?_)
      | (refine op_skip rfl rfl (by simp [undef]) rfl ?_)
    first
      | (refine op_want rfl rfl ?_
         refine op_call pl105 rfl rfl ((TCheck_does (hv.mono Imm.leA) (by omega))) Parts.none ?_
         rintro v11 I11 _ hI11 ⟨rfl, rfl⟩)
      | (refine op_skip rfl rfl (by simp [undef]) rfl ?_)
    first
      | (refine op_want rfl rfl ?_
         first | refine op_v (v_cmptA rfl rfl rfl) rfl ?_ | refine op_v (v_cmpfA rfl rfl rfl) rfl ?_ | refine op_v (v_cmp rfl rfl rfl) rfl ?_)
      | (refine op_skip rfl rfl (by simp [undef]) rfl ?_)
    first | refine op_v (v_pickt rfl rfl) rfl ?_ | refine op_v (v_pickf rfl rfl) rfl ?_ | refine op_v (v_pickb rfl rfl rfl) rfl ?_
    refine ops_nil ?_
    refine post_next ?_
    refine code_cond_t rfl ?_
    refine code_seq ?_
    refine code_region ?_
    refine op_v (v_build bl47 rfl rfl) rfl ?_
    refine o_store ty47 rfl rfl rfl rfl rfl (by repeat (first | exact Swap.here | apply Swap.there)) rfl ?_
    refine op_v (v_assign rfl) rfl ?_
    refine ops_nil ?_
    refine post_next ?_
    refine code_ret ?_
    refine post_ret_then ?_
    refine post_ret (rs := [.cell 4 47, .tmp 5]) rfl (List.Perm.refl _) (.cons (.cell rfl ty47 (by repeat (first | exact Has.here | apply Has.there)) rfl) (.cons (.tmp rfl) .nil)) (List.nil_sublist _) ?_
    exact ⟨⟨1, zeroT, _, rfl, zeroT_rep _, .inr ⟨fun hh => by rcases he7 with h | h; omega; exact h.2 hh.1, rfl, rfl⟩⟩, rfl⟩
  · first | refine op_v (v_cmptA rfl rfl rfl) rfl ?_ | refine op_v (v_cmpfA rfl rfl rfl) rfl ?_ | refine op_v (v_cmp rfl rfl rfl) rfl ?_
    refine op_v (v_move rfl) rfl ?_
    first
      | (refine op_want rfl rfl ?_
         refine op_v (v_loadA ty47 rfl rfl) rfl ?_)
      | (refine op_skip rfl rfl (by simp [undef]) rfl ?_)
    first
      | (refine op_want rfl rfl ?_
         refine op_call pl105 rfl rfl ((TCheck_does (hv.mono Imm.leA) (by omega))) Parts.none ?_
         rintro v11 I11 _ hI11 ⟨rfl, rfl⟩)
      | (refine op_skip rfl rfl (by simp [undef]) rfl ?_)
    by_cases h12 : chkT t ≠ 0
    · first
        | (refine op_want rfl rfl ?_
           first | refine op_v (v_cmptA rfl rfl rfl) rfl ?_ | refine op_v (v_cmpfA rfl rfl rfl) rfl ?_ | refine op_v (v_cmp rfl rfl rfl) rfl ?_)
        | (refine op_skip rfl rfl (by simp [undef]) rfl ?_)
      first | refine op_v (v_pickt rfl rfl) rfl ?_ | refine op_v (v_pickf rfl rfl) rfl ?_ | refine op_v (v_pickb rfl rfl rfl) rfl ?_
      refine ops_nil ?_
      refine post_next ?_
      refine code_cond_t rfl ?_
      refine code_seq ?_
      refine code_region ?_
      refine op_v (v_build bl47 rfl rfl) rfl ?_
      refine o_store ty47 rfl rfl rfl rfl rfl (by repeat (first | exact Swap.here | apply Swap.there)) rfl ?_
      refine op_v (v_assign rfl) rfl ?_
      refine ops_nil ?_
      refine post_next ?_
      refine code_ret ?_
      refine post_ret_then ?_
      refine post_ret (rs := [.cell 4 47, .tmp 5]) rfl (List.Perm.refl _) (.cons (.cell rfl ty47 (by repeat (first | exact Has.here | apply Has.there)) rfl) (.cons (.tmp rfl) .nil)) (List.nil_sublist _) ?_
      exact ⟨⟨1, zeroT, _, rfl, zeroT_rep _, .inr ⟨fun hh => h12 hh.2, rfl, rfl⟩⟩, rfl⟩
    · first
        | (refine op_want rfl rfl ?_
           first | refine op_v (v_cmptA rfl rfl rfl) rfl ?_ | refine op_v (v_cmpfA rfl rfl rfl) rfl ?_ | refine op_v (v_cmp rfl rfl rfl) rfl ?_)
        | (refine op_skip rfl rfl (by simp [undef]) rfl ?_)
      first | refine op_v (v_pickt rfl rfl) rfl ?_ | refine op_v (v_pickf rfl rfl) rfl ?_ | refine op_v (v_pickb rfl rfl rfl) rfl ?_
      refine ops_nil ?_
      refine post_next ?_
      refine code_cond_f rfl ?_
      refine code_skip ?_
      refine post_next ?_
      refine code_seq ?_
      refine code_draw (.fl 0 (.fl 1 (.ef 2 (.fl 3 (.ef 4 (.ef 5 (.fl 6 (.fl 7 (.ef 8 (.ef 9 .done)))))))))) (fun _ => _) mixed (by kernel_rfl) (by kernel_rfl) (fun _ => (List.Sublist.refl _)) ?_
      refine e_fl rfl rfl (fun hs_ => PF.mk rfl (v_loadA ty47 rfl rfl) hs_) ?_
      refine e_fl rfl rfl (fun hs_ => PF.mk rfl (v_move rfl) hs_) ?_
      refine e_eff rfl (by intro cs b hc; cases hc) (by intro c hc; cases hc) ?_
      refine op_call pl155 rfl rfl ((open_does (hs.mono Imm.leA))) Parts.none ?_
      rintro v17 I17 _ hI17 ⟨b17, xs17, rfl, rfl, hM⟩
      refine ops_nil ?_
      refine e_next rfl side_allA ?_
      refine e_fl rfl rfl (fun hs_ => PF.mk rfl (v_makeFunc rfl rfl) hs_) ?_
      refine e_eff rfl (by intro cs b hc; cases hc) (by intro c hc; cases hc) ?_
      refine op_call pl144 rfl rfl ((rebuild_does (I0 := I17) (fun J v u hJ hu => FDoes.ofFirst (firsts := [_]) pl156 (of_does hu (hM.mono hJ))) t.size t (Nat.le_refl _) _ _ (Imm.le_refl _) (hv.mono Imm.leA))) (Parts.one Del.here) ?_
      rintro v19 I19 _ hI19 ⟨hv19, rfl⟩
      change RepT I19 v19 (sbT bs t) at hv19
      refine ops_nil ?_
      refine e_next rfl (side_nil (by kernel_rfl)) ?_
      refine e_eff rfl (by intro cs b hc; cases hc) (by intro c hc; cases hc) ?_
      refine op_call pl143 rfl rfl ((end_does hv19 hsz)) Parts.none ?_
      rintro v20 I20 _ hI20 ⟨⟨u20, rfl, hv20⟩, rfl⟩
      obtain ⟨a20, c20, rfl, _⟩ := hv20.shape
      refine ops_nil ?_
      refine e_next rfl (side_nil (by kernel_rfl)) ?_
      refine e_fl rfl rfl (fun hs_ => PF.mk rfl (v_extract rfl rfl) hs_) ?_
      refine e_fl rfl rfl (fun hs_ => PF.mk rfl (v_extract rfl rfl) hs_) ?_
      refine e_eff rfl (by intro cs b hc; cases hc) (by intro c hc; cases hc) ?_
      refine o_store ty47 rfl rfl rfl rfl rfl (by repeat (first | exact Swap.here | apply Swap.there)) rfl ?_
      refine ops_nil ?_
      refine e_next_ (side_nil (by kernel_rfl)) ?_
      refine e_eff rfl (by intro cs b hc; cases hc) (by intro c hc; cases hc) ?_
      refine op_v (v_assign rfl) rfl ?_
      refine ops_nil ?_
      refine e_next rfl (side_nil (by kernel_rfl)) ?_
      refine e_done ?_
      refine post_next ?_
      refine code_ret ?_
      refine post_ret (rs := [.cell 4 47, .tmp 5]) rfl (List.Perm.refl _) (.cons (.cell rfl ty47 (by repeat (first | exact Has.here | apply Has.there)) rfl) (.cons (.tmp rfl) .nil)) (List.nil_sublist _) ?_
      have he0 : e7 = 0 := by omega
      have hcb : chkB bs := by rcases he7 with h | h; exact h.2; omega
      exact ⟨⟨chkT (sbT bs t), _, _, rfl, hv20, .inl ⟨⟨hcb, by omega⟩, rfl, rfl⟩⟩, rfl⟩
def OutL (bs : List Bi) (x : Li) (e : Int) (y : Li) : Prop := ∃ e1 u1, OutE bs x.l e1 u1 ∧ ((e1 ≠ 0 ∧ e = e1 ∧ y = zeroLi) ∨ (e1 = 0 ∧ ∃ e2 u2, OutE bs x.r e2 u2 ∧ ((e2 ≠ 0 ∧ e = e2 ∧ y = zeroLi) ∨ (e2 = 0 ∧ e = 0 ∧ y = ⟨x.neg, u1, u2⟩))))
theorem OutL.eq {bs : List Bi} {x y z : Li} {e f : Int} (h : OutL bs x e y) (k : OutL bs x f z) : e = f ∧ y = z := by
  obtain ⟨e1, u1, h1, h⟩ := h
  obtain ⟨f1, w1, k1, k⟩ := k
  obtain ⟨rfl, rfl⟩ := h1.eq k1
  rcases h with ⟨h2, rfl, rfl⟩ | ⟨h2, e2, u2, h3, h⟩ <;> rcases k with ⟨k2, rfl, rfl⟩ | ⟨k2, f2, w2, k3, k⟩
  · exact ⟨rfl, rfl⟩
  · exact absurd k2 h2
  · exact absurd h2 k2
  · obtain ⟨rfl, rfl⟩ := h3.eq k3
    rcases h with ⟨h4, rfl, rfl⟩ | ⟨h4, rfl, rfl⟩ <;> rcases k with ⟨k4, rfl, rfl⟩ | ⟨k4, rfl, rfl⟩
    · exact ⟨rfl, rfl⟩
    · exact absurd k4 h4
    · exact absurd h4 k4
    · exact ⟨rfl, rfl⟩
theorem OutL.size {bs : List Bi} {x y : Li} {e : Int} (h : OutL bs x e y) : y.l.size ≤ 1000000000 ∧ y.r.size ≤ 1000000000 := by
  have hz : zeroT.size ≤ 400 := by decide
  obtain ⟨e1, u1, h1, ⟨_, _, rfl⟩ | ⟨_, e2, u2, h3, ⟨_, _, rfl⟩ | ⟨_, _, rfl⟩⟩⟩ := h
  · exact ⟨Nat.le_trans hz (by omega), Nat.le_trans hz (by omega)⟩
  · exact ⟨Nat.le_trans hz (by omega), Nat.le_trans hz (by omega)⟩
  · have := h1.size; have := h3.size; exact ⟨by show u1.size ≤ _; omega, by show u2.size ≤ _; omega⟩
theorem LApply_does {I : Imm} {vs va : Value} {bs : List Bi} {x : Li} (hs : RepB I vs bs) (ha : RepL I va x) (hbs : ∀ b ∈ bs, b.2.size ≤ 500) (h1 : x.l.size ≤ 500) (h2 : x.r.size ≤ 500) :
    Does Try.prog 83 [vs, va] I [] (fun v I' δ' => (∃ e y r, v = .tuple #[r, .int .i64 e] ∧ RepL I' r y ∧ OutL bs x e y) ∧ δ' = []) := by
  obtain ⟨la, lc, ra, rc, rfl, hl, hr⟩ := ha
  obtain ⟨sa, sc, rfl⟩ := hs.shape
  refine Does.intro Try.func83 rfl Try.ntmps83 rfl fun w0 => ?_
  refine code_seq ?_
  refine code_region ?_
  refine o_box rfl rfl rfl (fun b3 => ?_)
  refine o_alloc z49 rfl rfl (fun b4 => ?_)
  refine op_v (v_assign rfl) rfl ?_
  refine ops_nil ?_
  refine post_next ?_
  refine code_seq ?_
  refine code_region ?_
  refine op_v (v_move rfl) rfl ?_
  first | refine op_v (v_fieldB 1 Try.underlying49 rfl rfl fz47 rfl) rfl ?_ | refine op_v (v_fieldI 1 Try.underlying49 rfl rfl fz47 rfl (by assumption)) rfl ?_ | refine op_v (v_field Try.underlying49 rfl fz47 rfl rfl) rfl ?_
  refine op_v (v_loadA ty47 rfl rfl) rfl ?_
  refine op_call pl120 rfl rfl ((ApplyE_does (hs.mono Imm.leA) (hl.mono Imm.leA) hbs h1)) Parts.none ?_
  rintro v13 I13 _ hI13 ⟨⟨e1, u1, r1, rfl, hr1, ho1⟩, rfl⟩
  obtain ⟨ua, uc, rfl, _⟩ := hr1.shape
  refine op_v (v_move rfl) rfl ?_
  refine op_v (v_extract rfl rfl) rfl ?_
  refine op_v (v_extract rfl rfl) rfl ?_
  refine o_alloc z47 rfl rfl (fun b6 => ?_)
  refine o_store ty47 rfl rfl rfl rfl rfl (by repeat (first | exact Swap.here | apply Swap.there)) rfl ?_
  refine op_v (v_assign rfl) rfl ?_
  refine ops_nil ?_
  refine post_next ?_
  refine code_seq ?_
  refine code_seq ?_
  refine code_region ?_
  refine op_v (v_move rfl) rfl ?_
  by_cases q1 : e1 ≠ 0
  · first | refine op_v (v_cmptA rfl rfl rfl) rfl ?_ | refine op_v (v_cmpfA rfl rfl rfl) rfl ?_ | refine op_v (v_cmp rfl rfl rfl) rfl ?_
    refine ops_nil ?_
    refine post_next ?_
    refine code_cond_t rfl ?_
    refine code_seq ?_
    refine code_region ?_
    refine op_v (v_build bl49 rfl rfl) rfl ?_
    refine op_v (v_move rfl) rfl ?_
    refine o_store ty49 rfl rfl rfl rfl rfl (by repeat (first | exact Swap.here | apply Swap.there)) rfl ?_
    refine op_v (v_assign rfl) rfl ?_
    refine ops_nil ?_
    refine post_next ?_
    refine code_ret ?_
    refine post_ret_then ?_
    refine post_ret (rs := [.cell 4 49, .tmp 5]) rfl (List.Perm.refl _) (.cons (.cell rfl ty49 (by repeat (first | exact Has.here | apply Has.there)) rfl) (.cons (.tmp rfl) .nil)) (List.nil_sublist _) ?_
    exact ⟨⟨e1, zeroLi, _, rfl, ⟨none, 0, none, 0, rfl, zeroT_rep _, zeroT_rep _⟩, e1, u1, ho1, .inl ⟨q1, rfl, rfl⟩⟩, rfl⟩
  · first | refine op_v (v_cmptA rfl rfl rfl) rfl ?_ | refine op_v (v_cmpfA rfl rfl rfl) rfl ?_ | refine op_v (v_cmp rfl rfl rfl) rfl ?_
    refine ops_nil ?_
    refine post_next ?_
    refine code_cond_f rfl ?_
    refine code_skip ?_
    refine post_next ?_
    refine code_seq ?_
    refine code_region ?_
    refine op_v (v_move rfl) rfl ?_
    first | refine op_v (v_fieldB 3 Try.underlying49 rfl rfl fz47 rfl) rfl ?_ | refine op_v (v_fieldI 3 Try.underlying49 rfl rfl fz47 rfl (by assumption)) rfl ?_ | refine op_v (v_field Try.underlying49 rfl fz47 rfl rfl) rfl ?_
    refine op_v (v_loadA ty47 rfl rfl) rfl ?_
    refine op_call pl120 rfl rfl ((ApplyE_does (hs.mono Imm.leA) (hr.mono Imm.leA) hbs h2)) Parts.none ?_
    rintro v24 I24 _ hI24 ⟨⟨e2, u2, r2, rfl, hr2, ho2⟩, rfl⟩
    obtain ⟨wa, wc, rfl, _⟩ := hr2.shape
    refine op_v (v_move rfl) rfl ?_
    refine op_v (v_extract rfl rfl) rfl ?_
    refine op_v (v_extract rfl rfl) rfl ?_
    refine o_alloc z47 rfl rfl (fun b8 => ?_)
    refine o_store ty47 rfl rfl rfl rfl rfl (by repeat (first | exact Swap.here | apply Swap.there)) rfl ?_
    refine op_v (v_assign rfl) rfl ?_
    refine ops_nil ?_
    refine post_next ?_
    refine code_seq ?_
    refine code_seq ?_
    refine code_region ?_
    refine op_v (v_move rfl) rfl ?_
    by_cases q2 : e2 ≠ 0
    · first | refine op_v (v_cmptA rfl rfl rfl) rfl ?_ | refine op_v (v_cmpfA rfl rfl rfl) rfl ?_ | refine op_v (v_cmp rfl rfl rfl) rfl ?_
      refine ops_nil ?_
      refine post_next ?_
      refine code_cond_t rfl ?_
      refine code_seq ?_
      refine code_region ?_
      refine op_v (v_build bl49 rfl rfl) rfl ?_
      refine op_v (v_move rfl) rfl ?_
      refine o_store ty49 rfl rfl rfl rfl rfl (by repeat (first | exact Swap.here | apply Swap.there)) rfl ?_
      refine op_v (v_assign rfl) rfl ?_
      refine ops_nil ?_
      refine post_next ?_
      refine code_ret ?_
      refine post_ret_then ?_
      refine post_ret (rs := [.cell 4 49, .tmp 5]) rfl (List.Perm.refl _) (.cons (.cell rfl ty49 (by repeat (first | exact Has.here | apply Has.there)) rfl) (.cons (.tmp rfl) .nil)) (List.nil_sublist _) ?_
      exact ⟨⟨e2, zeroLi, _, rfl, ⟨none, 0, none, 0, rfl, zeroT_rep _, zeroT_rep _⟩, e1, u1, ho1, .inr ⟨by omega, e2, u2, ho2, .inl ⟨q2, rfl, rfl⟩⟩⟩, rfl⟩
    · first | refine op_v (v_cmptA rfl rfl rfl) rfl ?_ | refine op_v (v_cmpfA rfl rfl rfl) rfl ?_ | refine op_v (v_cmp rfl rfl rfl) rfl ?_
      refine ops_nil ?_
      refine post_next ?_
      refine code_cond_f rfl ?_
      refine code_skip ?_
      refine post_next ?_
      refine code_seq ?_
      refine code_region ?_
      first | refine op_v (v_fieldB 0 Try.underlying49 rfl rfl fz4 rfl) rfl ?_ | refine op_v (v_fieldI 0 Try.underlying49 rfl rfl fz4 rfl (by assumption)) rfl ?_ | refine op_v (v_field Try.underlying49 rfl fz4 rfl rfl) rfl ?_
      refine op_v (v_loadA ty4 rfl rfl) rfl ?_
      refine op_v (v_loadA ty47 rfl rfl) rfl ?_
      refine op_v (v_loadA ty47 rfl rfl) rfl ?_
      refine op_v (v_build bl49 rfl rfl) rfl ?_
      refine o_store ty49 rfl rfl rfl rfl rfl (by repeat (first | exact Swap.here | apply Swap.there)) rfl ?_
      refine op_v (v_assign rfl) rfl ?_
      refine ops_nil ?_
      refine post_next ?_
      refine code_ret ?_
      refine post_ret (rs := [.cell 4 49, .tmp 5]) rfl (List.Perm.refl _) (.cons (.cell rfl ty49 (by repeat (first | exact Has.here | apply Has.there)) rfl) (.cons (.tmp rfl) .nil)) (List.nil_sublist _) ?_
      exact ⟨⟨0, ⟨x.neg, u1, u2⟩, _, rfl, ⟨ua, uc, wa, wc, rfl, hr1.mono Imm.leA, hr2.mono Imm.leA⟩, e1, u1, ho1, .inr ⟨by omega, e2, u2, ho2, .inr ⟨by omega, rfl, rfl⟩⟩⟩, rfl⟩
end Go.Proofs.Ytdbadicpbmndbaa
/- Which literals are maximal: plainly, and walks: terms put into clauses, Maximal. -/
set_option linter.unusedVariables false
set_option linter.unusedSimpArgs false
set_option linter.unnecessarySimpa false
/- short -/
namespace Go.Proofs.Ytdbadicpbmndbaa
open Go Lg

/-! ### terms put into a clause -/
def OutC (bs : List Bi) (c : List Li) (e : Int) (ys : List Li) : Prop :=
  (32 < c.length ∧ e = 2 ∧ ys = []) ∨ (c.length ≤ 32 ∧ ((∃ (k : Nat) (hk : k < c.length) (zs : List Li) (y : Li), (zs.length = k ∧ ∀ i (h : i < k) (h2 : i < zs.length), OutL bs c[i] 0 zs[i]) ∧ OutL bs c[k] e y ∧ e ≠ 0 ∧ ys = []) ∨ (e = 0 ∧ ys.length = c.length ∧ ∀ i (h : i < c.length) (h2 : i < ys.length), OutL bs c[i] 0 ys[i])))
theorem OutC.eq {bs : List Bi} {c ys zs : List Li} {e f : Int} (h : OutC bs c e ys) (k : OutC bs c f zs) : e = f ∧ ys = zs := by
  rcases h with ⟨h1, rfl, rfl⟩ | ⟨h1, h⟩ <;> rcases k with ⟨k1, rfl, rfl⟩ | ⟨k1, k⟩
  · exact ⟨rfl, rfl⟩
  · omega
  · omega
  · rcases h with ⟨i, hi, us, y, ⟨hul, hu⟩, hy, he, rfl⟩ | ⟨rfl, hl, hall⟩ <;> rcases k with ⟨j, hj, ws, z, ⟨hwl, hw⟩, hz, hf, rfl⟩ | ⟨rfl, hm, hbll⟩
    · rcases Nat.lt_trichotomy i j with q | q | q
      · exact absurd ((hy.eq (hw i q (by omega))).1) he
      · subst q; exact ⟨(hy.eq hz).1, rfl⟩
      · exact absurd ((hz.eq (hu j q (by omega))).1) hf
    · exact absurd ((hy.eq (hbll i hi (by omega))).1) he
    · exact absurd ((hz.eq (hall j hj (by omega))).1) hf
    · exact ⟨rfl, List.ext_getElem (by omega) fun i h1 h2 => ((hall i (by omega) h1).eq (hbll i (by omega) h2)).2⟩
theorem OutC.sm {bs : List Bi} {c ys : List Li} {e : Int} (h : OutC bs c e ys) : SmC ys := by
  rcases h with ⟨_, _, rfl⟩ | ⟨_, ⟨_, _, _, _, _, _, _, rfl⟩ | ⟨_, hl, hall⟩⟩
  · intro x hx; cases hx
  · intro x hx; cases hx
  · intro x hx
    obtain ⟨i, hi, rfl⟩ := List.getElem_of_mem hx
    exact (hall i (by omega) hi).size
theorem CApply_does {I : Imm} {vs v : Value} {bs : List Bi} {c : List Li} (hs : RepB I vs bs) (hv : RepC I v c) (hbs : ∀ b ∈ bs, b.2.size ≤ 500) (hsz : ∀ x ∈ c, x.l.size ≤ 500 ∧ x.r.size ≤ 500) :
    Does Try.prog 36 [vs, v] I [] (fun v I' δ' => (∃ e ys r, v = .tuple #[r, .int .i64 e] ∧ RepC I' r ys ∧ OutC bs c e ys) ∧ δ' = []) := by
  obtain ⟨sa, sc, rfl⟩ := hs.shape
  obtain ⟨ad, c0, xs, rfl, hc, hb, hcells, hrow⟩ := hv
  refine Does.intro Try.func36 rfl Try.ntmps36 rfl fun w0 => ?_
  refine code_seq ?_
  refine code_region ?_
  refine op_v (v_assign rfl) rfl ?_
  refine op_v (v_assign rfl) rfl ?_
  refine ops_nil ?_
  refine post_next ?_
  refine code_seq ?_
  refine code_seq ?_
  refine code_region ?_
  refine op_v (v_move rfl) rfl ?_
  refine op_v (v_len Try.underlying26 rfl) rfl ?_
  by_cases h13 : 32 < c.length
  · refine op_v (v_cmpt rfl rfl rfl (by omega)) rfl ?_
    refine ops_nil ?_
    refine post_next ?_
    refine code_cond_t rfl ?_
    refine code_seq ?_
    refine code_region ?_
    refine op_v (v_assign rfl) rfl ?_
    refine op_v (v_assign rfl) rfl ?_
    refine ops_nil ?_
    refine post_next ?_
    refine code_ret ?_
    refine post_ret_then ?_
    refine post_ret (rs := [.tmp 4, .tmp 5]) rfl (List.Perm.refl _) (.cons (.tmp rfl) (.cons (.tmp rfl) .nil)) (List.nil_sublist _) ?_
    exact ⟨⟨2, [], _, rfl, RepE.nil, .inl ⟨h13, rfl, rfl⟩⟩, rfl⟩
  · refine op_v (v_cmpf rfl rfl rfl (by omega)) rfl ?_
    refine ops_nil ?_
    refine post_next ?_
    refine code_cond_f rfl ?_
    refine code_skip ?_
    refine post_next ?_
    refine code_seq ?_
    refine code_region ?_
    refine op_v (v_assign rfl) rfl ?_
    refine ops_nil ?_
    refine post_next ?_
    refine code_seq ?_
    refine code_seq ?_
    refine code_region ?_
    refine op_v (v_move rfl) rfl ?_
    refine op_v (v_len Try.underlying26 rfl) rfl ?_
    refine op_v (v_move rfl) rfl ?_
    refine ops_nil ?_
    refine post_next ?_
    refine code_block ?_
    refine CodeJ.view (View.nilRow 49 5) ?_
    refine code_loop (fun m σ' I' δ' => ∃ (k : Nat) (A : Option Addr) (c' : Nat) (zs : List Value) (ys : List Li), m = c.length - k ∧ k ≤ c.length ∧ σ' = [(0, .slice sa bs.length sc), (6, .slice A ys.length c'), (14, .slice ad c.length c0), (15, .int .i64 c.length), (16, .int .i64 k)] ∧ I.le I' ∧ δ' = [cRow A c' ys.length zs] ∧ RowE LitE I' zs ys ∧ ys.length = k ∧ ∀ i (h : i < k) (h2 : i < ys.length) (h3 : i < c.length), OutL bs c[i] 0 ys[i]) c.length [(0, .slice sa bs.length sc), (6, .slice none 0 0), (14, .slice ad c.length c0), (15, .int .i64 c.length), (16, .int .i64 (0 : Nat))] ⟨0, none, 0, [], [], rfl, Nat.zero_le _, rfl, Imm.le_refl _, rfl, rfl, rfl, fun i h => by omega⟩ ⟨rfl, rfl, rfl, rfl, rfl, trivial⟩ ?_
    rintro m _ I0 _ ⟨k, A, c', zs, ys, rfl, hk, rfl, hI0, rfl, hzs, hyl, hall⟩
    refine code_seq ?_
    refine code_region ?_
    first | refine op_v (v_cmptA rfl rfl rfl) rfl ?_ | refine op_v (v_cmpfA rfl rfl rfl) rfl ?_ | refine op_v (v_cmp rfl rfl rfl) rfl ?_
    refine ops_nil ?_
    refine post_next ?_
    refine code_seq ?_
    refine code_cond rfl (fun hc1 => ?_) (fun hc1 => ?_)
    · have hlt : k < c.length := by simpa using hc1
      obtain ⟨vs, ⟨la, lc, ra, rc, rfl, hl, hr⟩, hat⟩ := hrow.cellsAt hcells hlt
      have hs1 := hat.isSome
      have hsk := hsz _ (List.getElem_mem hlt)
      refine code_skip ?_
      refine post_next ?_
      refine code_seq ?_
      refine code_block ?_
      refine code_seq ?_
      refine code_region ?_
      first | refine op_v (v_indexA Try.underlying26 sz49 rfl rfl) rfl ?_ | refine op_v (v_indexIA Try.underlying26 sz49 rfl rfl) rfl ?_
      first | refine op_v (v_loadI0 ty49 (hat.mono hI0) rfl rfl rfl) rfl ?_ | refine op_v (v_loadI ty49 (hat.mono hI0) rfl rfl rfl) rfl ?_
      refine o_alloc z49 rfl rfl (fun b8 => ?_)
      refine o_store ty49 rfl rfl rfl rfl rfl (by repeat (first | exact Swap.here | apply Swap.there)) rfl ?_
      refine ops_nil ?_
      refine post_next ?_
      refine code_seq ?_
      refine code_region ?_
      refine op_v (v_move rfl) rfl ?_
      refine op_v (v_loadA ty49 rfl rfl) rfl ?_
      refine op_call pl83 rfl rfl ((LApply_does (x := c[k]) (hs.mono Imm.leA) ⟨la, lc, ra, rc, rfl, hl.mono Imm.leA, hr.mono Imm.leA⟩ hbs hsk.1 hsk.2)) Parts.none ?_
      rintro v23 I23 _ hI23 ⟨⟨e, y, r23, rfl, hr23, ho⟩, rfl⟩
      obtain ⟨ma, mc, na, nc, rfl, hml, hmr⟩ := hr23
      refine op_v (v_move rfl) rfl ?_
      refine op_v (v_extract rfl rfl) rfl ?_
      refine op_v (v_extract rfl rfl) rfl ?_
      refine o_alloc z49 rfl rfl (fun b9 => ?_)
      refine o_store ty49 rfl rfl rfl rfl rfl (by repeat (first | exact Swap.here | apply Swap.there)) rfl ?_
      refine op_v (v_assign rfl) rfl ?_
      refine ops_nil ?_
      refine post_next ?_
      refine code_seq ?_
      refine code_seq ?_
      refine code_region ?_
      refine op_v (v_move rfl) rfl ?_
      by_cases h27 : e ≠ 0
      · first | refine op_v (v_cmptA rfl rfl rfl) rfl ?_ | refine op_v (v_cmpfA rfl rfl rfl) rfl ?_ | refine op_v (v_cmp rfl rfl rfl) rfl ?_
        refine ops_nil ?_
        refine post_next ?_
        refine code_cond_t rfl ?_
        refine code_seq ?_
        refine code_region ?_
        refine op_v (v_move rfl) rfl ?_
        refine op_v (v_assign rfl) rfl ?_
        refine op_v (v_assign rfl) rfl ?_
        refine ops_nil ?_
        refine post_next ?_
        refine code_ret ?_
        refine post_ret_then ?_
        refine post_ret_block ?_
        refine post_ret_then ?_
        refine post_ret_then ?_
        refine post_ret_block ?_
        refine post_ret_then ?_
        refine post_ret (rs := [.tmp 4, .tmp 5]) rfl (List.Perm.refl _) (.cons (.tmp rfl) (.cons (.tmp rfl) .nil)) (List.nil_sublist _) ?_
        exact ⟨⟨e, [], _, rfl, RepE.nil, .inr ⟨by omega, .inl ⟨k, hlt, ys, y, ⟨hyl, fun i h h2 => hall i h h2 (by omega)⟩, ho, h27, rfl⟩⟩⟩, rfl⟩
      · have he : e = 0 := Classical.not_not.1 h27
        subst he
        first | refine op_v (v_cmptA rfl rfl rfl) rfl ?_ | refine op_v (v_cmpfA rfl rfl rfl) rfl ?_ | refine op_v (v_cmp rfl rfl rfl) rfl ?_
        refine ops_nil ?_
        refine post_next ?_
        refine code_cond_f rfl ?_
        refine code_skip ?_
        refine post_next ?_
        refine code_region ?_
        refine op_v (v_move rfl) rfl ?_
        refine op_v (v_loadA ty49 rfl rfl) rfl ?_
        refine o_buildSlice (xs := [(Go.Operand.tmp 30)]) Try.underlying26 bs49 rfl rfl rfl rfl rfl (fun b31 => ?_)
        refine o_append Try.underlying26 bs49 rfl rfl rfl (fun v' => by repeat (first | exact Swap.here | apply Swap.there)) (Src.ofRow (by repeat (first | exact Has.here | apply Has.there)) rfl) (by first | rfl | omega | simp) (by simp [cat, cellsL, Value.oneCell']) (by omega) (by omega) (fun a32 c32 => ?_)
        have hl2 : ys.length + 1 = (ys ++ [y]).length := by simp
        refine op_v (v_assign rfl) rfl ?_
        refine ops_nil ?_
        refine post_out ?_
        refine post_next ?_
        refine code_region ?_
        first | refine op_v (v_addb rfl rfl rfl (by omega)) rfl ?_ | refine op_v (v_add rfl rfl) rfl ?_
        refine op_v (v_move rfl) rfl ?_
        refine ops_nil ?_
        refine PostJ.view ((View.drop Del.here).trans ((View.drop Del.here).trans (View.drop Del.here))) ?_
        refine post_again (c.length - (k + 1)) [(0, .slice sa bs.length sc), (6, .slice a32 (ys.length + 1) c32), (14, .slice ad c.length c0), (15, .int .i64 c.length), (16, .int .i64 (k + 1 : Nat))] (by omega) ⟨k + 1, a32, c32, zs ++ liC y ma mc na nc, ys ++ [y], rfl, hlt, by rw [hl2], Imm.leA, by simp only [cRow, ← hl2]; rfl, (hzs.mono Imm.leA).app (RowE.single ⟨ma, mc, na, nc, rfl, hml.mono Imm.leA, hmr.mono Imm.leA⟩), by simp; exact hyl, fun i h h2 h3 => ?_⟩ ⟨rfl, rfl, rfl, rfl, rfl, trivial⟩
        rcases Nat.lt_or_ge i k with q | q
        · rw [List.getElem_append_left (by omega)]; exact hall i q (by omega) h3
        · have e : i = k := by omega
          subst e
          rw [List.getElem_append_right (by omega)]; simp only [hyl, Nat.sub_self, List.getElem_cons_zero]; exact ho
    · have hge : k = c.length := by simp at hc1; omega
      refine code_exit ?_
      refine post_exit_then ?_
      refine post_exit_then ?_
      refine post_exit ?_
      refine post_next ?_
      refine code_seq ?_
      refine code_region ?_
      refine OpsJ.freezeRow Del.here ?_
      rintro I34 a34 c34 hI34 hq hc34 hl34 hcells34
      cases hq
      refine op_v (v_move rfl) rfl ?_
      refine op_v (v_assign rfl) rfl ?_
      refine op_v (v_assign rfl) rfl ?_
      refine ops_nil ?_
      refine post_next ?_
      refine code_ret ?_
      refine post_ret (rs := [.tmp 4, .tmp 5]) rfl (List.Perm.refl _) (.cons (.tmp rfl) (.cons (.tmp rfl) .nil)) (List.nil_sublist _) ?_
      exact ⟨⟨0, ys, _, rfl, ⟨_, _, _, rfl, hc34, by omega, hcells34, hzs.mono hI34⟩, .inr ⟨by omega, .inr ⟨rfl, by omega, fun i h h2 => hall i (by omega) h2 h⟩⟩⟩, rfl⟩
/-! ### which ones are maximal -/
theorem chkC_litE {gs : List Sy} {c : List Li} (h : chkC gs c = 0) {x y : Li} (hx : x ∈ c) (hy : y ∈ c) : litE gs x y = 0 := by
  unfold litE; rw [if_neg (by rw [(chkC_ok h).2.2 x hx]; simp)]; exact (chkC_ok h).2.2 y hy
def undB (gs : List Sy) (x y : Li) (s : Bool) : Bool := !decide (mulG gs (rowL x) (rowL y) = 1) && !(s && decide (mulG gs (rowL x) (rowL y) = 0))
def topG (gs : List Sy) (c : List Li) (i : Nat) (s : Bool) : Bool := (List.range c.length).all fun k => decide (k = i) || undB gs (c.getD k zeroLi) (c.getD i zeroLi) s
theorem topG_iff {gs : List Sy} {c : List Li} {i : Nat} {s : Bool} (hi : i < c.length) : topG gs c i s = true ↔ ∀ k (h : k < c.length), k = i ∨ undB gs c[k] c[i] s = true := by
  unfold topG
  rw [List.all_eq_true]
  constructor
  · intro h k hk
    have := h k (List.mem_range.2 hk)
    rw [Bool.or_eq_true, decide_eq_true_eq] at this
    rw [List.getD_eq_getElem?_getD, List.getD_eq_getElem?_getD, List.getElem?_eq_getElem hk, List.getElem?_eq_getElem hi] at this
    exact this
  · intro h k hk
    have hk := List.mem_range.1 hk
    rw [Bool.or_eq_true, decide_eq_true_eq]
    rw [List.getD_eq_getElem?_getD, List.getD_eq_getElem?_getD, List.getElem?_eq_getElem hk, List.getElem?_eq_getElem hi]
    exact h k hk
theorem top1_does {I : Imm} {b4 b5 b6 b7 : Nat} {vg : Value} {ad : Option Addr} {c0 : Nat} {gs : List Sy} {c : List Li} {s : Bool} {i k : Nat} (hg : RepG I vg gs) (hv : RepC I (.slice ad c.length c0) c) (hsm : SmC c) (hchk : chkC gs c = 0) (hi : i < c.length) (hk : k < c.length) :
    Does Try.prog 135 [.int .i64 k, .pointer (some ⟨b4, 0, none⟩), .pointer (some ⟨b5, 0, none⟩), .pointer (some ⟨b6, 0, none⟩), .pointer (some ⟨b7, 0, none⟩)] I [.box b7 4 [.bool s], .box b6 3 [.int .i64 i], .box b5 26 [.slice ad c.length c0], .box b4 22 [vg]]
      (fun v _ δ' => v = .bool (undB gs c[k] c[i] s) ∧ δ' = [.box b7 4 [.bool s], .box b6 3 [.int .i64 i], .box b5 26 [.slice ad c.length c0], .box b4 22 [vg]]) := by
  obtain ⟨_, _, xs, hq, hc, hb, hcells, hrow⟩ := id hv
  cases hq
  obtain ⟨vk, ⟨la, lc, ra, rc, rfl, hkl, hkr⟩, hatk⟩ := hrow.cellsAt hcells hk
  obtain ⟨vi, ⟨ma, mc, na, nc, rfl, hil, hir⟩, hati⟩ := hrow.cellsAt hcells hi
  have hs1 := hatk.isSome
  have hsk := hsm.at hk
  have hsi := hsm.at hi
  refine Does.intro Try.func135 rfl Try.ntmps135 rfl fun w0 => ?_
  refine code_seq ?_
  refine code_region ?_
  refine op_v (v_assign rfl) rfl ?_
  refine ops_nil ?_
  refine post_next ?_
  refine code_seq ?_
  refine code_draw (.fl 0 (.fl 1 (.fl 2 (.fl 3 (.fl 4 (.fl 5 (.fl 6 (.fl 7 (.fl 8 (.ef 9 (.fl 10 (.fl 11 (.fl 12 (.ef 13 (.ef 14 .done))))))))))))))) (fun _ => _) mixed (by kernel_rfl) (by kernel_rfl) (fun _ => (List.Sublist.refl _)) ?_
  refine e_fl rfl rfl (fun hs_ => PF.mk rfl (v_loadA ty22 rfl rfl) hs_) ?_
  refine e_fl rfl rfl (fun hs_ => PF.mk rfl (v_loadA ty26 rfl rfl) hs_) ?_
  refine e_fl rfl rfl (fun hs_ => PF.mk rfl (v_move rfl) hs_) ?_
  first | refine e_fl rfl rfl (fun hs_ => PF.mk rfl (v_indexA Try.underlying26 sz49 rfl rfl) hs_) ?_ | refine e_fl rfl rfl (fun hs_ => PF.mk rfl (v_indexIA Try.underlying26 sz49 rfl rfl) hs_) ?_
  first | refine e_fl rfl rfl (fun hs_ => PF.mk rfl (v_loadI0 ty49 (hatk) rfl rfl rfl) hs_) ?_ | refine e_fl rfl rfl (fun hs_ => PF.mk rfl (v_loadI ty49 (hatk) rfl rfl rfl) hs_) ?_
  refine e_fl rfl rfl (fun hs_ => PF.mk rfl (v_loadA ty26 rfl rfl) hs_) ?_
  refine e_fl rfl rfl (fun hs_ => PF.mk rfl (v_loadA ty3 rfl rfl) hs_) ?_
  first | refine e_fl rfl rfl (fun hs_ => PF.mk rfl (v_indexA Try.underlying26 sz49 rfl rfl) hs_) ?_ | refine e_fl rfl rfl (fun hs_ => PF.mk rfl (v_indexIA Try.underlying26 sz49 rfl rfl) hs_) ?_
  first | refine e_fl rfl rfl (fun hs_ => PF.mk rfl (v_loadI0 ty49 (hati) rfl rfl rfl) hs_) ?_ | refine e_fl rfl rfl (fun hs_ => PF.mk rfl (v_loadI ty49 (hati) rfl rfl rfl) hs_) ?_
  refine e_eff rfl (by intro cs b hc; cases hc) (by intro c hc; cases hc) ?_
  refine op_call pl49 rfl rfl ((LCompare_does (x := c[k]) (y := c[i]) hg ⟨la, lc, ra, rc, rfl, hkl, hkr⟩ ⟨ma, mc, na, nc, rfl, hil, hir⟩ hsk.1 hsk.2 hsi.1 hsi.2)) Parts.none ?_
  rintro v19 I19 _ hI19 ⟨rfl, rfl⟩
  rw [chkC_litE hchk (List.getElem_mem hk) (List.getElem_mem hi), if_pos rfl]
  refine ops_nil ?_
  refine e_next rfl side_allA ?_
  refine e_fl rfl rfl (fun hs_ => PF.mk rfl (v_move rfl) hs_) ?_
  refine e_fl rfl rfl (fun hs_ => PF.mk rfl (v_extract rfl rfl) hs_) ?_
  refine e_fl rfl rfl (fun hs_ => PF.mk rfl (v_extract rfl rfl) hs_) ?_
  refine e_eff rfl (by intro cs b hc; cases hc) (by intro c hc; cases hc) ?_
  refine op_v (v_assign rfl) rfl ?_
  refine ops_nil ?_
  refine e_next rfl side_allA ?_
  refine e_eff rfl (by intro cs b hc; cases hc) (by intro c hc; cases hc) ?_
  refine op_v (v_assign rfl) rfl ?_
  refine ops_nil ?_
  refine e_next rfl (side_nil (by kernel_rfl)) ?_
  refine e_done ?_
  refine post_next ?_
  refine code_seq ?_
  refine code_region ?_
  refine op_v (v_move rfl) rfl ?_
  first | refine op_v (v_cmptA rfl rfl rfl) rfl ?_ | refine op_v (v_cmpfA rfl rfl rfl) rfl ?_ | refine op_v (v_cmp rfl rfl rfl) rfl ?_
  refine op_v (v_move rfl) rfl ?_
  first
    | (refine op_want rfl rfl ?_
       refine op_v (v_move rfl) rfl ?_)
    | (refine op_skip rfl rfl (by simp [undef]) rfl ?_)
  by_cases h26 : mulG gs (rowL c[k]) (rowL c[i]) ≠ 1
  · first
      | (refine op_want rfl rfl ?_
         first | refine op_v (v_cmptA rfl rfl rfl) rfl ?_ | refine op_v (v_cmpfA rfl rfl rfl) rfl ?_ | refine op_v (v_cmp rfl rfl rfl) rfl ?_)
      | (refine op_skip rfl rfl (by simp [undef]) rfl ?_)
    first | refine op_v (v_pickt rfl rfl) rfl ?_ | refine op_v (v_pickf rfl rfl) rfl ?_ | refine op_v (v_pickb rfl rfl rfl) rfl ?_
    refine op_v (v_move rfl) rfl ?_
    by_cases hst : s = true
    · subst hst
      first
        | (refine op_want rfl rfl ?_
           refine op_v (v_loadA ty4 rfl rfl) rfl ?_)
        | (refine op_skip rfl rfl (by simp [undef]) rfl ?_)
      first
        | (refine op_want rfl rfl ?_
           refine op_v (v_move rfl) rfl ?_)
        | (refine op_skip rfl rfl (by simp [undef]) rfl ?_)
      first
        | (refine op_want rfl rfl ?_
           refine op_v (v_move rfl) rfl ?_)
        | (refine op_skip rfl rfl (by simp [undef]) rfl ?_)
      by_cases h32 : mulG gs (rowL c[k]) (rowL c[i]) = 0
      · first
          | (refine op_want rfl rfl ?_
             first | refine op_v (v_cmptA rfl rfl rfl) rfl ?_ | refine op_v (v_cmpfA rfl rfl rfl) rfl ?_ | refine op_v (v_cmp rfl rfl rfl) rfl ?_)
          | (refine op_skip rfl rfl (by simp [undef]) rfl ?_)
        first
          | (refine op_want rfl rfl ?_
             first | refine op_v (v_pickt rfl rfl) rfl ?_ | refine op_v (v_pickf rfl rfl) rfl ?_ | refine op_v (v_pickb rfl rfl rfl) rfl ?_)
          | (refine op_skip rfl rfl (by simp [undef]) rfl ?_)
        first
          | (refine op_want rfl rfl ?_
             refine op_v (v_not rfl) rfl ?_)
          | (refine op_skip rfl rfl (by simp [undef]) rfl ?_)
        first | refine op_v (v_pickt rfl rfl) rfl ?_ | refine op_v (v_pickf rfl rfl) rfl ?_ | refine op_v (v_pickb rfl rfl rfl) rfl ?_
        refine op_v (v_assign rfl) rfl ?_
        refine ops_nil ?_
        refine post_next ?_
        refine code_ret ?_
        refine post_ret (rs := [.tmp 6]) rfl (List.Perm.refl _) (.cons (.tmp rfl) .nil) (List.Sublist.refl _) ?_
        exact ⟨by rw [show undB gs c[k] c[i] true = false from by simp [undB, h32]]; rfl, rfl⟩
      · first
          | (refine op_want rfl rfl ?_
             first | refine op_v (v_cmptA rfl rfl rfl) rfl ?_ | refine op_v (v_cmpfA rfl rfl rfl) rfl ?_ | refine op_v (v_cmp rfl rfl rfl) rfl ?_)
          | (refine op_skip rfl rfl (by simp [undef]) rfl ?_)
        first
          | (refine op_want rfl rfl ?_
             first | refine op_v (v_pickt rfl rfl) rfl ?_ | refine op_v (v_pickf rfl rfl) rfl ?_ | refine op_v (v_pickb rfl rfl rfl) rfl ?_)
          | (refine op_skip rfl rfl (by simp [undef]) rfl ?_)
        first
          | (refine op_want rfl rfl ?_
             refine op_v (v_not rfl) rfl ?_)
          | (refine op_skip rfl rfl (by simp [undef]) rfl ?_)
        first | refine op_v (v_pickt rfl rfl) rfl ?_ | refine op_v (v_pickf rfl rfl) rfl ?_ | refine op_v (v_pickb rfl rfl rfl) rfl ?_
        refine op_v (v_assign rfl) rfl ?_
        refine ops_nil ?_
        refine post_next ?_
        refine code_ret ?_
        refine post_ret (rs := [.tmp 6]) rfl (List.Perm.refl _) (.cons (.tmp rfl) .nil) (List.Sublist.refl _) ?_
        exact ⟨by rw [show undB gs c[k] c[i] true = true from by simp [undB, h26, h32]]; rfl, rfl⟩
    · have hst' : s = false := by simpa using hst
      subst hst'
      first
        | (refine op_want rfl rfl ?_
           refine op_v (v_loadA ty4 rfl rfl) rfl ?_)
        | (refine op_skip rfl rfl (by simp [undef]) rfl ?_)
      first
        | (refine op_want rfl rfl ?_
           refine op_v (v_move rfl) rfl ?_)
        | (refine op_skip rfl rfl (by simp [undef]) rfl ?_)
      first
        | (refine op_want rfl rfl ?_
           refine op_v (v_move rfl) rfl ?_)
        | (refine op_skip rfl rfl (by simp [undef]) rfl ?_)
      first
        | (refine op_want rfl rfl ?_
           first | refine op_v (v_cmptA rfl rfl rfl) rfl ?_ | refine op_v (v_cmpfA rfl rfl rfl) rfl ?_ | refine op_v (v_cmp rfl rfl rfl) rfl ?_)
        | (refine op_skip rfl rfl (by simp [undef]) rfl ?_)
      first
        | (refine op_want rfl rfl ?_
           first | refine op_v (v_pickt rfl rfl) rfl ?_ | refine op_v (v_pickf rfl rfl) rfl ?_ | refine op_v (v_pickb rfl rfl rfl) rfl ?_)
        | (refine op_skip rfl rfl (by simp [undef]) rfl ?_)
      first
        | (refine op_want rfl rfl ?_
           refine op_v (v_not rfl) rfl ?_)
        | (refine op_skip rfl rfl (by simp [undef]) rfl ?_)
      first | refine op_v (v_pickt rfl rfl) rfl ?_ | refine op_v (v_pickf rfl rfl) rfl ?_ | refine op_v (v_pickb rfl rfl rfl) rfl ?_
      refine op_v (v_assign rfl) rfl ?_
      refine ops_nil ?_
      refine post_next ?_
      refine code_ret ?_
      refine post_ret (rs := [.tmp 6]) rfl (List.Perm.refl _) (.cons (.tmp rfl) .nil) (List.Sublist.refl _) ?_
      exact ⟨by rw [show undB gs c[k] c[i] false = true from by simp [undB, h26]]; rfl, rfl⟩
  · first
      | (refine op_want rfl rfl ?_
         first | refine op_v (v_cmptA rfl rfl rfl) rfl ?_ | refine op_v (v_cmpfA rfl rfl rfl) rfl ?_ | refine op_v (v_cmp rfl rfl rfl) rfl ?_)
      | (refine op_skip rfl rfl (by simp [undef]) rfl ?_)
    first | refine op_v (v_pickt rfl rfl) rfl ?_ | refine op_v (v_pickf rfl rfl) rfl ?_ | refine op_v (v_pickb rfl rfl rfl) rfl ?_
    refine op_v (v_move rfl) rfl ?_
    first
      | (refine op_want rfl rfl ?_
         refine op_v (v_loadA ty4 rfl rfl) rfl ?_)
      | (refine op_skip rfl rfl (by simp [undef]) rfl ?_)
    first
      | (refine op_want rfl rfl ?_
         refine op_v (v_move rfl) rfl ?_)
      | (refine op_skip rfl rfl (by simp [undef]) rfl ?_)
    first
      | (refine op_want rfl rfl ?_
         refine op_v (v_move rfl) rfl ?_)
      | (refine op_skip rfl rfl (by simp [undef]) rfl ?_)
    first
      | (refine op_want rfl rfl ?_
         first | refine op_v (v_cmptA rfl rfl rfl) rfl ?_ | refine op_v (v_cmpfA rfl rfl rfl) rfl ?_ | refine op_v (v_cmp rfl rfl rfl) rfl ?_)
      | (refine op_skip rfl rfl (by simp [undef]) rfl ?_)
    first
      | (refine op_want rfl rfl ?_
         first | refine op_v (v_pickt rfl rfl) rfl ?_ | refine op_v (v_pickf rfl rfl) rfl ?_ | refine op_v (v_pickb rfl rfl rfl) rfl ?_)
      | (refine op_skip rfl rfl (by simp [undef]) rfl ?_)
    first
      | (refine op_want rfl rfl ?_
         refine op_v (v_not rfl) rfl ?_)
      | (refine op_skip rfl rfl (by simp [undef]) rfl ?_)
    first | refine op_v (v_pickt rfl rfl) rfl ?_ | refine op_v (v_pickf rfl rfl) rfl ?_ | refine op_v (v_pickb rfl rfl rfl) rfl ?_
    refine op_v (v_assign rfl) rfl ?_
    refine ops_nil ?_
    refine post_next ?_
    refine code_ret ?_
    refine post_ret (rs := [.tmp 6]) rfl (List.Perm.refl _) (.cons (.tmp rfl) .nil) (List.Sublist.refl _) ?_
    exact ⟨by have e : mulG gs (rowL c[k]) (rowL c[i]) = 1 := Classical.not_not.1 h26; rw [show undB gs c[k] c[i] s = false from by simp [undB, e]]; rfl, rfl⟩
theorem top_does {I : Imm} {vg va : Value} {gs : List Sy} {c : List Li} {s : Bool} {i : Nat} (hg : RepG I vg gs) (hv : RepC I va c) (hsm : SmC c) (hchk : chkC gs c = 0) (hi : i < c.length) :
    Does Try.prog 96 [vg, va, .int .i64 i, .bool s] I [] (fun v _ δ' => v = .bool (topG gs c i s) ∧ δ' = []) := by
  obtain ⟨ga, gc, hsg⟩ := hg.shape
  subst hsg
  obtain ⟨ad, c0, hsh⟩ := RepE.shape hv
  subst hsh
  have hb := hv.small
  refine Does.intro Try.func96 rfl Try.ntmps96 rfl fun w0 => ?_
  refine code_seq ?_
  refine code_region ?_
  refine o_box rfl rfl rfl (fun b4 => ?_)
  refine o_box rfl rfl rfl (fun b5 => ?_)
  refine o_box rfl rfl rfl (fun b6 => ?_)
  refine o_box rfl rfl rfl (fun b7 => ?_)
  refine op_v (v_assign rfl) rfl ?_
  refine ops_nil ?_
  refine post_next ?_
  refine code_seq ?_
  refine code_region ?_
  refine op_v (v_makeFunc rfl rfl) rfl ?_
  refine op_v (v_assign rfl) rfl ?_
  refine ops_nil ?_
  refine post_next ?_
  refine code_seq ?_
  refine code_seq ?_
  refine code_region ?_
  refine op_v (v_loadA ty26 rfl rfl) rfl ?_
  refine op_v (v_len Try.underlying26 rfl) rfl ?_
  refine op_v (v_move rfl) rfl ?_
  refine ops_nil ?_
  refine post_next ?_
  refine code_block ?_
  refine code_loop (fun m σ' I' δ' => ∃ k : Nat, m = c.length - k ∧ k ≤ c.length ∧ σ' = [(6, .pointer (some ⟨b6, 0, none⟩)), (9, .func (.func 135) #[] #[.pointer (some ⟨b4, 0, none⟩), .pointer (some ⟨b5, 0, none⟩), .pointer (some ⟨b6, 0, none⟩), .pointer (some ⟨b7, 0, none⟩)]), (13, .int .i64 c.length), (14, .int .i64 k)] ∧ I.le I' ∧ δ' = [.box b7 4 [.bool s], .box b6 3 [.int .i64 i], .box b5 26 [.slice ad c.length c0], .box b4 22 [.slice ga gs.length gc]] ∧ ∀ j (h : j < c.length), j < k → j = i ∨ undB gs c[j] c[i] s = true) c.length [(6, .pointer (some ⟨b6, 0, none⟩)), (9, .func (.func 135) #[] #[.pointer (some ⟨b4, 0, none⟩), .pointer (some ⟨b5, 0, none⟩), .pointer (some ⟨b6, 0, none⟩), .pointer (some ⟨b7, 0, none⟩)]), (13, .int .i64 c.length), (14, .int .i64 (0 : Nat))] ⟨0, rfl, Nat.zero_le _, rfl, Imm.le_refl _, rfl, fun j _ h => by omega⟩ ⟨rfl, rfl, rfl, rfl, trivial⟩ ?_
  rintro m _ I0 _ ⟨k, rfl, hk, rfl, hI0, rfl, hall⟩
  refine code_seq ?_
  refine code_region ?_
  first | refine op_v (v_cmptA rfl rfl rfl) rfl ?_ | refine op_v (v_cmpfA rfl rfl rfl) rfl ?_ | refine op_v (v_cmp rfl rfl rfl) rfl ?_
  refine ops_nil ?_
  refine post_next ?_
  refine code_seq ?_
  refine code_cond rfl (fun hc0 => ?_) (fun hc0 => ?_)
  · have hlt : k < c.length := by simpa using hc0
    refine code_skip ?_
    refine post_next ?_
    refine code_seq ?_
    refine code_block ?_
    refine code_seq ?_
    refine code_region ?_
    refine op_v (v_move rfl) rfl ?_
    refine op_v (v_assign rfl) rfl ?_
    refine ops_nil ?_
    refine post_next ?_
    refine code_seq ?_
    refine code_region ?_
    refine op_v (v_move rfl) rfl ?_
    refine op_v (v_loadA ty3 rfl rfl) rfl ?_
    by_cases h19 : k ≠ i
    · first | refine op_v (v_cmptA rfl rfl rfl) rfl ?_ | refine op_v (v_cmpfA rfl rfl rfl) rfl ?_ | refine op_v (v_cmp rfl rfl rfl) rfl ?_
      refine op_v (v_move rfl) rfl ?_
      first
        | (refine op_want rfl rfl ?_
           refine op_v (v_move rfl) rfl ?_)
        | (refine op_skip rfl rfl (by simp [undef]) rfl ?_)
      first
        | (refine op_want rfl rfl ?_
           refine op_v (v_move rfl) rfl ?_)
        | (refine op_skip rfl rfl (by simp [undef]) rfl ?_)
      first
        | (refine op_want rfl rfl ?_
           refine op_fcall rfl rfl rfl ((FDoes.ofFunc (args := [_]) (caps := [_, _, _, _]) pl135 (top1_does (hg.mono hI0) (hv.mono hI0) hsm hchk hi hlt))) Parts.all ?_
           rintro v23 I23 _ hI23 ⟨rfl, rfl⟩
           rw [List.append_nil])
        | (refine op_skip rfl rfl (by simp [undef]) rfl ?_)
      by_cases hu : undB gs c[k] c[i] s = true
      · rw [hu]
        first
          | (refine op_want rfl rfl ?_
             refine op_v (v_not rfl) rfl ?_)
          | (refine op_skip rfl rfl (by simp [undef]) rfl ?_)
        first | refine op_v (v_pickt rfl rfl) rfl ?_ | refine op_v (v_pickf rfl rfl) rfl ?_ | refine op_v (v_pickb rfl rfl rfl) rfl ?_
        refine ops_nil ?_
        refine post_next ?_
        refine code_cond_f rfl ?_
        refine code_skip ?_
        refine post_out ?_
        refine post_next ?_
        refine code_region ?_
        first | refine op_v (v_addb rfl rfl rfl (by omega)) rfl ?_ | refine op_v (v_add rfl rfl) rfl ?_
        refine op_v (v_move rfl) rfl ?_
        refine ops_nil ?_
        refine post_again (c.length - (k + 1)) [(6, .pointer (some ⟨b6, 0, none⟩)), (9, .func (.func 135) #[] #[.pointer (some ⟨b4, 0, none⟩), .pointer (some ⟨b5, 0, none⟩), .pointer (some ⟨b6, 0, none⟩), .pointer (some ⟨b7, 0, none⟩)]), (13, .int .i64 c.length), (14, .int .i64 (k + 1 : Nat))] (by omega) ⟨k + 1, rfl, hlt, rfl, Imm.leA, rfl, fun j h hj => ?_⟩ ⟨rfl, rfl, rfl, rfl, trivial⟩
        rcases Nat.lt_or_ge j k with q | q
        · exact hall j h q
        · right
          have e : j = k := by omega
          subst e; exact hu
      · have hu' : undB gs c[k] c[i] s = false := by simpa using hu
        rw [hu']
        first
          | (refine op_want rfl rfl ?_
             refine op_v (v_not rfl) rfl ?_)
          | (refine op_skip rfl rfl (by simp [undef]) rfl ?_)
        first | refine op_v (v_pickt rfl rfl) rfl ?_ | refine op_v (v_pickf rfl rfl) rfl ?_ | refine op_v (v_pickb rfl rfl rfl) rfl ?_
        refine ops_nil ?_
        refine post_next ?_
        refine code_cond_t rfl ?_
        refine code_seq ?_
        refine code_region ?_
        refine op_v (v_assign rfl) rfl ?_
        refine ops_nil ?_
        refine post_next ?_
        refine code_ret ?_
        refine post_ret_block ?_
        refine post_ret_then ?_
        refine post_ret_then ?_
        refine post_ret_block ?_
        refine post_ret_then ?_
        refine post_ret (rs := [.tmp 8]) rfl (List.Perm.refl _) (.cons (.tmp rfl) .nil) (List.nil_sublist _) ?_
        exact ⟨by rw [show topG gs c i s = false from by cases h : topG gs c i s; rfl; rcases (topG_iff hi).1 h k hlt with q | q; exact absurd q h19; exact absurd q hu]; rfl, rfl⟩
    · first | refine op_v (v_cmptA rfl rfl rfl) rfl ?_ | refine op_v (v_cmpfA rfl rfl rfl) rfl ?_ | refine op_v (v_cmp rfl rfl rfl) rfl ?_
      refine op_v (v_move rfl) rfl ?_
      first
        | (refine op_want rfl rfl ?_
           refine op_v (v_move rfl) rfl ?_)
        | (refine op_skip rfl rfl (by simp [undef]) rfl ?_)
      first
        | (refine op_want rfl rfl ?_
           refine op_v (v_move rfl) rfl ?_)
        | (refine op_skip rfl rfl (by simp [undef]) rfl ?_)
      first
        | (refine op_want rfl rfl ?_
           refine op_fcall rfl rfl rfl ((FDoes.ofFunc (args := [_]) (caps := [_, _, _, _]) pl135 (top1_does (hg.mono hI0) (hv.mono hI0) hsm hchk hi hlt))) Parts.all ?_
           rintro v23 I23 _ hI23 ⟨rfl, rfl⟩
           rw [List.append_nil])
        | (refine op_skip rfl rfl (by simp [undef]) rfl ?_)
      first
        | (refine op_want rfl rfl ?_
           refine op_v (v_not rfl) rfl ?_)
        | (refine op_skip rfl rfl (by simp [undef]) rfl ?_)
      first | refine op_v (v_pickt rfl rfl) rfl ?_ | refine op_v (v_pickf rfl rfl) rfl ?_ | refine op_v (v_pickb rfl rfl rfl) rfl ?_
      refine ops_nil ?_
      refine post_next ?_
      refine code_cond_f rfl ?_
      refine code_skip ?_
      refine post_out ?_
      refine post_next ?_
      refine code_region ?_
      first | refine op_v (v_addb rfl rfl rfl (by omega)) rfl ?_ | refine op_v (v_add rfl rfl) rfl ?_
      refine op_v (v_move rfl) rfl ?_
      refine ops_nil ?_
      refine post_again (c.length - (k + 1)) [(6, .pointer (some ⟨b6, 0, none⟩)), (9, .func (.func 135) #[] #[.pointer (some ⟨b4, 0, none⟩), .pointer (some ⟨b5, 0, none⟩), .pointer (some ⟨b6, 0, none⟩), .pointer (some ⟨b7, 0, none⟩)]), (13, .int .i64 c.length), (14, .int .i64 (k + 1 : Nat))] (by omega) ⟨k + 1, rfl, hlt, rfl, Imm.leA, rfl, fun j h hj => ?_⟩ ⟨rfl, rfl, rfl, rfl, trivial⟩
      rcases Nat.lt_or_ge j k with q | q
      · exact hall j h q
      · left; have := Classical.not_not.1 h19; omega
  · have hge : k = c.length := by simp at hc0; omega
    refine code_exit ?_
    refine post_exit_then ?_
    refine post_exit_then ?_
    refine post_exit ?_
    refine post_next ?_
    refine code_seq ?_
    refine code_region ?_
    refine op_v (v_assign rfl) rfl ?_
    refine ops_nil ?_
    refine post_next ?_
    refine code_ret ?_
    refine post_ret (rs := [.tmp 8]) rfl (List.Perm.refl _) (.cons (.tmp rfl) .nil) (List.nil_sublist _) ?_
    exact ⟨by rw [(topG_iff hi).2 fun j h => hall j h (by omega)]; rfl, rfl⟩
def maxE (gs : List Sy) (c : List Li) (i : Int) : Int := if chkC gs c ≠ 0 then chkC gs c else if i < 0 ∨ (c.length : Int) ≤ i then 1 else 0
def maxB (gs : List Sy) (c : List Li) (i : Int) (s : Bool) : Bool := if maxE gs c i = 0 then topG gs c i.toNat s else false
theorem Maximal_does {I : Imm} {vg va : Value} {gs : List Sy} {c : List Li} {s : Bool} {i : Int} (hg : RepG I vg gs) (hv : RepC I va c) (hsm : SmC c) :
    Does Try.prog 48 [vg, va, .int .i64 i, .bool s] I [] (fun v _ δ' => v = .tuple #[.bool (maxB gs c i s), .int .i64 (maxE gs c i)] ∧ δ' = []) := by
  obtain ⟨ad, c0, hsh⟩ := RepE.shape hv
  subst hsh
  have hb := hv.small
  refine Does.intro Try.func48 rfl Try.ntmps48 rfl fun w0 => ?_
  refine code_seq ?_
  refine code_region ?_
  refine op_v (v_assign rfl) rfl ?_
  refine op_v (v_assign rfl) rfl ?_
  refine ops_nil ?_
  refine post_next ?_
  refine code_seq ?_
  refine code_seq ?_
  refine code_region ?_
  refine op_v (v_move rfl) rfl ?_
  refine op_v (v_move rfl) rfl ?_
  refine op_call pl46 rfl rfl ((CCheck_does hg hv hsm)) Parts.none ?_
  rintro v13 I13 _ hI13 ⟨rfl, rfl⟩
  refine op_v (v_assign rfl) rfl ?_
  refine ops_nil ?_
  refine post_next ?_
  refine code_seq ?_
  refine code_region ?_
  refine op_v (v_move rfl) rfl ?_
  by_cases h15 : chkC gs c ≠ 0
  · have he : maxE gs c i = chkC gs c := if_pos h15
    first | refine op_v (v_cmptA rfl rfl rfl) rfl ?_ | refine op_v (v_cmpfA rfl rfl rfl) rfl ?_ | refine op_v (v_cmp rfl rfl rfl) rfl ?_
    refine ops_nil ?_
    refine post_next ?_
    refine code_cond_t rfl ?_
    refine code_seq ?_
    refine code_region ?_
    refine op_v (v_move rfl) rfl ?_
    refine op_v (v_assign rfl) rfl ?_
    refine op_v (v_assign rfl) rfl ?_
    refine ops_nil ?_
    refine post_next ?_
    refine code_ret ?_
    refine post_ret_then ?_
    refine post_ret (rs := [.tmp 8, .tmp 9]) rfl (List.Perm.refl _) (.cons (.tmp rfl) (.cons (.tmp rfl) .nil)) (List.nil_sublist _) ?_
    exact ⟨by unfold maxB; rw [he, if_neg h15]; rfl, rfl⟩
  · have hc : chkC gs c = 0 := Classical.not_not.1 h15
    first | refine op_v (v_cmptA rfl rfl rfl) rfl ?_ | refine op_v (v_cmpfA rfl rfl rfl) rfl ?_ | refine op_v (v_cmp rfl rfl rfl) rfl ?_
    refine ops_nil ?_
    refine post_next ?_
    refine code_cond_f rfl ?_
    refine code_skip ?_
    refine post_next ?_
    refine code_seq ?_
    refine code_seq ?_
    refine code_region ?_
    refine op_v (v_move rfl) rfl ?_
    by_cases h18 : i < 0
    · have he : maxE gs c i = 1 := by unfold maxE; rw [if_neg h15, if_pos (.inl h18)]
      first | refine op_v (v_cmptA rfl rfl rfl) rfl ?_ | refine op_v (v_cmpfA rfl rfl rfl) rfl ?_ | refine op_v (v_cmp rfl rfl rfl) rfl ?_
      refine op_v (v_move rfl) rfl ?_
      first
        | (refine op_want rfl rfl ?_
           refine op_v (v_move rfl) rfl ?_)
        | (refine op_skip rfl rfl (by simp [undef]) rfl ?_)
      first
        | (refine op_want rfl rfl ?_
           refine op_v (v_move rfl) rfl ?_)
        | (refine op_skip rfl rfl (by simp [undef]) rfl ?_)
      first
        | (refine op_want rfl rfl ?_
           refine op_v (v_len Try.underlying26 rfl) rfl ?_)
        | (refine op_skip rfl rfl (by simp [undef]) rfl ?_)
      first
        | (refine op_want rfl rfl ?_
           first | refine op_v (v_cmptA rfl rfl rfl) rfl ?_ | refine op_v (v_cmpfA rfl rfl rfl) rfl ?_ | refine op_v (v_cmp rfl rfl rfl) rfl ?_)
        | (refine op_skip rfl rfl (by simp [undef]) rfl ?_)
      first | refine op_v (v_pickt rfl rfl) rfl ?_ | refine op_v (v_pickf rfl rfl) rfl ?_ | refine op_v (v_pickb rfl rfl rfl) rfl ?_
      refine ops_nil ?_
      refine post_next ?_
      refine code_cond_t rfl ?_
      refine code_seq ?_
      refine code_region ?_
      refine op_v (v_assign rfl) rfl ?_
      refine op_v (v_assign rfl) rfl ?_
      refine ops_nil ?_
      refine post_next ?_
      refine code_ret ?_
      refine post_ret_then ?_
      refine post_ret (rs := [.tmp 8, .tmp 9]) rfl (List.Perm.refl _) (.cons (.tmp rfl) (.cons (.tmp rfl) .nil)) (List.nil_sublist _) ?_
      exact ⟨by unfold maxB; rw [he, if_neg (by decide)]; rfl, rfl⟩
    · first | refine op_v (v_cmptA rfl rfl rfl) rfl ?_ | refine op_v (v_cmpfA rfl rfl rfl) rfl ?_ | refine op_v (v_cmp rfl rfl rfl) rfl ?_
      refine op_v (v_move rfl) rfl ?_
      first
        | (refine op_want rfl rfl ?_
           refine op_v (v_move rfl) rfl ?_)
        | (refine op_skip rfl rfl (by simp [undef]) rfl ?_)
      first
        | (refine op_want rfl rfl ?_
           refine op_v (v_move rfl) rfl ?_)
        | (refine op_skip rfl rfl (by simp [undef]) rfl ?_)
      first
        | (refine op_want rfl rfl ?_
           refine op_v (v_len Try.underlying26 rfl) rfl ?_)
        | (refine op_skip rfl rfl (by simp [undef]) rfl ?_)
      by_cases h23 : (c.length : Int) ≤ i
      · have he : maxE gs c i = 1 := by unfold maxE; rw [if_neg h15, if_pos (.inr h23)]
        first
          | (refine op_want rfl rfl ?_
             first | refine op_v (v_cmptA rfl rfl rfl) rfl ?_ | refine op_v (v_cmpfA rfl rfl rfl) rfl ?_ | refine op_v (v_cmp rfl rfl rfl) rfl ?_)
          | (refine op_skip rfl rfl (by simp [undef]) rfl ?_)
        first | refine op_v (v_pickt rfl rfl) rfl ?_ | refine op_v (v_pickf rfl rfl) rfl ?_ | refine op_v (v_pickb rfl rfl rfl) rfl ?_
        refine ops_nil ?_
        refine post_next ?_
        refine code_cond_t rfl ?_
        refine code_seq ?_
        refine code_region ?_
        refine op_v (v_assign rfl) rfl ?_
        refine op_v (v_assign rfl) rfl ?_
        refine ops_nil ?_
        refine post_next ?_
        refine code_ret ?_
        refine post_ret_then ?_
        refine post_ret (rs := [.tmp 8, .tmp 9]) rfl (List.Perm.refl _) (.cons (.tmp rfl) (.cons (.tmp rfl) .nil)) (List.nil_sublist _) ?_
        exact ⟨by unfold maxB; rw [he, if_neg (by decide)]; rfl, rfl⟩
      · have he : maxE gs c i = 0 := by unfold maxE; rw [if_neg h15, if_neg (fun h => by rcases h with h | h; exact h18 h; exact h23 h)]
        obtain ⟨n, hn⟩ := Int.eq_ofNat_of_zero_le (show 0 ≤ i by omega)
        subst hn
        first
          | (refine op_want rfl rfl ?_
             first | refine op_v (v_cmptA rfl rfl rfl) rfl ?_ | refine op_v (v_cmpfA rfl rfl rfl) rfl ?_ | refine op_v (v_cmp rfl rfl rfl) rfl ?_)
          | (refine op_skip rfl rfl (by simp [undef]) rfl ?_)
        first | refine op_v (v_pickt rfl rfl) rfl ?_ | refine op_v (v_pickf rfl rfl) rfl ?_ | refine op_v (v_pickb rfl rfl rfl) rfl ?_
        refine ops_nil ?_
        refine post_next ?_
        refine code_cond_f rfl ?_
        refine code_skip ?_
        refine post_next ?_
        refine code_seq ?_
        refine code_region ?_
        refine op_v (v_move rfl) rfl ?_
        refine op_v (v_move rfl) rfl ?_
        refine op_v (v_move rfl) rfl ?_
        refine op_v (v_move rfl) rfl ?_
        refine op_call pl96 rfl rfl ((top_does (i := n) (hg.mono Imm.leA) (hv.mono Imm.leA) hsm hc (by omega))) Parts.none ?_
        rintro v29 I29 _ hI29 ⟨rfl, rfl⟩
        refine op_v (v_assign rfl) rfl ?_
        refine op_v (v_assign rfl) rfl ?_
        refine ops_nil ?_
        refine post_next ?_
        refine code_ret ?_
        refine post_ret (rs := [.tmp 8, .tmp 9]) rfl (List.Perm.refl _) (.cons (.tmp rfl) (.cons (.tmp rfl) .nil)) (List.nil_sublist _) ?_
        exact ⟨by unfold maxB; rw [he, if_pos rfl]; rfl, rfl⟩
end Go.Proofs.Ytdbadicpbmndbaa
/- What is selected, what may play a part: plainly, and walks. -/
set_option linter.unusedVariables false
set_option linter.unusedSimpArgs false
set_option linter.unnecessarySimpa false
/- short -/
namespace Go.Proofs.Ytdbadicpbmndbaa
open Go Lg

theorem Lg.v_indexArr {C : Ctx} {σ : Env} {ds : List Nat} {I : Imm} {δ : List Ent} {t e : TypeId} {x y : Operand} {b n i size : Nat} (ht : C.P.underlying t = some (.array n e)) (hsz : (C.P.info? e).map (·.size) = some size)
    (hx : evS σ x = some (.pointer (some ⟨b, 0, none⟩))) (hy : evS σ y = some (.int .i64 (i : Int))) (hi : i < n) : ValJ C σ ds I δ (.indexAddr t x y) (.pointer (some ⟨b, i * size, none⟩)) :=
  fun _ _ _ _ _ => (fun a w he _ => by
    have hu : (underlying t).run C.P w = .ok (.array n e) w := by simp [underlying, program, Sem.run, ht]
    cases hq : C.P.info? e with
    | none => simp [hq] at hsz
    | some inf =>
      simp [hq] at hsz
      simp [execOp, he.ev hx, he.ev hy, Instr.indexAt, asIntOf, hu, Instr.sureAddr, sizeOf, typeInfo, program, Sem.run, hq, hsz, Addr.add]
      split
      · simp; intro q; exact q.symm
      · first | omega | (exfalso; omega))
/-! ### plain -/
def litW (gs : List Sy) (x : Li) : Int := IntKind.i64.wrap ((if termG gs x.l = 0 then wgtG gs x.l else 0) + (if termG gs x.r = 0 then wgtG gs x.r else 0))
def pickG (gs : List Sy) (c : List Li) (how : Int) : Nat → Option Nat
  | 0 => none
  | k + 1 => if (c.getD k zeroLi).neg = false ∨ how = 0 then pickG gs c how k else match pickG gs c how k with
    | none => some k
    | some j => if how = 2 ∧ litW gs (c.getD j zeroLi) < litW gs (c.getD k zeroLi) then some k else some j
def selO : Option Nat → List Int
  | none => []
  | some j => [(j : Int)]
def selG (gs : List Sy) (c : List Li) (how : Int) : List Int := selO (pickG gs c how c.length)
theorem getD_at {c : List Li} {k : Nat} (h : k < c.length) : c.getD k zeroLi = c[k] := by rw [List.getD_eq_getElem?_getD, List.getElem?_eq_getElem h]; rfl
theorem pickG_zero (gs : List Sy) (c : List Li) : ∀ k, pickG gs c 0 k = none
  | 0 => rfl
  | k + 1 => by simp only [pickG]; rw [if_pos (.inr trivial)]; exact pickG_zero gs c k
theorem pickG_neg (gs : List Sy) (c : List Li) (how : Int) : ∀ k j, pickG gs c how k = some j → j < k ∧ (c.getD j zeroLi).neg = true
  | 0, j, h => by cases h
  | k + 1, j, h => by
    simp only [pickG] at h
    split at h
    · have := pickG_neg gs c how k j h; exact ⟨by omega, this.2⟩
    · rename_i hn
      have hk : (c.getD k zeroLi).neg = true := by
        cases q : (c.getD k zeroLi).neg
        · exact absurd (.inl q) hn
        · rfl
      split at h
      · cases h; exact ⟨by omega, hk⟩
      · rename_i i hi
        split at h
        · cases h; exact ⟨by omega, hk⟩
        · cases h
          have := pickG_neg gs c how k j hi; exact ⟨by omega, this.2⟩
theorem pickG_none {gs : List Sy} {c : List Li} {how : Int} (h0 : how ≠ 0) : ∀ k, k ≤ c.length → (pickG gs c how k = none ↔ (c.take k).any (·.neg) = false)
  | 0, _ => by simp [pickG]
  | k + 1, hk => by
    have ih := pickG_none (gs := gs) (c := c) h0 k (by omega)
    rw [List.take_succ_eq_append_getElem (by omega), List.any_append]
    simp only [pickG]
    rw [getD_at (by omega : k < c.length)]
    split
    · rename_i h
      have hn : c[k].neg = false := by rcases h with h | h; exact h; exact absurd h h0
      rw [ih]; simp [hn]
    · rename_i h
      have hn : c[k].neg = true := by
        cases q : c[k].neg
        · exact absurd (.inl q) h
        · rfl
      simp only [List.any_cons, hn]
      split
      · simp
      · split <;> simp
def firstN (c : List Li) : List Int := if c.any (·.neg) = true then [((c.findIdx (·.neg) : Nat) : Int)] else []
theorem pickG_first {gs : List Sy} {c : List Li} : ∀ k, k ≤ c.length → pickG gs c 1 k = if (c.take k).any (·.neg) = true then some (c.findIdx (·.neg)) else none
  | 0, _ => by simp [pickG]
  | k + 1, hk => by
    have ih := pickG_first (gs := gs) (c := c) k (by omega)
    have hkl : k < c.length := by omega
    rw [List.take_succ_eq_append_getElem hkl, List.any_append]
    simp only [pickG]
    rw [getD_at hkl, ih]
    cases hn : c[k].neg with
    | false => rw [if_pos (.inl rfl)]; simp [hn]
    | true =>
      rw [if_neg (by simp)]
      by_cases q : (c.take k).any (·.neg) = true
      · rw [if_pos q]
        simp only
        rw [if_neg (by simp), if_pos (by simp [q])]
      · rw [if_neg q]
        simp only
        rw [if_pos (by simp [hn])]
        congr 1
        have q' : (c.take k).any (·.neg) = false := by simpa using q
        refine ((List.findIdx_eq hkl).2 ⟨hn, fun j hj => ?_⟩).symm
        have := List.any_eq_false.1 q' c[j] (List.mem_take_iff_getElem.2 ⟨j, by omega, rfl⟩)
        simpa using this
theorem selG_first (gs : List Sy) (c : List Li) : selG gs c 1 = firstN c := by
  unfold selG firstN
  rw [pickG_first c.length (Nat.le_refl _), List.take_length]
  split <;> rfl
/-- what the heavy way holds behind so many -/
def bestL (gs : List Sy) (c : List Li) (k : Nat) : List Int := match pickG gs c 2 k with
  | none => firstN c
  | some j => [(j : Int)]
theorem bestL_end (gs : List Sy) (c : List Li) : bestL gs c c.length = selG gs c 2 := by
  unfold bestL selG
  cases h : pickG gs c 2 c.length with
  | some j => rfl
  | none =>
    have := (pickG_none (gs := gs) (by decide) c.length (Nat.le_refl _)).1 h
    rw [List.take_length] at this
    show firstN c = []
    unfold firstN; rw [this]; rfl
theorem bestL_skip {gs : List Sy} {c : List Li} {k : Nat} (hk : k < c.length) (h : c[k].neg = false) : bestL gs c (k + 1) = bestL gs c k := by
  have e : pickG gs c 2 (k + 1) = pickG gs c 2 k := by simp only [pickG]; rw [getD_at hk, if_pos (.inl h)]
  unfold bestL; rw [e]
theorem bestL_neg {gs : List Sy} {c : List Li} {k : Nat} (hk : k < c.length) (h : c[k].neg = true) : ∃ (j : Nat) (hj : j < c.length), bestL gs c k = [(j : Int)] ∧ bestL gs c (k + 1) = if litW gs c[j] < litW gs c[k] then [(k : Int)] else [(j : Int)] := by
  have e : pickG gs c 2 (k + 1) = match pickG gs c 2 k with
      | none => some k
      | some j => if litW gs (c.getD j zeroLi) < litW gs c[k] then some k else some j := by
    simp only [pickG]; rw [getD_at hk, if_neg (by simp [h])]
    simp only [true_and]
  cases hp : pickG gs c 2 k with
  | some j =>
    have hj := pickG_neg gs c 2 k j hp
    rw [hp] at e
    simp only at e
    have hjl : j < c.length := by omega
    rw [getD_at hjl] at e
    refine ⟨j, hjl, by unfold bestL; rw [hp], ?_⟩
    unfold bestL; rw [e]
    by_cases q : litW gs c[j] < litW gs c[k]
    · rw [if_pos q, if_pos q]
    · rw [if_neg q, if_neg q]
  | none =>
    rw [hp] at e
    simp only at e
    have hno := (pickG_none (gs := gs) (by decide) k (by omega)).1 hp
    have hf : c.findIdx (·.neg) = k := (List.findIdx_eq hk).2 ⟨h, fun j hj => by
      have := List.any_eq_false.1 hno c[j] (List.mem_take_iff_getElem.2 ⟨j, by omega, rfl⟩)
      simpa using this⟩
    have ha : c.any (·.neg) = true := List.any_eq_true.2 ⟨c[k], List.getElem_mem hk, h⟩
    refine ⟨k, hk, by unfold bestL; rw [hp]; show firstN c = _; unfold firstN; rw [if_pos ha, hf], ?_⟩
    unfold bestL; rw [e, if_neg (by omega)]
/-! ### walks -/
theorem weightL_does {I : Imm} {vg va : Value} {gs : List Sy} {x : Li} (hg : RepG I vg gs) (ha : RepL I va x) (h1 : x.l.size ≤ 1000000000) (h2 : x.r.size ≤ 1000000000) :
    Does Try.prog 141 [vg, va] I [] (fun v _ δ' => v = .int .i64 (litW gs x) ∧ δ' = []) := by
  obtain ⟨la, lc, ra, rc, rfl, hl, hr⟩ := ha
  refine Does.intro Try.func141 rfl Try.ntmps141 rfl fun w0 => ?_
  refine code_seq ?_
  refine code_region ?_
  refine o_box rfl rfl rfl (fun b3 => ?_)
  refine op_v (v_assign rfl) rfl ?_
  refine ops_nil ?_
  refine post_next ?_
  refine code_seq ?_
  refine code_region ?_
  refine op_v (v_move rfl) rfl ?_
  first | refine op_v (v_fieldB 1 Try.underlying49 rfl rfl fz47 rfl) rfl ?_ | refine op_v (v_fieldI 1 Try.underlying49 rfl rfl fz47 rfl (by assumption)) rfl ?_ | refine op_v (v_field Try.underlying49 rfl fz47 rfl rfl) rfl ?_
  refine op_v (v_loadA ty47 rfl rfl) rfl ?_
  refine op_call pl173 rfl rfl ((GWeight_does (hg.mono Imm.leA) (hl.mono Imm.leA) h1)) Parts.none ?_
  rintro v13 I13 _ hI13 ⟨rfl, rfl⟩
  refine op_v (v_move rfl) rfl ?_
  refine op_v (v_extract rfl rfl) rfl ?_
  refine op_v (v_extract rfl rfl) rfl ?_
  refine op_v (v_assign rfl) rfl ?_
  refine op_v (v_assign rfl) rfl ?_
  refine ops_nil ?_
  refine post_next ?_
  refine code_seq ?_
  refine code_region ?_
  refine op_v (v_move rfl) rfl ?_
  first | refine op_v (v_fieldB 3 Try.underlying49 rfl rfl fz47 rfl) rfl ?_ | refine op_v (v_fieldI 3 Try.underlying49 rfl rfl fz47 rfl (by assumption)) rfl ?_ | refine op_v (v_field Try.underlying49 rfl fz47 rfl rfl) rfl ?_
  refine op_v (v_loadA ty47 rfl rfl) rfl ?_
  refine op_call pl173 rfl rfl ((GWeight_does (hg.mono Imm.leA) (hr.mono Imm.leA) h2)) Parts.none ?_
  rintro v20 I20 _ hI20 ⟨rfl, rfl⟩
  refine op_v (v_move rfl) rfl ?_
  refine op_v (v_extract rfl rfl) rfl ?_
  refine op_v (v_extract rfl rfl) rfl ?_
  refine op_v (v_assign rfl) rfl ?_
  refine op_v (v_assign rfl) rfl ?_
  refine ops_nil ?_
  refine post_next ?_
  refine code_seq ?_
  refine code_region ?_
  refine op_v (v_move rfl) rfl ?_
  refine op_v (v_move rfl) rfl ?_
  refine op_v (v_add rfl rfl) rfl ?_
  refine op_v (v_assign rfl) rfl ?_
  refine ops_nil ?_
  refine post_next ?_
  refine code_ret ?_
  refine post_ret (rs := [.tmp 4]) rfl (List.Perm.refl _) (.cons (.tmp rfl) .nil) (List.nil_sublist _) ?_
  exact ⟨rfl, rfl⟩
theorem none_does {I : Imm} {vg va : Value} {gs : List Sy} {c : List Li} :
    Does Try.prog 99 [vg, va] I [] (fun v I' δ' => RInts I' v (selG gs c 0) ∧ δ' = []) := by
  refine Does.intro Try.func99 rfl Try.ntmps99 rfl fun w0 => ?_
  refine code_seq ?_
  refine code_region ?_
  refine op_v (v_assign rfl) rfl ?_
  refine ops_nil ?_
  refine post_next ?_
  refine code_seq ?_
  refine code_region ?_
  refine op_v (v_assign rfl) rfl ?_
  refine ops_nil ?_
  refine post_next ?_
  refine code_ret ?_
  refine post_ret (rs := [.tmp 4]) rfl (List.Perm.refl _) (.cons (.tmp rfl) .nil) (List.nil_sublist _) ?_
  exact ⟨by unfold selG; rw [pickG_zero]; exact RInts.nil _, rfl⟩
theorem first1_does {I : Imm} {x : Li} {ux : List Value} (hx : LitE.R I x ux) :
    Does Try.prog 140 [.agg ux.toArray] I [] (fun v _ δ' => v = .bool x.neg ∧ δ' = []) := by
  obtain ⟨la, lc, ra, rc, rfl, _, _⟩ := hx
  refine Does.intro Try.func140 rfl Try.ntmps140 rfl fun w0 => ?_
  refine code_seq ?_
  refine code_region ?_
  refine o_box rfl rfl rfl (fun b1 => ?_)
  refine op_v (v_assign rfl) rfl ?_
  refine ops_nil ?_
  refine post_next ?_
  refine code_seq ?_
  refine code_region ?_
  first | refine op_v (v_fieldB 0 Try.underlying49 rfl rfl fz4 rfl) rfl ?_ | refine op_v (v_fieldI 0 Try.underlying49 rfl rfl fz4 rfl (by assumption)) rfl ?_ | refine op_v (v_field Try.underlying49 rfl fz4 rfl rfl) rfl ?_
  refine op_v (v_loadA ty4 rfl rfl) rfl ?_
  refine op_v (v_assign rfl) rfl ?_
  refine ops_nil ?_
  refine post_next ?_
  refine code_ret ?_
  refine post_ret (rs := [.tmp 2]) rfl (List.Perm.refl _) (.cons (.tmp rfl) .nil) (List.nil_sublist _) ?_
  exact ⟨rfl, rfl⟩
theorem first_doesM {I : Imm} {vg va : Value} {c : List Li} (hv : RepC I va c) :
    Does Try.prog 100 [vg, va] I [] (fun v I' δ' => RInts I' v (firstN c) ∧ δ' = []) := by
  have hb := hv.small
  refine Does.intro Try.func100 rfl Try.ntmps100 rfl fun w0 => ?_
  refine code_seq ?_
  refine code_region ?_
  refine op_v (v_assign rfl) rfl ?_
  refine ops_nil ?_
  refine post_next ?_
  refine code_seq ?_
  refine code_region ?_
  refine op_v (v_move rfl) rfl ?_
  refine op_call pl116 rfl rfl ((IdxC_does (p := fun x => x.neg) hv (fun J x u hJ hu hx => Does.toF (args := [_]) (by kernel_rfl) (first1_does hu)))) Parts.none ?_
  rintro v7 I7 _ hI7 ⟨⟨n, rfl, hn⟩, rfl⟩
  refine op_v (v_assign rfl) rfl ?_
  refine ops_nil ?_
  refine post_next ?_
  refine code_seq ?_
  refine code_seq ?_
  refine code_region ?_
  refine op_v (v_move rfl) rfl ?_
  by_cases h9 : n < 0
  · have he : firstN c = [] := by
      rcases hn with ⟨_, h⟩ | ⟨j, hj, e, _⟩
      · unfold firstN; rw [h]; rfl
      · omega
    first | refine op_v (v_cmptA rfl rfl rfl) rfl ?_ | refine op_v (v_cmpfA rfl rfl rfl) rfl ?_ | refine op_v (v_cmp rfl rfl rfl) rfl ?_
    refine ops_nil ?_
    refine post_next ?_
    refine code_cond_t rfl ?_
    refine code_seq ?_
    refine code_region ?_
    refine op_v (v_assign rfl) rfl ?_
    refine ops_nil ?_
    refine post_next ?_
    refine code_ret ?_
    refine post_ret_then ?_
    refine post_ret (rs := [.tmp 4]) rfl (List.Perm.refl _) (.cons (.tmp rfl) .nil) (List.nil_sublist _) ?_
    exact ⟨by rw [he]; exact RInts.nil _, rfl⟩
  · have he : firstN c = [n] ∧ InR n := by
      rcases hn with ⟨e, h⟩ | ⟨j, hj, rfl, hp, hno⟩
      · omega
      · have hf : c.findIdx (·.neg) = j := (List.findIdx_eq hj).2 ⟨hp, fun i hi => by
          have := List.any_eq_false.1 hno c[i] (List.mem_take_iff_getElem.2 ⟨i, by omega, rfl⟩)
          simpa using this⟩
        exact ⟨by unfold firstN; rw [if_pos (List.any_eq_true.2 ⟨c[j], List.getElem_mem hj, hp⟩), hf], by unfold InR; omega⟩
    first | refine op_v (v_cmptA rfl rfl rfl) rfl ?_ | refine op_v (v_cmpfA rfl rfl rfl) rfl ?_ | refine op_v (v_cmp rfl rfl rfl) rfl ?_
    refine ops_nil ?_
    refine post_next ?_
    refine code_cond_f rfl ?_
    refine code_skip ?_
    refine post_next ?_
    refine code_seq ?_
    refine code_region ?_
    refine op_v (v_move rfl) rfl ?_
    refine o_buildSlice (xs := [(Go.Operand.tmp 10)]) Try.underlying62 bs3 rfl rfl rfl rfl rfl (fun b11 => ?_)
    refine OpsJ.freezeRow Del.here ?_
    rintro I11 a11 c11 hI11 hq hc11 hl11 hcells11
    cases hq
    refine op_v (v_assign rfl) rfl ?_
    refine ops_nil ?_
    refine post_next ?_
    refine code_ret ?_
    refine post_ret (rs := [.tmp 4]) rfl (List.Perm.refl _) (.cons (.tmp rfl) .nil) (List.nil_sublist _) ?_
    exact ⟨by rw [he.1]; exact RInts.of rfl hc11 (by decide) hcells11 (by intro x hx; simp at hx; subst hx; exact he.2), rfl⟩
theorem heavy_does {I : Imm} {vg va : Value} {gs : List Sy} {c : List Li} (hg : RepG I vg gs) (hv : RepC I va c) (hsm : SmC c) :
    Does Try.prog 101 [vg, va] I [] (fun v I' δ' => RInts I' v (selG gs c 2) ∧ δ' = []) := by
  obtain ⟨ad, c0, xs, rfl, hc, hb, hcells, hrow⟩ := id hv
  refine Does.intro Try.func101 rfl Try.ntmps101 rfl fun w0 => ?_
  refine code_seq ?_
  refine code_region ?_
  refine op_v (v_assign rfl) rfl ?_
  refine ops_nil ?_
  refine post_next ?_
  refine code_seq ?_
  refine code_region ?_
  refine op_v (v_move rfl) rfl ?_
  refine op_v (v_move rfl) rfl ?_
  refine op_call pl100 rfl rfl ((first_doesM hv)) Parts.none ?_
  rintro v10 I10 _ hI10 ⟨hv10, rfl⟩
  refine op_v (v_assign rfl) rfl ?_
  refine ops_nil ?_
  refine post_next ?_
  refine code_seq ?_
  refine code_seq ?_
  refine code_region ?_
  refine op_v (v_move rfl) rfl ?_
  refine op_v (v_len Try.underlying26 rfl) rfl ?_
  refine op_v (v_move rfl) rfl ?_
  refine ops_nil ?_
  refine post_next ?_
  refine code_block ?_
  refine code_loop (fun m σ' I' δ' => ∃ (k : Nat) (vb : Value), m = c.length - k ∧ k ≤ c.length ∧ σ' = [(0, vg), (1, .slice ad c.length c0), (5, vb), (11, .slice ad c.length c0), (12, .int .i64 c.length), (13, .int .i64 k)] ∧ I10.le I' ∧ δ' = [] ∧ RInts I' vb (bestL gs c k)) c.length [(0, vg), (1, .slice ad c.length c0), (5, v10), (11, .slice ad c.length c0), (12, .int .i64 c.length), (13, .int .i64 (0 : Nat))] ⟨0, v10, rfl, Nat.zero_le _, rfl, Imm.le_refl _, rfl, hv10⟩ ⟨rfl, rfl, rfl, rfl, rfl, rfl, trivial⟩ ?_
  rintro m _ I0 _ ⟨k, vb, rfl, hk, rfl, hI0, rfl, hvb⟩
  refine code_seq ?_
  refine code_region ?_
  first | refine op_v (v_cmptA rfl rfl rfl) rfl ?_ | refine op_v (v_cmpfA rfl rfl rfl) rfl ?_ | refine op_v (v_cmp rfl rfl rfl) rfl ?_
  refine ops_nil ?_
  refine post_next ?_
  refine code_seq ?_
  refine code_cond rfl (fun hc0 => ?_) (fun hc0 => ?_)
  · have hlt : k < c.length := by simpa using hc0
    obtain ⟨vs, ⟨la, lc, ra, rc, rfl, hl, hr⟩, hat⟩ := hrow.cellsAt hcells hlt
    have hs1 := hat.isSome
    have hsk := hsm.at hlt
    refine code_skip ?_
    refine post_next ?_
    refine code_seq ?_
    refine code_block ?_
    refine code_seq ?_
    refine code_region ?_
    refine op_v (v_move rfl) rfl ?_
    first | refine op_v (v_indexA Try.underlying26 sz49 rfl rfl) rfl ?_ | refine op_v (v_indexIA Try.underlying26 sz49 rfl rfl) rfl ?_
    first | refine op_v (v_loadI0 ty49 (hat.mono Imm.leA) rfl rfl rfl) rfl ?_ | refine op_v (v_loadI ty49 (hat.mono Imm.leA) rfl rfl rfl) rfl ?_
    refine o_alloc z49 rfl rfl (fun b7 => ?_)
    refine op_v (v_assign rfl) rfl ?_
    refine o_store ty49 rfl rfl rfl rfl rfl (by repeat (first | exact Swap.here | apply Swap.there)) rfl ?_
    refine ops_nil ?_
    refine post_next ?_
    refine code_seq ?_
    refine code_draw (.fl 0 (.fl 1 (.fl 2 (.fl 3 (.fl 4 (.fl 6 (.fl 7 (.fl 8 (.fl 9 (.fl 10 (.fl 11 (.fl 12 (.ef 5 (.ef 13 (.fl 14 (.fl 15 .done)))))))))))))))) (fun _ => _) mixed (by kernel_rfl) (by kernel_rfl) (fun _ => (List.Sublist.refl _)) ?_
    first | refine e_fl rfl rfl (fun hs_ => PF.mk rfl (v_fieldB 0 Try.underlying49 rfl rfl fz4 rfl) hs_) ?_ | refine e_fl rfl rfl (fun hs_ => PF.mk rfl (v_fieldI 0 Try.underlying49 rfl rfl fz4 rfl (by assumption)) hs_) ?_ | refine e_fl rfl rfl (fun hs_ => PF.mk rfl (v_field Try.underlying49 rfl fz4 rfl rfl) hs_) ?_
    refine e_fl rfl rfl (fun hs_ => PF.mk rfl (v_loadA ty4 rfl rfl) hs_) ?_
    by_cases hn : c[k].neg = true
    · obtain ⟨j, hj, hb1, hb2⟩ := bestL_neg (gs := gs) hlt hn
      rw [hb1] at hvb
      obtain ⟨ba, bc, rfl⟩ := hvb.shape
      have hatj := hvb.atI 0 Nat.zero_lt_one
      have hsb := hatj.isSome
      obtain ⟨vj, ⟨ma, mc, na, nc, rfl, hjl, hjr⟩, hatc⟩ := hrow.cellsAt hcells hj
      have hsj := hsm.at hj
      refine e_fl rfl rfl (fun hs_ => PF.mk rfl (v_move (v := .bool true) (by show some (Value.bool c[k].neg) = _; rw [hn])) hs_) ?_
      first | refine e_fl rfl rfl (fun hs_ => PF.mkg rfl rfl rfl (v_move rfl) hs_) ?_ | refine e_fl rfl rfl (fun hs_ => PF.mks rfl (by intro c hc; cases hc) rfl rfl (by simp [undef]) hs_) ?_
      first | refine e_fl rfl rfl (fun hs_ => PF.mkg rfl rfl rfl (v_loadA ty49 rfl rfl) hs_) ?_ | refine e_fl rfl rfl (fun hs_ => PF.mks rfl (by intro c hc; cases hc) rfl rfl (by simp [undef]) hs_) ?_
      first | refine e_fl rfl rfl (fun hs_ => PF.mkg rfl rfl rfl (v_move rfl) hs_) ?_ | refine e_fl rfl rfl (fun hs_ => PF.mks rfl (by intro c hc; cases hc) rfl rfl (by simp [undef]) hs_) ?_
      first | refine e_fl rfl rfl (fun hs_ => PF.mkg rfl rfl rfl (v_move rfl) hs_) ?_ | refine e_fl rfl rfl (fun hs_ => PF.mks rfl (by intro c hc; cases hc) rfl rfl (by simp [undef]) hs_) ?_
      first | refine e_fl rfl rfl (fun hs_ => PF.mkg rfl rfl rfl (v_move rfl) hs_) ?_ | refine e_fl rfl rfl (fun hs_ => PF.mks rfl (by intro c hc; cases hc) rfl rfl (by simp [undef]) hs_) ?_
      first | refine e_fl rfl rfl (fun hs_ => PF.mkg rfl rfl rfl (v_indexA Try.underlying62 sz3 rfl rfl) hs_) ?_ | refine e_fl rfl rfl (fun hs_ => PF.mkg rfl rfl rfl (v_indexIA Try.underlying62 sz3 rfl rfl) hs_) ?_ | refine e_fl rfl rfl (fun hs_ => PF.mks rfl (by intro c hc; cases hc) rfl rfl (by simp [undef]) hs_) ?_
      first | refine e_fl rfl rfl (fun hs_ => PF.mkg rfl rfl rfl (v_loadI0 ty3 (hatj.mono Imm.leA) rfl rfl rfl) hs_) ?_ | refine e_fl rfl rfl (fun hs_ => PF.mkg rfl rfl rfl (v_loadI ty3 (hatj.mono Imm.leA) rfl rfl rfl) hs_) ?_ | refine e_fl rfl rfl (fun hs_ => PF.mks rfl (by intro c hc; cases hc) rfl rfl (by simp [undef]) hs_) ?_
      first | refine e_fl rfl rfl (fun hs_ => PF.mkg rfl rfl rfl (v_indexA Try.underlying26 sz49 rfl rfl) hs_) ?_ | refine e_fl rfl rfl (fun hs_ => PF.mkg rfl rfl rfl (v_indexIA Try.underlying26 sz49 rfl rfl) hs_) ?_ | refine e_fl rfl rfl (fun hs_ => PF.mks rfl (by intro c hc; cases hc) rfl rfl (by simp [undef]) hs_) ?_
      first | refine e_fl rfl rfl (fun hs_ => PF.mkg rfl rfl rfl (v_loadI0 ty49 (hatc.mono Imm.leA) rfl rfl rfl) hs_) ?_ | refine e_fl rfl rfl (fun hs_ => PF.mkg rfl rfl rfl (v_loadI ty49 (hatc.mono Imm.leA) rfl rfl rfl) hs_) ?_ | refine e_fl rfl rfl (fun hs_ => PF.mks rfl (by intro c hc; cases hc) rfl rfl (by simp [undef]) hs_) ?_
      refine e_eff rfl (by intro cs b hc; cases hc) (by intro c hc; cases hc) ?_
      first
        | (refine op_want rfl rfl ?_
           refine op_call pl141 rfl rfl ((weightL_does (x := c[k]) (hg.mono Imm.leA) ⟨la, lc, ra, rc, rfl, hl.mono Imm.leA, hr.mono Imm.leA⟩ hsk.1 hsk.2)) Parts.none ?_
           rintro v23 I23 _ hI23 ⟨rfl, rfl⟩)
        | (refine op_skip rfl rfl (by simp [undef]) rfl ?_)
      refine ops_nil ?_
      refine e_next rfl side_allA ?_
      refine e_eff rfl (by intro cs b hc; cases hc) (by intro c hc; cases hc) ?_
      first
        | (refine op_want rfl rfl ?_
           refine op_call pl141 rfl rfl ((weightL_does (x := c[j]) (hg.mono Imm.leA) ⟨ma, mc, na, nc, rfl, hjl.mono Imm.leA, hjr.mono Imm.leA⟩ hsj.1 hsj.2)) Parts.none ?_
           rintro v31 I31 _ hI31 ⟨rfl, rfl⟩)
        | (refine op_skip rfl rfl (by simp [undef]) rfl ?_)
      refine ops_nil ?_
      refine e_next rfl side_allA ?_
      by_cases h32 : litW gs c[j] < litW gs c[k]
      · rw [if_pos h32] at hb2
        first | refine e_fl rfl rfl (fun hs_ => PF.mkg rfl rfl rfl (v_cmpt rfl rfl rfl h32) hs_) ?_ | refine e_fl rfl rfl (fun hs_ => PF.mks rfl (by intro c hc; cases hc) rfl rfl (by simp [undef]) hs_) ?_
        first | refine e_fl rfl rfl (fun hs_ => PF.mk rfl (v_pickt rfl rfl) hs_) ?_ | refine e_fl rfl rfl (fun hs_ => PF.mk rfl (v_pickf rfl rfl) hs_) ?_ | refine e_fl rfl rfl (fun hs_ => PF.mk rfl (v_pickb rfl rfl rfl) hs_) ?_
        refine e_done ?_
        refine post_next ?_
        refine code_cond_t rfl ?_
        refine code_region ?_
        refine op_v (v_move rfl) rfl ?_
        refine o_buildSlice (xs := [(Go.Operand.tmp 34)]) Try.underlying62 bs3 rfl rfl rfl rfl rfl (fun b35 => ?_)
        refine op_v (v_assign rfl) rfl ?_
        refine ops_nil ?_
        refine post_out ?_
        refine post_next ?_
        refine code_region ?_
        refine OpsJ.freezeRow Del.here ?_
        rintro I36 a36 c36 hI36 hq hc36 hl36 hcells36
        cases hq
        first | refine op_v (v_addb rfl rfl rfl (by omega)) rfl ?_ | refine op_v (v_add rfl rfl) rfl ?_
        refine op_v (v_move rfl) rfl ?_
        refine ops_nil ?_
        refine PostJ.view (View.drop Del.here) ?_
        refine post_again (c.length - (k + 1)) [(0, vg), (1, .slice ad c.length c0), (5, .slice (some ⟨b35, 0, none⟩) 1 1), (11, .slice ad c.length c0), (12, .int .i64 c.length), (13, .int .i64 (k + 1 : Nat))] (by omega) ⟨k + 1, .slice (some ⟨b35, 0, none⟩) 1 1, rfl, hlt, rfl, Imm.leA, rfl, by rw [hb2]; exact RInts.of rfl hc36 (by decide) hcells36 (by intro x hx; simp at hx; subst hx; unfold InR; omega)⟩ ⟨rfl, rfl, rfl, rfl, rfl, rfl, trivial⟩
      · rw [if_neg h32] at hb2
        first | refine e_fl rfl rfl (fun hs_ => PF.mkg rfl rfl rfl (v_cmpf rfl rfl rfl h32) hs_) ?_ | refine e_fl rfl rfl (fun hs_ => PF.mks rfl (by intro c hc; cases hc) rfl rfl (by simp [undef]) hs_) ?_
        first | refine e_fl rfl rfl (fun hs_ => PF.mk rfl (v_pickt rfl rfl) hs_) ?_ | refine e_fl rfl rfl (fun hs_ => PF.mk rfl (v_pickf rfl rfl) hs_) ?_ | refine e_fl rfl rfl (fun hs_ => PF.mk rfl (v_pickb rfl rfl rfl) hs_) ?_
        refine e_done ?_
        refine post_next ?_
        refine code_cond_f rfl ?_
        refine code_skip ?_
        refine post_out ?_
        refine post_next ?_
        refine code_region ?_
        first | refine op_v (v_addb rfl rfl rfl (by omega)) rfl ?_ | refine op_v (v_add rfl rfl) rfl ?_
        refine op_v (v_move rfl) rfl ?_
        refine ops_nil ?_
        refine PostJ.view (View.drop Del.here) ?_
        refine post_again (c.length - (k + 1)) [(0, vg), (1, .slice ad c.length c0), (5, .slice ba 1 bc), (11, .slice ad c.length c0), (12, .int .i64 c.length), (13, .int .i64 (k + 1 : Nat))] (by omega) ⟨k + 1, .slice ba 1 bc, rfl, hlt, rfl, Imm.leA, rfl, by rw [hb2]; exact hvb.mono Imm.leA⟩ ⟨rfl, rfl, rfl, rfl, rfl, rfl, trivial⟩
    · have hn' : c[k].neg = false := by simpa using hn
      have hb2 := bestL_skip (gs := gs) hlt hn'
      refine e_fl rfl rfl (fun hs_ => PF.mk rfl (v_move (v := .bool false) (by show some (Value.bool c[k].neg) = _; rw [hn'])) hs_) ?_
      first | refine e_fl rfl rfl (fun hs_ => PF.mkg rfl rfl rfl (v_move rfl) hs_) ?_ | refine e_fl rfl rfl (fun hs_ => PF.mks rfl (by intro c hc; cases hc) rfl rfl (by simp [undef]) hs_) ?_
      first | refine e_fl rfl rfl (fun hs_ => PF.mkg rfl rfl rfl (v_loadA ty49 rfl rfl) hs_) ?_ | refine e_fl rfl rfl (fun hs_ => PF.mks rfl (by intro c hc; cases hc) rfl rfl (by simp [undef]) hs_) ?_
      first | refine e_fl rfl rfl (fun hs_ => PF.mkg rfl rfl rfl (v_move rfl) hs_) ?_ | refine e_fl rfl rfl (fun hs_ => PF.mks rfl (by intro c hc; cases hc) rfl rfl (by simp [undef]) hs_) ?_
      first | refine e_fl rfl rfl (fun hs_ => PF.mkg rfl rfl rfl (v_move rfl) hs_) ?_ | refine e_fl rfl rfl (fun hs_ => PF.mks rfl (by intro c hc; cases hc) rfl rfl (by simp [undef]) hs_) ?_
      first | refine e_fl rfl rfl (fun hs_ => PF.mkg rfl rfl rfl (v_move rfl) hs_) ?_ | refine e_fl rfl rfl (fun hs_ => PF.mks rfl (by intro c hc; cases hc) rfl rfl (by simp [undef]) hs_) ?_
      first | refine e_fl rfl rfl (fun hs_ => PF.mkg rfl rfl rfl (v_indexA Try.underlying62 sz3 rfl rfl) hs_) ?_ | refine e_fl rfl rfl (fun hs_ => PF.mkg rfl rfl rfl (v_indexIA Try.underlying62 sz3 rfl rfl) hs_) ?_ | refine e_fl rfl rfl (fun hs_ => PF.mks rfl (by intro c hc; cases hc) rfl rfl (by simp [undef]) hs_) ?_
      first | refine e_fl rfl rfl (fun hs_ => PF.mkg rfl rfl rfl (v_loadI0 ty3 (hatj.mono Imm.leA) rfl rfl rfl) hs_) ?_ | refine e_fl rfl rfl (fun hs_ => PF.mkg rfl rfl rfl (v_loadI ty3 (hatj.mono Imm.leA) rfl rfl rfl) hs_) ?_ | refine e_fl rfl rfl (fun hs_ => PF.mks rfl (by intro c hc; cases hc) rfl rfl (by simp [undef]) hs_) ?_
      first | refine e_fl rfl rfl (fun hs_ => PF.mkg rfl rfl rfl (v_indexA Try.underlying26 sz49 rfl rfl) hs_) ?_ | refine e_fl rfl rfl (fun hs_ => PF.mkg rfl rfl rfl (v_indexIA Try.underlying26 sz49 rfl rfl) hs_) ?_ | refine e_fl rfl rfl (fun hs_ => PF.mks rfl (by intro c hc; cases hc) rfl rfl (by simp [undef]) hs_) ?_
      first | refine e_fl rfl rfl (fun hs_ => PF.mkg rfl rfl rfl (v_loadI0 ty49 (hatc.mono Imm.leA) rfl rfl rfl) hs_) ?_ | refine e_fl rfl rfl (fun hs_ => PF.mkg rfl rfl rfl (v_loadI ty49 (hatc.mono Imm.leA) rfl rfl rfl) hs_) ?_ | refine e_fl rfl rfl (fun hs_ => PF.mks rfl (by intro c hc; cases hc) rfl rfl (by simp [undef]) hs_) ?_
      refine e_eff rfl (by intro cs b hc; cases hc) (by intro c hc; cases hc) ?_
      first
        | (refine op_want rfl rfl ?_
           refine op_call pl141 rfl rfl ((weightL_does (x := c[k]) (hg.mono Imm.leA) ⟨la, lc, ra, rc, rfl, hl.mono Imm.leA, hr.mono Imm.leA⟩ hsk.1 hsk.2)) Parts.none ?_
           rintro v23 I23 _ hI23 ⟨rfl, rfl⟩)
        | (refine op_skip rfl rfl (by simp [undef]) rfl ?_)
      refine ops_nil ?_
      refine e_next rfl side_allA ?_
      refine e_eff rfl (by intro cs b hc; cases hc) (by intro c hc; cases hc) ?_
      first
        | (refine op_want rfl rfl ?_
           refine op_call pl141 rfl rfl ((weightL_does (x := c[j]) (hg.mono Imm.leA) ⟨ma, mc, na, nc, rfl, hjl.mono Imm.leA, hjr.mono Imm.leA⟩ hsj.1 hsj.2)) Parts.none ?_
           rintro v31 I31 _ hI31 ⟨rfl, rfl⟩)
        | (refine op_skip rfl rfl (by simp [undef]) rfl ?_)
      refine ops_nil ?_
      refine e_next rfl side_allA ?_
      first | refine e_fl rfl rfl (fun hs_ => PF.mkg rfl rfl rfl (v_cmptA rfl rfl rfl) hs_) ?_ | refine e_fl rfl rfl (fun hs_ => PF.mkg rfl rfl rfl (v_cmpfA rfl rfl rfl) hs_) ?_ | refine e_fl rfl rfl (fun hs_ => PF.mkg rfl rfl rfl (v_cmp rfl rfl rfl) hs_) ?_ | refine e_fl rfl rfl (fun hs_ => PF.mks rfl (by intro c hc; cases hc) rfl rfl (by simp [undef]) hs_) ?_
      first | refine e_fl rfl rfl (fun hs_ => PF.mk rfl (v_pickt rfl rfl) hs_) ?_ | refine e_fl rfl rfl (fun hs_ => PF.mk rfl (v_pickf rfl rfl) hs_) ?_ | refine e_fl rfl rfl (fun hs_ => PF.mk rfl (v_pickb rfl rfl rfl) hs_) ?_
      refine e_done ?_
      refine post_next ?_
      refine code_cond_f rfl ?_
      refine code_skip ?_
      refine post_out ?_
      refine post_next ?_
      refine code_region ?_
      first | refine op_v (v_addb rfl rfl rfl (by omega)) rfl ?_ | refine op_v (v_add rfl rfl) rfl ?_
      refine op_v (v_move rfl) rfl ?_
      refine ops_nil ?_
      refine PostJ.view (View.drop Del.here) ?_
      refine post_again (c.length - (k + 1)) [(0, vg), (1, .slice ad c.length c0), (5, vb), (11, .slice ad c.length c0), (12, .int .i64 c.length), (13, .int .i64 (k + 1 : Nat))] (by omega) ⟨k + 1, vb, rfl, hlt, rfl, Imm.leA, rfl, by rw [hb2]; exact hvb.mono Imm.leA⟩ ⟨rfl, rfl, rfl, rfl, rfl, rfl, trivial⟩
  · have hge : k = c.length := by simp at hc0; omega
    subst hge
    rw [bestL_end] at hvb
    refine code_exit ?_
    refine post_exit_then ?_
    refine post_exit_then ?_
    refine post_exit ?_
    refine post_next ?_
    refine code_seq ?_
    refine code_region ?_
    refine op_v (v_move rfl) rfl ?_
    refine op_v (v_assign rfl) rfl ?_
    refine ops_nil ?_
    refine post_next ?_
    refine code_ret ?_
    refine post_ret (rs := [.tmp 4]) rfl (List.Perm.refl _) (.cons (.tmp rfl) .nil) (List.nil_sublist _) ?_
    exact ⟨hvb, rfl⟩
end Go.Proofs.Ytdbadicpbmndbaa
