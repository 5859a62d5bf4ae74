/- Walks: a term's parts, how often heads stand in it. -/
import Derived.Test.YtdcklngleglbbaaGb
set_option linter.unusedVariables false
set_option linter.unusedSimpArgs false
namespace Go.Proofs.Ytdcklngleglbbaa
open Go Lg

mutual
def visT : Bool → T → List (Bool × T)
  | b, .mk h us => (b, .mk h us) :: visL us
def visL : List T → List (Bool × T)
  | [] => []
  | t :: r => visT false t ++ visL r
end
mutual
theorem visT_length : ∀ (b : Bool) (t : T), (visT b t).length = t.size
  | b, .mk h us => by simp [visT, T.size, visL_length us]; omega
theorem visL_length : ∀ ts : List T, (visL ts).length = sizeL ts
  | [] => rfl
  | t :: r => by simp [visL, sizeL, visT_length false t, visL_length r]
end
theorem visT_eq (b : Bool) (t : T) : visT b t = (b, t) :: visL t.args := by cases t; rfl
theorem visL_app : ∀ a b : List T, visL (a ++ b) = visL a ++ visL b
  | [], b => rfl
  | t :: r, b => by simp [visL, visL_app r b]
theorem visL_take (l : List T) (k : Nat) (h : k < l.length) : visL (l.take (k + 1)) = visL (l.take k) ++ visT false l[k] := by
  rw [List.take_succ_eq_append_getElem h, visL_app]; simp [visL]

theorem gwalk_does {see : Value} (J : List (Bool × T) → Imm → List Ent → Prop) (hm : ∀ l I1 I2 δ, I1.le I2 → J l I1 δ → J l I2 δ)
    (hsee : ∀ pre x I v δ, pre.length ≤ 1000000000 → RepT I v x.2 → J pre I δ → FDoes Try.prog see [v, .bool x.1] I δ (fun _ I' δ' => J (pre ++ [x]) I' δ')) :
    ∀ (n : Nat) (t : T), t.size ≤ n → ∀ (top : Bool) (pre : List (Bool × T)) (I : Imm) (v : Value) (δ : List Ent), pre.length + t.size ≤ 1000000000 → RepT I v t → J pre I δ →
      Does Try.prog 78 [v, .bool top, see] I δ (fun _ I' δ' => J (pre ++ visT top t) I' δ') := by
  intro n
  induction n with
  | zero => intro t h; have := t.size_pos; omega
  | succ n ih =>
    intro t hn top pre I v δ hbig hv hJ
    obtain ⟨a0, c0, rfl, hr0⟩ := hv.shape
    obtain ⟨_, _, _, hc, hb, ss, hat, hsub⟩ := hv.open
    have hsz := size_eqT t
    have hb0 : J (pre ++ visT top t) I δ → True := fun _ => trivial
    refine Does.intro Try.func78 rfl Try.ntmps78 rfl fun w0 => ?_
    refine code_seq ?_
    refine code_region ?_
    refine o_box rfl rfl rfl (fun b3 => ?_)
    refine ops_nil ?_
    refine post_next ?_
    refine code_seq ?_
    refine code_region ?_
    refine op_v (v_move rfl) rfl ?_
    refine op_v (v_load ty24 rfl (by repeat (first | exact Has.here | apply Has.there)) rfl) rfl ?_
    refine op_v (v_move rfl) rfl ?_
    refine op_fcall rfl rfl rfl ((hsee pre (top, t) _ _ _ (by omega) hv hJ)) (List.perm_append_comm (l₁ := [_])) ?_
    rintro v11 I11 δ11 hI11 hJ11
    refine OpsJ.view (View.perm (List.perm_append_comm (l₂ := [_]))) ?_
    refine ops_nil ?_
    refine post_next ?_
    refine code_seq ?_
    refine code_region ?_
    first | refine op_v (v_fieldB 1 Try.underlying24 rfl rfl fz22 rfl) rfl ?_ | refine op_v (v_fieldI 1 Try.underlying24 rfl rfl fz22 rfl (by assumption)) rfl ?_ | refine op_v (v_field Try.underlying24 rfl fz22 rfl rfl) rfl ?_
    refine op_v (v_load ty22 rfl (by repeat (first | exact Has.here | apply Has.there)) rfl) rfl ?_
    refine op_v (v_len Try.underlying22 rfl) rfl ?_
    refine op_v (v_move rfl) rfl ?_
    refine ops_nil ?_
    refine post_next ?_
    refine code_block ?_
    refine code_loop (fun m σ' I' δ' => ∃ (k : Nat) (δJ : List Ent), m = t.args.length - k ∧ k ≤ t.args.length ∧ σ' = [(2, see), (13, .slice a0 t.args.length c0), (14, .int .i64 t.args.length), (15, .int .i64 k)] ∧ I.le I' ∧ δ' = .box b3 24 [.int .i64 t.head, .slice a0 t.args.length c0] :: δJ ∧ J (pre ++ (top, t) :: visL (t.args.take k)) I' δJ) t.args.length [(2, see), (13, .slice a0 t.args.length c0), (14, .int .i64 t.args.length), (15, .int .i64 (0 : Nat))] ⟨0, δ11, rfl, Nat.zero_le _, rfl, hI11, rfl, hJ11⟩ ⟨rfl, rfl, rfl, rfl, trivial⟩ ?_
    rintro m _ I0 _ ⟨k, δJ, rfl, hk, rfl, hI0, rfl, hJ0⟩
    refine code_seq ?_
    refine code_region ?_
    first | refine op_v (v_cmpt rfl rfl rfl (by first | omega | (simp; done) | (simp; omega))) rfl ?_ | refine op_v (v_cmpf rfl rfl rfl (by first | omega | (simp; done) | (simp; omega))) rfl ?_ | refine op_v (v_cmp rfl rfl rfl) rfl ?_
    refine ops_nil ?_
    refine post_next ?_
    refine code_seq ?_
    refine code_cond rfl (fun hc0 => ?_) (fun hc0 => ?_)
    · have hlt : k < t.args.length := by simpa using hc0
      have hs1 := (hat k hlt).isSome
      have hks := sizeL_mem t.args k hlt
      have hlen : (pre ++ (top, t) :: visL (t.args.take k)).length + t.args[k].size ≤ 1000000000 := by
        have h1 := congrArg List.length (visL_take t.args k hlt)
        have h2 : sizeL (t.args.take (k + 1)) ≤ sizeL t.args := by
          have h3 := congrArg List.length (visL_app (t.args.take (k + 1)) (t.args.drop (k + 1)))
          rw [List.take_append_drop, List.length_append, visL_length, visL_length, visL_length] at h3
          omega
        rw [List.length_append, visL_length, visL_length, visT_length] at h1
        rw [List.length_append, List.length_cons, visL_length]
        omega
      refine code_skip ?_
      refine post_next ?_
      refine code_seq ?_
      refine code_block ?_
      refine code_seq ?_
      refine code_region ?_
      first | refine op_v (v_index Try.underlying22 sz24 rfl rfl (by omega) (by assumption)) rfl ?_ | refine op_v (v_indexI Try.underlying22 sz24 rfl rfl (by first | omega | (simp; done) | (simp; omega)) (by first | omega | (simp; done) | (simp; omega)) (by assumption)) rfl ?_
      first | refine op_v (v_loadI0 ty24 ((hat k hlt).mono hI0) rfl rfl rfl) rfl ?_ | refine op_v (v_loadI ty24 ((hat k hlt).mono hI0) rfl rfl rfl) rfl ?_
      refine o_alloc z24 rfl rfl (fun b7 => ?_)
      refine o_store ty24 rfl rfl rfl rfl rfl (by repeat (first | exact Swap.here | apply Swap.there)) rfl ?_
      refine ops_nil ?_
      refine post_next ?_
      refine code_region ?_
      refine op_v (v_load ty24 rfl (by repeat (first | exact Has.here | apply Has.there)) rfl) rfl ?_
      refine op_v (v_move rfl) rfl ?_
      refine op_call pl78 rfl rfl ((ih t.args[k] (by omega) false _ _ _ _ hlen ((hsub k hlt).mono hI0) hJ0)) (List.perm_append_comm (l₁ := [_, _])) ?_
      rintro v21 I21 δ21 hI21 hJ21
      refine OpsJ.view (View.perm (List.perm_append_comm (l₂ := [_, _]))) ?_
      rw [List.append_assoc, List.cons_append, ← visL_take t.args k hlt] at hJ21
      refine ops_nil ?_
      refine post_out ?_
      refine post_next ?_
      refine code_region ?_
      first | refine op_v (v_addb rfl rfl rfl (by omega)) rfl ?_ | refine op_v (v_add rfl rfl) rfl ?_
      refine op_v (v_move rfl) rfl ?_
      refine ops_nil ?_
      refine PostJ.view (View.drop Del.here) ?_
      refine post_again (t.args.length - (k + 1)) [(2, see), (13, .slice a0 t.args.length c0), (14, .int .i64 t.args.length), (15, .int .i64 (k + 1 : Nat))] (by omega) ⟨k + 1, δ21, rfl, hlt, rfl, Imm.le_trans hI0 hI21, rfl, hJ21⟩ ⟨rfl, rfl, rfl, rfl, trivial⟩
    · have hge : k = t.args.length := by simp at hc0; omega
      refine code_exit ?_
      refine post_exit_then ?_
      refine post_exit_then ?_
      refine post_exit ?_
      rw [hge, List.take_length, ← visT_eq] at hJ0
      exact post_end (rs := []) rfl (List.Perm.refl _) .nil (List.sublist_cons_self _ _) hJ0

/-! ### heads -/
def ivl : Value → Int
  | .int _ n => n
  | _ => 0
def cval (m : Mp) (k : Int) : Int := ivl ((mget m k).getD (.int .i64 0))
def cntM (l : List Int) : Mp := l.foldl (fun m h => mput m h (.int .i64 (cval m h + 1))) []
theorem cntM_snoc (l : List Int) (h : Int) : cntM (l ++ [h]) = mput (cntM l) h (.int .i64 (cval (cntM l) h + 1)) := by simp [cntM]
theorem snoc_ind {α : Type} {P : List α → Prop} (h0 : P []) (h1 : ∀ l x, P l → P (l ++ [x])) (l : List α) : P l := by
  have : ∀ m : List α, P m.reverse := fun m => by
    induction m with
    | nil => exact h0
    | cons x m ih => rw [List.reverse_cons]; exact h1 _ _ ih
  simpa using this l.reverse
theorem cntM_get (l : List Int) : ∀ k, mget (cntM l) k = if l.count k = 0 then none else some (.int .i64 (l.count k)) := by
  induction l using snoc_ind with
  | h0 => intro k; rfl
  | h1 l x ih =>
    intro k
    rw [cntM_snoc, mget_mput]
    have hx : cval (cntM l) x = l.count x := by
      unfold cval
      rw [ih x]
      split
      · rename_i h; simp [h, ivl]
      · simp [ivl]
    by_cases h : x = k
    · subst h
      rw [if_pos rfl, hx]
      simp [List.count_append]
    · rw [if_neg h, ih k]
      have : (l ++ [x]).count k = l.count k := by simp [List.count_append, List.count_singleton, h]
      rw [this]
theorem cval_cnt (l : List Int) (k : Int) : cval (cntM l) k = l.count k := by
  unfold cval
  rw [cntM_get]
  split
  · rename_i h; simp [h, ivl]
  · simp [ivl]
theorem cval_val (l : List Int) (k : Int) : (mget (cntM l) k).getD (.int .i64 0) = .int .i64 (l.count k) := by
  rw [cntM_get]
  split
  · rename_i h; simp [h]
  · simp
theorem cntM_nodup (l : List Int) : ((cntM l).map (·.1)).Nodup := by
  induction l using snoc_ind with
  | h0 => simp [cntM]
  | h1 l x ih => rw [cntM_snoc]; exact mput_nodup ih
theorem cntM_mem {l : List Int} {p : Int × Value} (h : p ∈ cntM l) : p.2 = .int .i64 (l.count p.1) ∧ 0 < l.count p.1 := by
  have := (mget_mem (cntM_nodup l) (k := p.1) (v := p.2)).1 h
  rw [cntM_get] at this
  split at this
  · cases this
  · rename_i h0; exact ⟨(Option.some.inj this).symm, by omega⟩
def sumM (w : Int → Int) (m : Mp) : Int := (m.map fun p => w p.1 * ivl p.2).sum
theorem sumM_put (w : Int → Int) (m : Mp) (k : Int) : sumM w (mput m k (.int .i64 (cval m k + 1))) = sumM w m + w k := by
  induction m with
  | nil => simp [mput, sumM, cval, mget, ivl]
  | cons p r ih =>
    obtain ⟨k', z⟩ := p
    by_cases h : k' = k
    · subst h
      simp only [mput, if_true, sumM, List.map_cons, List.sum_cons, cval, mget, Option.getD_some, ivl]
      rw [Int.mul_add, Int.mul_one]; omega
    · have hc : cval ((k', z) :: r) k = cval r k := by simp [cval, mget, h]
      simp only [mput, if_neg h, sumM, List.map_cons, List.sum_cons, hc]
      have := ih
      unfold sumM at this
      rw [this]; omega
theorem sumM_cnt (w : Int → Int) (l : List Int) : sumM w (cntM l) = (l.map w).sum := by
  induction l using snoc_ind with
  | h0 => rfl
  | h1 l x ih => rw [cntM_snoc, sumM_put, ih]; simp
theorem sumM_mid (w : Int → Int) (l q : Mp) (k : Int) (v : Value) : sumM w (l ++ (k, v) :: q) = sumM w (l ++ q) + w k * ivl v := by
  simp [sumM]; omega

theorem heads1_does {I : Imm} {b3 m : Nat} {l : List Int} {v : Value} {t : T} {x : Bool} (hv : RepT I v t) (hl : l.length ≤ 1000000000) :
    Does Try.prog 83 [v, .bool x, .pointer (some ⟨b3, 0, none⟩)] I [.box b3 85 [.map (some m)], .map m (cntM l)] (fun _ _ δ' => δ' = [.box b3 85 [.map (some m)], .map m (cntM (l ++ [t.head]))]) := by
  obtain ⟨a0, c0, rfl, hr0⟩ := hv.shape
  have hcl : l.count t.head ≤ l.length := List.count_le_length
  refine Does.intro Try.func83 rfl Try.ntmps83 rfl fun w0 => ?_
  refine code_seq ?_
  refine code_region ?_
  refine o_box rfl rfl rfl (fun b3 => ?_)
  refine ops_nil ?_
  refine post_next ?_
  refine code_region ?_
  refine op_v (v_load ty85 rfl (by repeat (first | exact Has.here | apply Has.there)) rfl) rfl ?_
  first | refine op_v (v_fieldB 0 Try.underlying24 rfl rfl fz3 rfl) rfl ?_ | refine op_v (v_fieldI 0 Try.underlying24 rfl rfl fz3 rfl (by assumption)) rfl ?_ | refine op_v (v_field Try.underlying24 rfl fz3 rfl rfl) rfl ?_
  refine op_v (v_load ty3 rfl (by repeat (first | exact Has.here | apply Has.there)) rfl) rfl ?_
  refine op_v (v_mlook Try.underlying85 Try.underlying3 z3 rfl rfl (Has.there (Has.there Has.here)) (cval_val l t.head)) rfl ?_
  first | refine op_v (v_addb rfl rfl rfl (by omega)) rfl ?_ | refine op_v (v_add rfl rfl) rfl ?_
  refine o_mapUpdate Try.underlying85 Try.underlying3 rfl rfl rfl rfl (by repeat (first | exact Swap.here | apply Swap.there)) ?_
  refine ops_nil ?_
  exact post_end (rs := []) rfl (List.Perm.refl _) .nil (List.sublist_cons_self _ _) (by rw [cntM_snoc, cval_cnt])
def hds (t : T) : List Int := (visT true t).map (·.2.head)
theorem hds_length (t : T) : (hds t).length = t.size := by simp [hds, visT_length]
theorem heads_does {I : Imm} {v : Value} {t : T} (hv : RepT I v t) (hbig : t.size ≤ 1000000000) :
    Does Try.prog 70 [v] I [] (fun v _ δ' => ∃ b, v = .map (some b) ∧ δ' = [.map b (cntM (hds t))]) := by
  obtain ⟨a0, c0, rfl, hr0⟩ := hv.shape
  refine Does.intro Try.func70 rfl Try.ntmps70 rfl fun w0 => ?_
  refine code_seq ?_
  refine code_region ?_
  refine o_box rfl rfl rfl (fun b1 => ?_)
  refine op_v (v_assign rfl) rfl ?_
  refine ops_nil ?_
  refine post_next ?_
  refine code_seq ?_
  refine code_region ?_
  refine o_makeMap rfl (fun b4 => ?_)
  refine o_alloc z85 rfl rfl (fun b3 => ?_)
  refine o_store ty85 rfl rfl rfl rfl rfl (by repeat (first | exact Swap.here | apply Swap.there)) rfl ?_
  refine ops_nil ?_
  refine post_next ?_
  refine code_seq ?_
  refine code_region ?_
  refine op_v (v_load ty24 rfl (by repeat (first | exact Has.here | apply Has.there)) rfl) rfl ?_
  refine op_v (v_makeFunc rfl rfl) rfl ?_
  refine op_call pl78 rfl rfl ((gwalk_does (fun l _ δ' => δ' = [.box b3 85 [.map (some b4)], .map b4 (cntM (l.map (·.2.head)))]) (fun l _ _ δ _ h => h) (fun pre x J v δ hp hxv hd => by subst hd; refine FDoes.ofFunc (caps := [_]) pl83 ((heads1_does hxv (by rw [List.length_map]; exact hp)).mono fun _ _ _ _ h => ?_); rw [h, List.map_append]; rfl) t.size t (Nat.le_refl _) true [] _ _ _ (by simpa using hbig) hv rfl)) (List.Perm.refl _) ?_
  rintro v7 I7 _ hI7 rfl
  refine ops_nil ?_
  refine post_next ?_
  refine code_seq ?_
  refine code_region ?_
  refine op_v (v_load ty85 rfl (by repeat (first | exact Has.here | apply Has.there)) rfl) rfl ?_
  refine op_v (v_assign rfl) rfl ?_
  refine ops_nil ?_
  refine post_next ?_
  refine code_ret ?_
  refine post_ret (rs := [.tmp 2]) rfl (List.Perm.refl _) (.cons (.tmp rfl) .nil) (List.Sublist.cons _ (List.Sublist.cons_cons _ (List.nil_sublist _))) ?_
  exact ⟨b4, rfl, rfl⟩
end Go.Proofs.Ytdcklngleglbbaa
