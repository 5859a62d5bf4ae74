/- Own texts, one behind the other: rules of a small program logic, walks through the program's functions, plain facts. No condition. -/
import Derived.Test.YtdbadicpbmndbaaZ1
import Derived.Laws.Externs
/- How a signature lies in memory, and when two symbols are the same. Plain definitions; no condition. -/
set_option linter.unusedVariables false
set_option linter.unusedSimpArgs false
namespace Go.Proofs.Ytdbadicpbmndbaa
open Go Lg

structure Sy where
  name : ByteArray
  ar : Int
  wt : Int
  tr : Bool
def Sy.cs (s : Sy) : List Value := [.string s.name, .int .i64 s.ar, .int .i64 s.wt, .bool s.tr]
def Sy.v (s : Sy) : Value := .agg s.cs.toArray
def Sy.ok (s : Sy) : Prop := InR s.ar ∧ InR s.wt ∧ s.name.size ≤ maxLen
def nmEq (a b : ByteArray) : Bool := a.toList == b.toList
/-- a signature that is only read -/
inductive RepG (I : Imm) : Value → List Sy → Prop
  | mk (ad : Option Addr) (c : Nat) (gs : List Sy) (hc : gs.length ≤ c) (hb : gs.length ≤ 4398046511104) (hat : ∀ i (h : i < gs.length), At I ad (i * 4) gs[i].cs) (hr : ∀ s ∈ gs, s.ok) : RepG I (.slice ad gs.length c) gs
theorem RepG.mono {I J : Imm} {v : Value} {gs : List Sy} (h : RepG I v gs) (hl : I.le J) : RepG J v gs := by
  obtain ⟨ad, c, gs, hc, hb, hat, hr⟩ := h
  exact ⟨ad, c, gs, hc, hb, fun i hi => (hat i hi).mono hl, hr⟩
theorem RepG.shape {I : Imm} {v : Value} {gs : List Sy} (h : RepG I v gs) : ∃ ad c, v = .slice ad gs.length c := by
  obtain ⟨ad, c, gs, _, _, _, _⟩ := h; exact ⟨ad, c, rfl⟩
theorem RepG.open {I : Imm} {ad : Option Addr} {n c : Nat} {gs : List Sy} (h : RepG I (.slice ad n c) gs) : n = gs.length ∧ gs.length ≤ c ∧ gs.length ≤ 4398046511104 ∧ (∀ i (h : i < gs.length), At I ad (i * 4) gs[i].cs) ∧ ∀ s ∈ gs, s.ok := by
  generalize e : Value.slice ad n c = v at h
  obtain ⟨ad', c', gs, hc, hb, hat, hr⟩ := h
  cases e
  exact ⟨rfl, hc, hb, hat, hr⟩
theorem RepG.take {I : Imm} {ad : Option Addr} {c : Nat} {gs : List Sy} (h : RepG I (.slice ad gs.length c) gs) {k : Nat} (hk : k ≤ gs.length) : RepG I (.slice ad k c) (gs.take k) := by
  obtain ⟨_, hc, hb, hat, hr⟩ := h.open
  have e : (gs.take k).length = k := by rw [List.length_take]; omega
  have := RepG.mk (I := I) ad c (gs.take k) (by omega) (by omega) (fun i hi => by
    have : (gs.take k)[i] = gs[i]'(by omega) := List.getElem_take
    rw [this]; exact hat i (by omega)) (fun s hs => hr s (List.mem_of_mem_take hs))
  rwa [e] at this
/-- out of a row of one's own -/
theorem RepG.of {I : Imm} {ad : Option Addr} {n c : Nat} {gs : List Sy} {xs : List Value} (hat : Cells I ad xs) (hx : xs = gs.flatMap Sy.cs) (hn : n = gs.length) (hc : n ≤ c) (hb : n ≤ 4398046511104) (hr : ∀ s ∈ gs, s.ok) : RepG I (.slice ad n c) gs := by
  subst hn; subst hx
  refine ⟨ad, c, gs, hc, hb, fun i hi => hat.at _ fun j v hj => ?_, hr⟩
  clear hat hc hb hr
  induction gs generalizing i with
  | nil => simp at hi
  | cons s r ih =>
    have hs : s.cs.length = 4 := rfl
    cases i with
    | zero =>
      simp only [List.getElem_cons_zero] at hj
      have hlt := (List.getElem?_eq_some_iff.1 hj).1
      rw [List.flatMap_cons, List.getElem?_append_left (by omega)]
      simpa using hj
    | succ i =>
      simp only [List.getElem_cons_succ] at hj
      have := ih i (by simpa using hi) hj
      rw [List.flatMap_cons, List.getElem?_append_right (by omega), hs, ← this]
      congr 1; omega

/-! ### equality -/
def syEq (a b : Sy) : Bool := (a.name == b.name) && (a.ar == b.ar && (a.wt == b.wt && a.tr == b.tr))
structure SyTy (P : Program) (t ts ti tb : TypeId) : Prop where
  str : ∃ f0 f1 f2 f3 : Field, P.underlying t = some (.struct #[f0, f1, f2, f3]) ∧ (f0.type = ts ∧ f0.offset = 0 ∧ f0.name ≠ "_") ∧ (f1.type = ti ∧ f1.offset = 1 ∧ f1.name ≠ "_") ∧ (f2.type = ti ∧ f2.offset = 2 ∧ f2.name ≠ "_") ∧ (f3.type = tb ∧ f3.offset = 3 ∧ f3.name ≠ "_")
  us : P.underlying ts = some .string
  ui : P.underlying ti = some (.int .i64)
  ub : P.underlying tb = some .bool
  held : P.stoodInHeld t = false
  guard : P.eqGuardType P.depth t = false
variable {C : Ctx} {σ : Env} {ds : List Nat} {I : Imm} {δ : List Ent}
theorem syTy : SyTy Try.prog 79 9 3 4 :=
  ⟨⟨_, _, _, _, Try.underlying79, ⟨rfl, rfl, by decide⟩, ⟨rfl, rfl, by decide⟩, ⟨rfl, rfl, by decide⟩, rfl, rfl, by decide⟩, Try.underlying9, Try.underlying3, Try.underlying4, by kernel_rfl, by kernel_rfl⟩
end Go.Proofs.Ytdbadicpbmndbaa
/- Walks: rows of numbers. -/
set_option linter.unusedVariables false
set_option linter.unusedSimpArgs false
/- short -/
namespace Go.Proofs.Ytdbadicpbmndbaa
open Go Lg

end Go.Proofs.Ytdbadicpbmndbaa
/- Walks: what is ranged over: a row from behind, a term's parts. -/
set_option linter.unusedVariables false
set_option linter.unusedSimpArgs false
/- short -/
namespace Go.Proofs.Ytdbadicpbmndbaa
open Go Lg

def encB (ts : List T) (ss : Nat → Option Addr × Nat) (_ : Imm) (i : Nat) (vs : List Value) : Prop :=
  ∃ hi : i < ts.length, vs = [.int .i64 i, .agg #[.int .i64 ts[i].head, .slice (ss i).1 ts[i].args.length (ss i).2]]
theorem back_iter {I : Imm} {ts : List T} {ad : Option Addr} {c b : Nat} {ss : Nat → Option Addr × Nat} (hb : ts.length ≤ 4398046511104)
    (hat : ∀ i (h : i < ts.length), At I ad (i * 2) [.int .i64 ts[i].head, .slice (ss i).1 ts[i].args.length (ss i).2]) :
    Iter Try.prog 177 [.pointer (some ⟨b, 0, none⟩)] I [.box b 45 [.slice ad ts.length c]] (encB ts ss) (List.range ts.length).reverse := by
  intro yv J δ hmono h0 hy
  refine Does.intro Try.func177 rfl Try.ntmps177 rfl fun w0 => ?_
  refine code_seq ?_
  refine code_region ?_
  refine op_v (v_loadA ty45 rfl rfl) rfl ?_
  refine op_v (v_len Try.underlying45 rfl) rfl ?_
  refine op_v (v_subb rfl rfl rfl (by omega)) rfl ?_
  refine op_v (v_assign rfl) rfl ?_
  refine ops_nil ?_
  refine post_next ?_
  refine code_block ?_
  refine code_loop (fun m σ' I' δ' => ∃ (k : Nat) (δJ : List Ent), m = ts.length - k ∧ k ≤ ts.length ∧ σ' = [(0, yv), (1, .pointer (some ⟨b, 0, none⟩)), (3, .int .i64 ((ts.length : Int) - 1 - k))] ∧ I.le I' ∧ δ' = .box b 45 [.slice ad ts.length c] :: δJ ∧ J ((List.range ts.length).reverse.take k) I' δJ) ts.length [(0, yv), (1, .pointer (some ⟨b, 0, none⟩)), (3, .int .i64 ((ts.length : Int) - 1))] ⟨0, δ, rfl, Nat.zero_le _, by simp, Imm.le_refl _, rfl, h0⟩ ⟨rfl, rfl, rfl, trivial⟩ ?_
  rintro m _ I0 _ ⟨k, δJ, rfl, hk, rfl, hI0, rfl, hJ⟩
  refine code_seq ?_
  refine code_seq ?_
  refine code_region ?_
  refine op_v (v_move rfl) rfl ?_
  refine op_v (v_cmp rfl rfl rfl) rfl ?_
  refine ops_nil ?_
  refine post_next ?_
  refine code_cond rfl (fun hc0 => ?_) (fun hc0 => ?_)
  · have hq : 0 ≤ (ts.length : Int) - 1 - k := by simpa using hc0
    have hlt : k < ts.length := by omega
    obtain ⟨j, hj⟩ : ∃ j : Nat, j = ts.length - 1 - k := ⟨_, rfl⟩
    have hji : (ts.length : Int) - 1 - k = (j : Nat) := by omega
    rw [hji]
    have hjl : j < ts.length := by omega
    have hs1 := (hat j hjl).isSome
    have hx := range_rev ts.length k hlt
    rw [← hj] at hx
    have hx2 := range_rev_take ts.length k hlt
    rw [← hj] at hx2
    refine code_skip ?_
    refine post_next ?_
    refine code_seq ?_
    refine code_block ?_
    refine code_seq ?_
    refine code_region ?_
    refine op_v (v_move rfl) rfl ?_
    refine op_v (v_move rfl) rfl ?_
    refine op_v (v_loadA ty45 rfl rfl) rfl ?_
    refine op_v (v_move rfl) rfl ?_
    refine op_v (v_indexA Try.underlying45 sz47 rfl rfl) rfl ?_
    refine op_v (v_loadI0 ty47 ((hat j hjl).mono hI0) rfl rfl rfl) rfl ?_
    refine op_fcall rfl rfl rfl ((hy _ j _ _ _ _ hx hI0 hJ ⟨hjl, rfl⟩)) (List.perm_append_comm (l₁ := [_])) ?_
    rintro v17 I17 δ17 hI17 ⟨rfl, hJ17⟩
    refine OpsJ.view (View.perm (List.perm_append_comm (l₂ := [_]))) ?_
    rw [← hx2] at hJ17
    refine op_v (v_not rfl) rfl ?_
    refine ops_nil ?_
    refine post_next ?_
    refine code_cond_f rfl ?_
    refine code_skip ?_
    refine post_out ?_
    refine post_next ?_
    refine code_region ?_
    refine op_v (v_move rfl) rfl ?_
    refine op_v (v_subb rfl rfl rfl (by omega)) rfl ?_
    refine op_v (v_assign rfl) rfl ?_
    refine ops_nil ?_
    refine post_again (ts.length - (k + 1)) [(0, yv), (1, .pointer (some ⟨b, 0, none⟩)), (3, .int .i64 ((j : Int) - 1))] (by omega) ⟨k + 1, δ17, rfl, hlt, ?_, Imm.le_trans hI0 hI17, rfl, hJ17⟩ ⟨rfl, rfl, rfl, trivial⟩
    rw [show (j : Int) - 1 = (ts.length : Int) - 1 - ((k + 1 : Nat) : Int) by omega]
  · have hq : ¬ 0 ≤ (ts.length : Int) - 1 - k := by simpa using hc0
    have hge : k = ts.length := by omega
    have hall : (List.range ts.length).reverse.take k = (List.range ts.length).reverse := List.take_of_length_le (by simp; omega)
    rw [hall] at hJ
    refine code_exit ?_
    refine post_exit_then ?_
    refine post_exit_then ?_
    refine post_exit ?_
    refine post_end (rs := []) rfl (List.Perm.refl _) .nil (List.Sublist.refl _) ⟨δJ, hJ, rfl⟩

theorem Backward_does {I : Imm} {s : Value} :
    Does Try.prog 161 [s] I [] (fun v I' δ' => ∃ b, v = .func (.func 177) #[] #[.pointer (some ⟨b, 0, none⟩)] ∧ δ' = [.box b 45 (cellsL s)]) := by
  refine Does.intro Try.func161 rfl Try.ntmps161 rfl fun w0 => ?_
  refine code_seq ?_
  refine code_region ?_
  refine o_box rfl rfl rfl (fun b1 => ?_)
  refine op_v (v_assign rfl) rfl ?_
  refine ops_nil ?_
  refine post_next ?_
  refine code_seq ?_
  refine code_region ?_
  refine op_v (v_makeFunc rfl rfl) rfl ?_
  refine op_v (v_assign rfl) rfl ?_
  refine ops_nil ?_
  refine post_next ?_
  refine code_ret ?_
  refine post_ret (rs := [.tmp 2]) rfl (List.Perm.refl _) (.cons (.tmp rfl) .nil) (List.Sublist.refl _) ?_
  exact ⟨b1, rfl, rfl⟩
theorem parts_does {I : Imm} {h s : Value} :
    Does Try.prog 127 [.agg #[h, s]] I [] (fun v I' δ' => ∃ b, v = .func (.func 160) #[] #[.pointer (some ⟨b, 0, none⟩)] ∧ δ' = [.box b 47 [h, s]]) := by
  refine Does.intro Try.func127 rfl Try.ntmps127 rfl fun w0 => ?_
  refine code_seq ?_
  refine code_region ?_
  refine o_box rfl rfl rfl (fun b1 => ?_)
  refine op_v (v_assign rfl) rfl ?_
  refine ops_nil ?_
  refine post_next ?_
  refine code_seq ?_
  refine code_region ?_
  refine op_v (v_makeFunc rfl rfl) rfl ?_
  refine op_v (v_assign rfl) rfl ?_
  refine ops_nil ?_
  refine post_next ?_
  refine code_ret ?_
  refine post_ret (rs := [.tmp 2]) rfl (List.Perm.refl _) (.cons (.tmp rfl) .nil) (List.Sublist.refl _) ?_
  exact ⟨b1, rfl, rfl⟩
end Go.Proofs.Ytdbadicpbmndbaa
/- Walk: a term's parts, ranged over. -/
set_option linter.unusedVariables false
set_option linter.unusedSimpArgs false
/- short -/
namespace Go.Proofs.Ytdbadicpbmndbaa
open Go Lg

theorem Lg.OpsJ.rowSome {C : Ctx} {Q : Exit → Act → World → Prop} {σ : Env} {ds : List Nat} {I : Imm} {δ : List Ent} {ops : Array Oper} {rest : List Oper} {A : Option Addr} {c n size : Nat} {e : TypeId} {xs : List Value} (hd : Has δ (.row (.slice A n c) e size n xs)) (hn : 0 < n)
    (h : A.isSome = true → n ≤ c → OpsJ C ops Q rest σ ds I δ) : OpsJ C ops Q rest σ ds I δ := by
  intro a w he hs ht
  have hr : w.ownsRow 0 e size (.slice A n c) n xs := hs.ents _ hd.mem
  rcases hr.2 with ⟨h1, h2⟩ | ⟨g, cap, cur, h1, _, _, h3, _⟩
  · omega
  · cases h1
    exact h rfl h3 a w he hs ht

theorem partsT_eq (d : Nat) (u : T) : partsT d u = (d, u) :: partsL (d + 1) u.args := by cases u; rfl
def encP (I : Imm) (x : Nat × T) (vs : List Value) : Prop :=
  ∃ a c, vs = [.int .i64 x.1, .agg #[.int .i64 x.2.head, .slice a x.2.args.length c]] ∧ RepT I (.agg #[.int .i64 x.2.head, .slice a x.2.args.length c]) x.2

theorem parts_iter {I : Imm} {t : T} {ad : Option Addr} {c b : Nat} (hv : RepT I (.agg #[.int .i64 t.head, .slice ad t.args.length c]) t) (hbig : t.size ≤ 1000000000) :
    Iter Try.prog 160 [.pointer (some ⟨b, 0, none⟩)] I [.box b 47 [.int .i64 t.head, .slice ad t.args.length c]] encP (partsT 1 t) := by
  intro yv J δ hmono h0 hy
  refine Does.intro Try.func160 rfl Try.ntmps160 rfl fun w0 => ?_
  refine code_seq ?_
  refine code_region ?_
  refine op_v (v_loadA ty47 rfl rfl) rfl ?_
  refine op_v (v_build bl177 rfl rfl) rfl ?_
  refine o_buildSlice (xs := [(Go.Operand.tmp 8)]) Try.underlying178 bs177 rfl rfl rfl rfl rfl (fun b9 => ?_)
  refine o_alloc z178 rfl rfl (fun b3 => ?_)
  refine o_store ty178 rfl rfl rfl rfl rfl (by repeat (first | exact Swap.here | apply Swap.there)) rfl ?_
  refine ops_nil ?_
  refine post_next ?_
  refine code_block ?_
  refine code_loopD (fun m σ' ds' I' δ' => ∃ (pre st : List (Nat × T)) (ar : Option Addr) (cr : Nat) (xs : List Value) (δJ : List Ent), m = (partsS st).length ∧ σ' = [(0, yv), (1, .pointer (some ⟨b, 0, none⟩)), (3, .pointer (some ⟨b3, 0, none⟩))] ∧ I.le I' ∧ δ' = .box b3 178 [.slice ar st.length cr] :: .row (.slice ar st.length cr) 177 3 st.length xs :: .box b 47 [.int .i64 t.head, .slice ad t.args.length c] :: (MarkEnts ds' ++ δJ) ∧ J pre I' δJ ∧ RowK I' xs st ∧ pre ++ partsS st = partsT 1 t) (partsS [(1, t)]).length [(0, yv), (1, .pointer (some ⟨b, 0, none⟩)), (3, .pointer (some ⟨b3, 0, none⟩))] ⟨[], [(1, t)], _, _, _, δ, rfl, rfl, Imm.le_refl _, rfl, h0, RowK.one hv, by simp [partsS]⟩ ⟨rfl, rfl, rfl, trivial⟩ ?_
  rintro m _ ds0 I0 _ ⟨pre, st, ar, cr, xs, δJ, rfl, rfl, hI0, rfl, hJ, hrow, hall⟩
  refine code_seq ?_
  refine code_seq ?_
  refine code_region ?_
  refine op_v (v_loadA ty178 rfl rfl) rfl ?_
  refine op_v (v_len Try.underlying178 rfl) rfl ?_
  refine op_v (v_cmp rfl rfl rfl) rfl ?_
  refine ops_nil ?_
  refine post_next ?_
  refine code_cond rfl (fun hc0 => ?_) (fun hc0 => ?_)
  · rcases List.eq_nil_or_concat st with rfl | ⟨st', ⟨d, u⟩, rfl⟩
    · simp at hc0
    rw [List.concat_eq_append] at *
    have hlen : (st' ++ [(d, u)]).length = st'.length + 1 := by simp
    rw [hlen]
    obtain ⟨⟨sa, sc⟩, hld, hru⟩ := hrow.last
    have hrow' := hrow.take
    dsimp only at hld hru
    rw [partsS_snoc, partsT_eq] at hall
    have hdu := partsT_deep 1 t (d, u) (by rw [← hall]; simp)
    have hsz := congrArg List.length hall
    have hps := partsS_len st'
    have hus := sizeL_len u.args
    simp only [List.length_append, List.length_cons, partsT_length, partsL_length] at hsz
    dsimp only at hdu
    refine code_skip ?_
    refine post_next ?_
    refine code_block ?_
    refine code_seq ?_
    refine code_region ?_
    refine OpsJ.rowSome (Has.there Has.here) (by omega) (fun hA hcr => ?_)
    refine op_v (v_loadA ty178 rfl rfl) rfl ?_
    refine op_v (v_loadA ty178 rfl rfl) rfl ?_
    refine op_v (v_len Try.underlying178 rfl) rfl ?_
    refine op_v (v_subb rfl rfl rfl (by omega)) rfl ?_
    rw [show ((st'.length + 1 : Nat) : Int) - 1 = (st'.length : Nat) by omega]
    refine op_v (v_indexA Try.underlying178 sz177 rfl rfl) rfl ?_
    refine op_v (v_loadRow ty177 rfl (Has.there Has.here) hA hld) rfl ?_
    refine o_alloc z177 rfl rfl (fun b4 => ?_)
    refine o_store ty177 rfl rfl rfl rfl rfl (by repeat (first | exact Swap.here | apply Swap.there)) rfl ?_
    refine ops_nil ?_
    refine post_next ?_
    refine code_seq ?_
    refine code_region ?_
    refine op_v (v_loadA ty178 rfl rfl) rfl ?_
    refine op_v (v_loadA ty178 rfl rfl) rfl ?_
    refine op_v (v_len Try.underlying178 rfl) rfl ?_
    refine op_v (v_subb rfl rfl rfl (by omega)) rfl ?_
    rw [show ((st'.length + 1 : Nat) : Int) - 1 = (st'.length : Nat) by omega]
    refine op_v (v_sliceTo Try.underlying178 sz177 rfl rfl (by omega)) rfl ?_
    refine o_store ty178 rfl rfl rfl rfl rfl (by repeat (first | exact Swap.here | apply Swap.there)) rfl ?_
    refine ops_nil ?_
    refine post_next ?_
    refine code_seq ?_
    refine code_seq ?_
    refine code_region ?_
    refine OpsJ.view (View.short _ (Swap.there (Swap.there Swap.here)) (Nat.le_succ _)) ?_
    refine op_v (v_move rfl) rfl ?_
    refine op_v (v_fieldB 2 Try.underlying177 rfl rfl fz3 rfl) rfl ?_
    refine op_v (v_loadA ty3 rfl rfl) rfl ?_
    refine op_v (v_fieldB 0 Try.underlying177 rfl rfl fz47 rfl) rfl ?_
    refine op_v (v_loadA ty47 rfl rfl) rfl ?_
    refine op_fcall rfl rfl rfl ((hy pre (d, u) _ _ _ _ hall.symm hI0 hJ ⟨sa, sc, rfl, hru⟩)) (List.perm_append_comm (l₁ := _ :: _ :: _ :: _ :: MarkEnts ds0)) ?_
    rintro v29 I29 δ29 hI29 ⟨rfl, hJ29⟩
    refine OpsJ.view (View.perm (List.perm_append_comm (l₂ := _ :: _ :: _ :: _ :: MarkEnts ds0))) ?_
    refine op_v (v_not rfl) rfl ?_
    refine ops_nil ?_
    refine post_next ?_
    refine code_cond_f rfl ?_
    refine code_skip ?_
    refine post_next ?_
    refine code_seq ?_
    refine code_region ?_
    refine op_v (v_fieldB 0 Try.underlying177 rfl rfl fz47 rfl) rfl ?_
    refine op_v (v_fieldB 1 Try.underlying47 rfl rfl fz45 rfl) rfl ?_
    refine op_v (v_loadA ty45 rfl rfl) rfl ?_
    refine op_call pl161 rfl rfl ((Backward_does)) Parts.none ?_
    rintro v34 I34 _ hI34 ⟨b34, rfl, rfl⟩
    refine ops_nil ?_
    refine post_next ?_
    refine code_block ?_
    obtain ⟨_, _, hur, huc, hub, ss, hua, husub⟩ := (hru.mono (Imm.le_trans hI29 hI34)).open
    refine code_range (δb := [_, _, _]) (B := fun l I' δ' => ∃ (ar : Option Addr) (cr : Nat) (xs : List Value), δ' = [.box b4 177 [.int .i64 u.head, .slice sa u.args.length sc, .int .i64 d], .box b3 178 [.slice ar (st' ++ kids (d + 1) u.args l).length cr], .row (.slice ar (st' ++ kids (d + 1) u.args l).length cr) 177 3 (st' ++ kids (d + 1) u.args l).length xs] ∧ RowK I' xs (st' ++ kids (d + 1) u.args l)) rfl rfl pl177 rfl (back_iter hub hua) (List.Perm.refl _) ⟨ar, cr, _, by simp [kids]; rfl, by simpa [kids] using hrow'.mono (Imm.le_trans hI29 hI34)⟩ (by rintro _ _ _ ⟨_, rfl⟩; rfl) (by rintro l I1 I2 _ hle ⟨ar, cr, xs, rfl, hr⟩; exact ⟨ar, cr, xs, rfl, hr.mono hle⟩) ?_ ?_
    · rintro l r w1 pre2 j post2 I2 _ _ hrs hrp hx2 hI2 ⟨ar, cr, xs, rfl, hrow2⟩ ⟨hjl, rfl⟩
      have hpl := congrArg List.length hx2
      have hk2 : (st' ++ kids (d + 1) u.args pre2).length = st'.length + pre2.length := by simp [kids]
      have hk3 : st' ++ kids (d + 1) u.args (pre2 ++ [j]) = (st' ++ kids (d + 1) u.args pre2) ++ [(d + 1, u.args[j])] := by simp [kids, hjl]
      have hd1 : (d : Int) + 1 = ((d + 1 : Nat) : Int) := by omega
      simp only [List.length_reverse, List.length_range, List.length_append, List.length_cons] at hpl
      refine code_region ?_
      refine o_alloc z47 rfl rfl (fun b6 => ?_)
      refine o_store ty47 rfl rfl rfl rfl rfl (by repeat (first | exact Swap.here | apply Swap.there)) rfl ?_
      refine ops_nil ?_
      refine post_begin hrs (Swap.there Swap.here) ?_
      refine code_block ?_
      refine code_region ?_
      refine op_v (v_loadA ty178 rfl rfl) rfl ?_
      refine op_v (v_loadA ty47 rfl rfl) rfl ?_
      refine op_v (v_fieldB 2 Try.underlying177 rfl rfl fz3 rfl) rfl ?_
      refine op_v (v_loadA ty3 rfl rfl) rfl ?_
      refine op_v (v_addb rfl rfl rfl (by omega)) rfl ?_
      rw [hd1]
      refine op_v (v_build bl177 rfl rfl) rfl ?_
      refine o_buildSlice (xs := [(Go.Operand.tmp 42)]) Try.underlying178 bs177 rfl rfl rfl rfl rfl (fun b43 => ?_)
      refine o_append Try.underlying178 bs177 rfl rfl rfl (fun v' => by repeat (first | exact Swap.here | apply Swap.there)) (Src.ofRow (by repeat (first | exact Has.here | apply Has.there)) rfl) (by first | rfl | omega | simp) (by simp [cat, cellsL, Value.oneCell']) (by omega) (by omega) (fun a44 c44 => ?_)
      refine o_store ty178 rfl rfl rfl rfl rfl (by repeat (first | exact Swap.here | apply Swap.there)) rfl ?_
      refine ops_nil ?_
      refine post_out ?_
      refine PostJ.view ((View.drop Del.here).trans (View.drop Del.here)) ?_
      refine post_round Swap.here hrs hrp ⟨rfl, _, rfl, a44, c44, xs ++ [.int .i64 u.args[j].head, .slice (ss j).1 u.args[j].args.length (ss j).2, .int .i64 ((d + 1 : Nat) : Int)], ?_, ?_⟩
      · rw [hk3]; simp only [List.length_append, List.length_cons, List.length_nil]; rfl
      · rw [hk3]; exact hrow2.app (RowK.one ((husub j hjl).mono hI2))
    · rintro blk I3 _ hI3 ⟨ar, cr, xs, rfl, hrow3⟩
      refine post_out ?_
      refine post_out ?_
      refine PostJ.view ((View.drop (Del.there Del.here)).trans ((View.drop (Del.there Del.here)).trans (View.perm (List.perm_middle (l₁ := [_, _, _])).symm))) ?_
      refine post_againD (partsS (st' ++ kids (d + 1) u.args (List.range u.args.length).reverse)).length [(0, yv), (1, .pointer (some ⟨b, 0, none⟩)), (3, .pointer (some ⟨b3, 0, none⟩))] ?_ ⟨pre ++ [(d, u)], _, ar, cr, xs, δ29, rfl, rfl, Imm.le_trans hI0 (Imm.le_trans hI29 (Imm.le_trans hI34 hI3)), rfl, ?_, hrow3, ?_⟩ ⟨rfl, rfl, rfl, trivial⟩
      · rw [partsS_app, partsS_kids, partsS_snoc, partsT_eq]; simp
      · exact hmono _ _ _ _ (Imm.le_trans hI34 hI3) hJ29
      · rw [partsS_app, partsS_kids]; simpa using hall
  · have hst : st = [] := by simpa using hc0
    subst hst
    have hp : pre = partsT 1 t := by simpa [partsS] using hall
    subst hp
    refine code_exit ?_
    refine post_exit_then ?_
    refine post_exit_then ?_
    refine post_exit ?_
    refine post_end (rs := []) rfl (List.perm_append_comm_assoc [_, _, _] _ _) .nil (List.Sublist.cons _ (List.Sublist.cons _ (List.Sublist.refl _))) ⟨δJ, hJ, rfl⟩
end Go.Proofs.Ytdbadicpbmndbaa
/- Walks: size, depth, variables and rightness of a term, by the program. -/
set_option linter.unusedVariables false
set_option linter.unusedSimpArgs false
/- short -/
namespace Go.Proofs.Ytdbadicpbmndbaa
open Go Lg

/-! ### models -/
mutual
def depT : T → Nat
  | .mk _ ts => 1 + depL ts
def depL : List T → Nat
  | [] => 0
  | t :: r => max (depT t) (depL r)
end
def deepP (l : List (Nat × T)) : Nat := l.foldl (fun m x => max m x.1) 0
theorem deepP_snoc (l : List (Nat × T)) (x : Nat × T) : deepP (l ++ [x]) = max (deepP l) x.1 := by simp [deepP]
theorem foldl_max (l : List (Nat × T)) (m : Nat) : l.foldl (fun m x => max m x.1) m = max m (deepP l) := by
  induction l generalizing m with
  | nil => simp [deepP]
  | cons x r ih => rw [deepP, List.foldl_cons, List.foldl_cons, ih, ih]; omega
theorem deepP_app (l r : List (Nat × T)) : deepP (l ++ r) = max (deepP l) (deepP r) := by rw [deepP, List.foldl_append, foldl_max]; rfl
theorem deepP_cons (x : Nat × T) (r : List (Nat × T)) : deepP (x :: r) = max x.1 (deepP r) := by rw [deepP, List.foldl_cons, foldl_max]; omega
mutual
theorem deepP_T : ∀ (d : Nat) (t : T), deepP (partsT d t) + 1 = d + depT t
  | d, .mk h ts => by
    rw [partsT, deepP_cons]
    have := deepP_L (d + 1) ts
    simp only [depT]
    rcases this with ⟨rfl, h1⟩ | h1
    · simp [partsL, deepP, depL]
    · omega
theorem deepP_L : ∀ (d : Nat) (ts : List T), (ts = [] ∧ deepP (partsL d ts) = 0) ∨ deepP (partsL d ts) + 1 = d + depL ts
  | d, [] => .inl ⟨rfl, rfl⟩
  | d, t :: r => by
    right
    rw [partsL, deepP_app]
    have h1 := deepP_T d t
    have hd : 1 ≤ depT t := by cases t; simp [depT]
    simp only [depL]
    rcases deepP_L d r with ⟨hr, h2⟩ | h2
    · subst hr
      have h3 : depL ([] : List T) = 0 := by simp [depL]
      rw [h2, h3]; omega
    · omega
end
theorem dep_deep (t : T) : deepP (partsT 1 t) = depT t := by have := deepP_T 1 t; omega
mutual
theorem depT_size : ∀ t : T, depT t ≤ t.size
  | .mk h ts => by have := depL_size ts; simp [depT, T.size]; omega
theorem depL_size : ∀ ts : List T, depL ts ≤ sizeL ts
  | [] => by simp [depL, sizeL]
  | t :: r => by have := depT_size t; have := depL_size r; simp [depL, sizeL]; omega
end

end Go.Proofs.Ytdbadicpbmndbaa
/- Walks: a number among others; variables and rightness of a term; comparisons of numbers. -/
set_option linter.unusedVariables false
set_option linter.unusedSimpArgs false
/- short -/
namespace Go.Proofs.Ytdbadicpbmndbaa
open Go Lg

theorem ld_at {cs : List Value} {o : Nat} {x : Value} (h : cs[o]? = some x) : ld false 1 (cs.drop o) = some x := by
  obtain ⟨hl, rfl⟩ := List.getElem?_eq_some_iff.1 h
  rw [List.drop_eq_getElem_cons hl]; rfl
end Go.Proofs.Ytdbadicpbmndbaa
/- Walks: sizes, comparison. -/
set_option linter.unusedVariables false
set_option linter.unusedSimpArgs false
/- short -/
namespace Go.Proofs.Ytdbadicpbmndbaa
open Go Lg

theorem order_does (I : Imm) (a b : Int) :
    Does Try.prog 153 [.int .i64 a, .int .i64 b] I [] (fun v I' δ' => v = .int .i64 (ordI a b) ∧ δ' = []) := by
  refine Does.intro Try.func153 rfl Try.ntmps153 rfl fun w0 => ?_
  refine code_seq ?_
  refine code_region ?_
  refine op_v (v_assign rfl) rfl ?_
  refine ops_nil ?_
  refine post_next ?_
  refine code_seq ?_
  refine code_seq ?_
  refine code_region ?_
  refine op_v (v_move rfl) rfl ?_
  refine op_v (v_move rfl) rfl ?_
  refine op_v (v_cmp rfl rfl rfl) rfl ?_
  refine ops_nil ?_
  refine post_next ?_
  refine code_cond rfl (fun hc0 => ?_) (fun hc0 => ?_)
  · have h1 : a < b := by simpa using hc0
    refine code_seq ?_
    refine code_region ?_
    refine op_v (v_assign rfl) rfl ?_
    refine ops_nil ?_
    refine post_next ?_
    refine code_ret ?_
    refine post_ret_then ?_
    refine post_ret (rs := [.tmp 4]) rfl (List.Perm.refl _) (.cons (.tmp rfl) .nil) (List.nil_sublist _) ?_
    exact ⟨by simp [outV, ordI, h1], rfl⟩
  · have h1 : ¬ a < b := by simpa using hc0
    refine code_skip ?_
    refine post_next ?_
    refine code_seq ?_
    refine code_seq ?_
    refine code_region ?_
    refine op_v (v_move rfl) rfl ?_
    refine op_v (v_move rfl) rfl ?_
    refine op_v (v_cmp rfl rfl rfl) rfl ?_
    refine ops_nil ?_
    refine post_next ?_
    refine code_cond rfl (fun hc1 => ?_) (fun hc1 => ?_)
    · have h2 : b < a := by simpa using hc1
      refine code_seq ?_
      refine code_region ?_
      refine op_v (v_assign rfl) rfl ?_
      refine ops_nil ?_
      refine post_next ?_
      refine code_ret ?_
      refine post_ret_then ?_
      refine post_ret (rs := [.tmp 4]) rfl (List.Perm.refl _) (.cons (.tmp rfl) .nil) (List.nil_sublist _) ?_
      exact ⟨by simp [outV, ordI, h1, h2], rfl⟩
    · have h2 : ¬ b < a := by simpa using hc1
      refine code_skip ?_
      refine post_next ?_
      refine code_seq ?_
      refine code_region ?_
      refine op_v (v_assign rfl) rfl ?_
      refine ops_nil ?_
      refine post_next ?_
      refine code_ret ?_
      refine post_ret (rs := [.tmp 4]) rfl (List.Perm.refl _) (.cons (.tmp rfl) .nil) (List.nil_sublist _) ?_
      exact ⟨by simp [outV, ordI, h1, h2], rfl⟩

theorem Size_does : ∀ (n : Nat) (t : T), t.size ≤ n → t.size ≤ 1000000000 → ∀ (I : Imm) (v : Value), RepT I v t →
    Does Try.prog 152 [v] I [] (fun v I' δ' => v = .int .i64 t.size ∧ δ' = []) := by
  intro n
  induction n with
  | zero => intro t ht; have := t.size_pos; omega
  | succ n ih =>
    intro t ht hbig I v hv
    obtain ⟨h, ts⟩ := t
    obtain ⟨ad, c, ss, rfl, hr, hc, hb, hat, hsub⟩ := hv.elim
    have hsz : (T.mk h ts).size = 1 + sizeL ts := by simp [T.size]
    refine Does.intro Try.func152 rfl Try.ntmps152 rfl fun w0 => ?_
    refine code_seq ?_
    refine code_region ?_
    refine o_box rfl rfl rfl (fun b1 => ?_)
    refine op_v (v_assign rfl) rfl ?_
    refine ops_nil ?_
    refine post_next ?_
    refine code_seq ?_
    refine code_region ?_
    refine op_v (v_assign rfl) rfl ?_
    refine ops_nil ?_
    refine post_next ?_
    refine code_seq ?_
    refine code_seq ?_
    refine code_region ?_
    refine op_v (v_assign rfl) rfl ?_
    refine ops_nil ?_
    refine post_next ?_
    refine code_block ?_
    refine code_loop (fun m σ' I' δ' => ∃ k a : Nat, m = ts.length - k ∧ k ≤ ts.length ∧ σ' = [(1, .pointer (some ⟨b1, 0, none⟩)), (3, .int .i64 a), (4, .int .i64 k)] ∧ I.le I' ∧ δ' = [.box b1 47 [.int .i64 h, .slice ad ts.length c]] ∧ a + sizeL (ts.drop k) = 1 + sizeL ts) ts.length [(1, .pointer (some ⟨b1, 0, none⟩)), (3, .int .i64 (1 : Nat)), (4, .int .i64 (0 : Nat))] ⟨0, 1, rfl, Nat.zero_le _, rfl, Imm.le_refl _, rfl, rfl⟩ ⟨rfl, rfl, rfl, trivial⟩ ?_
    rintro m _ I0 _ ⟨k, a, rfl, hk, rfl, hI0, rfl, hp⟩
    refine code_seq ?_
    refine code_seq ?_
    refine code_region ?_
    refine op_v (v_move rfl) rfl ?_
    refine op_v (v_fieldB 1 Try.underlying47 rfl rfl fz45 rfl) rfl ?_
    refine op_v (v_loadA ty45 rfl rfl) rfl ?_
    refine op_v (v_len Try.underlying45 rfl) rfl ?_
    refine op_v (v_cmp rfl rfl rfl) rfl ?_
    refine ops_nil ?_
    refine post_next ?_
    refine code_cond rfl (fun hc0 => ?_) (fun hc0 => ?_)
    · have hlt : k < ts.length := by simpa using hc0
      have hs1 := (hat k hlt).isSome
      have hd := sizeL_drop ts k hlt
      have hm := sizeL_mem ts k hlt
      refine code_skip ?_
      refine post_next ?_
      refine code_seq ?_
      refine code_block ?_
      refine code_region ?_
      refine op_v (v_move rfl) rfl ?_
      refine op_v (v_fieldB 1 Try.underlying47 rfl rfl fz45 rfl) rfl ?_
      refine op_v (v_loadA ty45 rfl rfl) rfl ?_
      refine op_v (v_move rfl) rfl ?_
      refine op_v (v_indexA Try.underlying45 sz47 rfl rfl) rfl ?_
      refine op_v (v_loadI0 ty47 ((hat k hlt).mono hI0) rfl rfl rfl) rfl ?_
      refine op_call pl152 rfl rfl ((ih ts[k] (by omega) (by omega) _ _ ((hsub k hlt).mono hI0))) Parts.none ?_
      rintro _ I18 _ hI18 ⟨rfl, rfl⟩
      refine op_v (v_addb rfl rfl rfl (by omega)) rfl ?_
      refine op_v (v_assign rfl) rfl ?_
      refine ops_nil ?_
      refine post_out ?_
      refine post_next ?_
      refine code_region ?_
      refine op_v (v_move rfl) rfl ?_
      refine op_v (v_addb rfl rfl rfl (by omega)) rfl ?_
      refine op_v (v_assign rfl) rfl ?_
      refine ops_nil ?_
      refine post_again (ts.length - (k + 1)) [(1, .pointer (some ⟨b1, 0, none⟩)), (3, .int .i64 ((a + ts[k].size : Nat) : Int)), (4, .int .i64 ((k + 1 : Nat) : Int))] (by omega) ⟨k + 1, a + ts[k].size, rfl, hlt, rfl, Imm.le_trans hI0 hI18, rfl, by omega⟩ ⟨rfl, rfl, rfl, trivial⟩
    · have hge : ¬ k < ts.length := by simpa using hc0
      rw [List.drop_eq_nil_of_le (by omega)] at hp
      simp only [sizeL] at hp
      refine code_exit ?_
      refine post_exit_then ?_
      refine post_exit_then ?_
      refine post_exit ?_
      refine post_next ?_
      refine code_seq ?_
      refine code_region ?_
      refine op_v (v_move rfl) rfl ?_
      refine op_v (v_assign rfl) rfl ?_
      refine ops_nil ?_
      refine post_next ?_
      refine code_ret ?_
      refine post_ret (rs := [.tmp 2]) rfl (List.Perm.refl _) (.cons (.tmp rfl) .nil) (List.nil_sublist _) ?_
      exact ⟨by simp only [outV, hsz]; congr 2, rfl⟩

theorem Count_does : ∀ (n : Nat) (t : T), t.size ≤ n → ∀ (q : Nat), q ≤ 1000000000 → ∀ (I : Imm) (v : Value), RepT I v t →
    Does Try.prog 82 [v, .int .i64 q] I [] (fun v I' δ' => v = .int .i64 ((min t.size (q + 1) : Nat) : Int) ∧ δ' = []) := by
  intro n
  induction n with
  | zero => intro t ht; have := t.size_pos; omega
  | succ n ih =>
    intro t ht q hq I v hv
    obtain ⟨h, ts⟩ := t
    obtain ⟨ad, c, ss, rfl, hr, hc, hb, hat, hsub⟩ := hv.elim
    have hsz : (T.mk h ts).size = 1 + sizeL ts := by simp [T.size]
    refine Does.intro Try.func82 rfl Try.ntmps82 rfl fun w0 => ?_
    refine code_seq ?_
    refine code_region ?_
    refine o_box rfl rfl rfl (fun b2 => ?_)
    refine op_v (v_assign rfl) rfl ?_
    refine ops_nil ?_
    refine post_next ?_
    refine code_seq ?_
    refine code_region ?_
    refine op_v (v_assign rfl) rfl ?_
    refine ops_nil ?_
    refine post_next ?_
    refine code_seq ?_
    refine code_seq ?_
    refine code_region ?_
    refine op_v (v_assign rfl) rfl ?_
    refine ops_nil ?_
    refine post_next ?_
    refine code_block ?_
    refine code_loop (fun m σ' I' δ' => ∃ k a : Nat, m = ts.length - k ∧ k ≤ ts.length ∧ σ' = [(1, .int .i64 q), (2, .pointer (some ⟨b2, 0, none⟩)), (5, .int .i64 a), (6, .int .i64 k)] ∧ I.le I' ∧ δ' = [.box b2 47 [.int .i64 h, .slice ad ts.length c]] ∧ a ≤ q + 1 ∧ min (a + sizeL (ts.drop k)) (q + 1) = min (1 + sizeL ts) (q + 1)) ts.length [(1, .int .i64 q), (2, .pointer (some ⟨b2, 0, none⟩)), (5, .int .i64 (1 : Nat)), (6, .int .i64 (0 : Nat))] ⟨0, 1, rfl, Nat.zero_le _, rfl, Imm.le_refl _, rfl, by omega, rfl⟩ ⟨rfl, rfl, rfl, rfl, trivial⟩ ?_
    rintro m _ I0 _ ⟨k, a, rfl, hk, rfl, hI0, rfl, ha, hp⟩
    refine code_seq ?_
    refine code_seq ?_
    refine code_region ?_
    refine op_v (v_move rfl) rfl ?_
    refine op_v (v_fieldB 1 Try.underlying47 rfl rfl fz45 rfl) rfl ?_
    refine op_v (v_loadA ty45 rfl rfl) rfl ?_
    refine op_v (v_len Try.underlying45 rfl) rfl ?_
    by_cases hlt : k < ts.length
    · refine op_v (v_cmptA rfl rfl rfl) rfl ?_
      refine op_v (v_move rfl) rfl ?_
      refine op_want rfl rfl ?_
      refine op_v (v_move rfl) rfl ?_
      refine op_want rfl rfl ?_
      refine op_v (v_move rfl) rfl ?_
      by_cases hle : a ≤ q
      · first
          | (refine op_want rfl rfl ?_
             refine op_v (v_cmptA rfl rfl rfl) rfl ?_)
          | (refine op_skip rfl rfl (by simp [undef]) rfl ?_)
        refine op_v (v_pickt rfl rfl) rfl ?_
        refine ops_nil ?_
        refine post_next ?_
        refine code_cond_t rfl ?_
        refine code_skip ?_
        refine post_next ?_
        refine code_seq ?_
        refine code_block ?_
        refine code_region ?_
        have hs1 := (hat k hlt).isSome
        have hd := sizeL_drop ts k hlt
        have hm := sizeL_mem ts k hlt
        refine op_v (v_move rfl) rfl ?_
        refine op_v (v_fieldB 1 Try.underlying47 rfl rfl fz45 rfl) rfl ?_
        refine op_v (v_loadA ty45 rfl rfl) rfl ?_
        refine op_v (v_move rfl) rfl ?_
        refine op_v (v_indexA Try.underlying45 sz47 rfl rfl) rfl ?_
        refine op_v (v_loadI0 ty47 ((hat k hlt).mono hI0) rfl rfl rfl) rfl ?_
        refine op_v (v_move rfl) rfl ?_
        refine op_v (v_move rfl) rfl ?_
        refine op_v (v_subb (c := ((q - a : Nat) : Int)) rfl rfl (by omega) (by omega)) rfl ?_
        refine op_call pl82 rfl rfl ((ih ts[k] (by omega) (q - a) (by omega) _ _ ((hsub k hlt).mono hI0))) Parts.none ?_
        rintro _ I18 _ hI18 ⟨rfl, rfl⟩
        refine op_v (v_addb rfl rfl rfl (by omega)) rfl ?_
        refine op_v (v_assign rfl) rfl ?_
        refine ops_nil ?_
        refine post_out ?_
        refine post_next ?_
        refine code_region ?_
        refine op_v (v_move rfl) rfl ?_
        refine op_v (v_addb rfl rfl rfl (by omega)) rfl ?_
        refine op_v (v_assign rfl) rfl ?_
        refine ops_nil ?_
        refine post_again (ts.length - (k + 1)) [(1, .int .i64 q), (2, .pointer (some ⟨b2, 0, none⟩)), (5, .int .i64 ((a + min ts[k].size (q - a + 1) : Nat) : Int)), (6, .int .i64 ((k + 1 : Nat) : Int))] (by omega) ⟨k + 1, a + min ts[k].size (q - a + 1), rfl, hlt, rfl, Imm.le_trans hI0 hI18, rfl, by omega, by omega⟩ ⟨rfl, rfl, rfl, rfl, trivial⟩
      · first
          | (refine op_want rfl rfl ?_
             refine op_v (v_cmpfA rfl rfl rfl) rfl ?_)
          | (refine op_skip rfl rfl (by simp [undef]) rfl ?_)
        refine op_v (v_pickt rfl rfl) rfl ?_
        refine ops_nil ?_
        refine post_next ?_
        refine code_cond_f rfl ?_
        refine code_exit ?_
        refine post_exit_then ?_
        refine post_exit_then ?_
        refine post_exit ?_
        refine post_next ?_
        refine code_seq ?_
        refine code_region ?_
        refine op_v (v_move rfl) rfl ?_
        refine op_v (v_assign rfl) rfl ?_
        refine ops_nil ?_
        refine post_next ?_
        refine code_ret ?_
        refine post_ret (rs := [.tmp 4]) rfl (List.Perm.refl _) (.cons (.tmp rfl) .nil) (List.nil_sublist _) ?_
        exact ⟨by simp only [outV, hsz, ← hp]; congr 2; omega, rfl⟩
    · refine op_v (v_cmpfA rfl rfl rfl) rfl ?_
      refine op_v (v_move rfl) rfl ?_
      refine op_skip rfl rfl (by simp [undef]) rfl ?_
      refine op_skip rfl rfl (by simp [undef]) rfl ?_
      refine op_skip rfl rfl (by simp [undef]) rfl ?_
      refine op_v (v_pickf rfl rfl) rfl ?_
      refine ops_nil ?_
      refine post_next ?_
      refine code_cond_f rfl ?_
      refine code_exit ?_
      refine post_exit_then ?_
      refine post_exit_then ?_
      refine post_exit ?_
      refine post_next ?_
      refine code_seq ?_
      refine code_region ?_
      refine op_v (v_move rfl) rfl ?_
      refine op_v (v_assign rfl) rfl ?_
      refine ops_nil ?_
      refine post_next ?_
      refine code_ret ?_
      refine post_ret (rs := [.tmp 4]) rfl (List.Perm.refl _) (.cons (.tmp rfl) .nil) (List.nil_sublist _) ?_
      rw [List.drop_eq_nil_of_le (by omega)] at hp
      simp only [sizeL] at hp
      exact ⟨by simp only [outV, hsz, ← hp]; congr 2; omega, rfl⟩

theorem Compare_does : ∀ (n : Nat) (t u : T), t.size ≤ n → t.size ≤ 1000000000 → u.size ≤ 1000000000 → ∀ (I : Imm) (v w : Value), RepT I v t → RepT I w u →
    Does Try.prog 117 [v, w] I [] (fun v I' δ' => v = .int .i64 (cmpT t u) ∧ δ' = []) := by
  intro n
  induction n with
  | zero => intro t _ ht; have := t.size_pos; omega
  | succ n ih =>
    intro t u ht hbt hbu I v w hv hw
    have hv' := hv
    have hw' := hw
    obtain ⟨h, ts⟩ := t
    obtain ⟨g, us⟩ := u
    obtain ⟨ad, c, ss, rfl, hr, hc, hb, hat, hsub⟩ := hv.elim
    obtain ⟨bd, e, rr, rfl, hr2, hc2, hb2, hat2, hsub2⟩ := hw.elim
    have hsz : (T.mk h ts).size = 1 + sizeL ts := by simp [T.size]
    have hsz2 : (T.mk g us).size = 1 + sizeL us := by simp [T.size]
    refine Does.intro Try.func117 rfl Try.ntmps117 rfl fun w0 => ?_
    refine code_seq ?_
    refine code_region ?_
    refine o_box rfl rfl rfl (fun b2 => ?_)
    refine o_box rfl rfl rfl (fun b3 => ?_)
    refine op_v (v_assign rfl) rfl ?_
    refine ops_nil ?_
    refine post_next ?_
    refine code_seq ?_
    refine code_seq ?_
    refine code_draw (.fl 0 (.fl 2 (.ef 1 (.ef 3 (.fl 4 .done))))) (fun _ => _) mixed (by kernel_rfl) (by kernel_rfl) (fun _ => (List.Sublist.refl _)) ?_
    refine e_float rfl rfl (fun hs_ => PF.mk rfl (v_loadA ty47 rfl rfl) hs_) (by first | exact Imm.le_refl _ | exact hI8 | exact Imm.le_trans hI8 hI10) (by intro x hx; first | exact hx | exact List.mem_cons_of_mem _ hx | exact List.mem_append_right _ hx | (simp only [List.mem_cons, List.not_mem_nil, or_false] at hx; repeat' (first | (subst hx; simp [cellsL]; done) | rcases hx with hx | hx)) | simp_all) ?_
    refine e_float rfl rfl (fun hs_ => PF.mk rfl (v_loadA ty47 rfl rfl) hs_) (by first | exact Imm.le_refl _ | exact hI8 | exact Imm.le_trans hI8 hI10) (by intro x hx; first | exact hx | exact List.mem_cons_of_mem _ hx | exact List.mem_append_right _ hx | (simp only [List.mem_cons, List.not_mem_nil, or_false] at hx; repeat' (first | (subst hx; simp [cellsL]; done) | rcases hx with hx | hx)) | simp_all) ?_
    refine e_eff rfl (by intro cs b hc; cases hc) (by intro c hc; cases hc) ?_
    refine op_call pl152 rfl rfl ((Size_does _ _ (Nat.le_refl _) hbt _ _ hv')) Parts.none ?_
    rintro _ I8 _ hI8 ⟨rfl, rfl⟩
    refine ops_nil ?_
    refine e_next rfl (side_all (by first | exact Imm.le_refl _ | exact hI8 | exact Imm.le_trans hI8 hI10) (fun _ => (by intro x hx; first | exact hx | exact List.mem_cons_of_mem _ hx | exact List.mem_append_right _ hx | (simp only [List.mem_cons, List.not_mem_nil, or_false] at hx; repeat' (first | (subst hx; simp [cellsL]; done) | rcases hx with hx | hx)) | simp_all))) ?_
    refine e_eff rfl (by intro cs b hc; cases hc) (by intro c hc; cases hc) ?_
    refine op_call pl152 rfl rfl ((Size_does _ _ (Nat.le_refl _) hbu _ _ (hw'.mono hI8))) Parts.none ?_
    rintro _ I10 _ hI10 ⟨rfl, rfl⟩
    refine ops_nil ?_
    refine e_next rfl (side_nil (by kernel_rfl)) ?_
    refine e_float rfl rfl (fun hs_ => PF.mk rfl (v_cmp rfl rfl rfl) hs_) (by first | exact Imm.le_refl _ | exact hI8 | exact Imm.le_trans hI8 hI10) (by intro x hx; first | exact hx | exact List.mem_cons_of_mem _ hx | exact List.mem_append_right _ hx | (simp only [List.mem_cons, List.not_mem_nil, or_false] at hx; repeat' (first | (subst hx; simp [cellsL]; done) | rcases hx with hx | hx)) | simp_all) ?_
    refine e_done ?_
    refine post_next ?_
    refine code_cond rfl (fun hc0 => ?_) (fun hc0 => ?_)
    · have he : sizeL ts ≠ sizeL us := by simp [T.size] at hc0; omega
      refine code_seq ?_
      refine code_draw (.fl 0 (.fl 2 (.ef 1 (.ef 3 (.ef 4 (.ef 5 .done)))))) (fun _ => _) mixed (by kernel_rfl) (by kernel_rfl) (fun _ => (List.Sublist.refl _)) ?_
      refine e_float rfl rfl (fun hs_ => PF.mk rfl (v_loadA ty47 rfl rfl) hs_) (by first | exact Imm.le_refl _ | exact hI13 | exact Imm.le_trans hI13 hI15) (by intro x hx; first | exact hx | exact List.mem_cons_of_mem _ hx | exact List.mem_append_right _ hx | (simp only [List.mem_cons, List.not_mem_nil, or_false] at hx; repeat' (first | (subst hx; simp [cellsL]; done) | rcases hx with hx | hx)) | simp_all) ?_
      refine e_float rfl rfl (fun hs_ => PF.mk rfl (v_loadA ty47 rfl rfl) hs_) (by first | exact Imm.le_refl _ | exact hI13 | exact Imm.le_trans hI13 hI15) (by intro x hx; first | exact hx | exact List.mem_cons_of_mem _ hx | exact List.mem_append_right _ hx | (simp only [List.mem_cons, List.not_mem_nil, or_false] at hx; repeat' (first | (subst hx; simp [cellsL]; done) | rcases hx with hx | hx)) | simp_all) ?_
      refine e_eff rfl (by intro cs b hc; cases hc) (by intro c hc; cases hc) ?_
      refine op_call pl152 rfl rfl ((Size_does _ _ (Nat.le_refl _) hbt _ _ ((hv'.mono hI8).mono hI10))) Parts.none ?_
      rintro _ I13 _ hI13 ⟨rfl, rfl⟩
      refine ops_nil ?_
      refine e_next rfl (side_all (by first | exact Imm.le_refl _ | exact hI13 | exact Imm.le_trans hI13 hI15) (fun _ => (by intro x hx; first | exact hx | exact List.mem_cons_of_mem _ hx | exact List.mem_append_right _ hx | (simp only [List.mem_cons, List.not_mem_nil, or_false] at hx; repeat' (first | (subst hx; simp [cellsL]; done) | rcases hx with hx | hx)) | simp_all))) ?_
      refine e_eff rfl (by intro cs b hc; cases hc) (by intro c hc; cases hc) ?_
      refine op_call pl152 rfl rfl ((Size_does _ _ (Nat.le_refl _) hbu _ _ (((hw'.mono hI8).mono hI10).mono hI13))) Parts.none ?_
      rintro _ I15 _ hI15 ⟨rfl, rfl⟩
      refine ops_nil ?_
      refine e_next rfl (side_nil (by kernel_rfl)) ?_
      refine e_eff rfl (by intro cs b hc; cases hc) (by intro c hc; cases hc) ?_
      refine op_call pl153 rfl rfl ((order_does _ _ _)) Parts.none ?_
      rintro _ J _ hJ ⟨rfl, rfl⟩
      refine ops_nil ?_
      refine e_next rfl (side_nil (by kernel_rfl)) ?_
      refine e_eff rfl (by intro cs b hc; cases hc) (by intro c hc; cases hc) ?_
      refine op_v (v_assign rfl) rfl ?_
      refine ops_nil ?_
      refine e_next rfl (side_nil (by kernel_rfl)) ?_
      refine e_done ?_
      refine post_next ?_
      refine code_ret ?_
      refine post_ret_then ?_
      refine post_ret (rs := [.tmp 4]) rfl (List.Perm.refl _) (.cons (.tmp rfl) .nil) (List.nil_sublist _) ?_
      exact ⟨by simp [outV, cmpT, T.size, he], rfl⟩
    · have he : sizeL ts = sizeL us := by simp [T.size] at hc0; omega
      refine code_skip ?_
      refine post_next ?_
      refine code_seq ?_
      refine code_seq ?_
      refine code_region ?_
      refine op_v (v_fieldB 0 Try.underlying47 rfl rfl fz3 rfl) rfl ?_
      refine op_v (v_loadA ty3 rfl rfl) rfl ?_
      refine op_v (v_fieldB 0 Try.underlying47 rfl rfl fz3 rfl) rfl ?_
      refine op_v (v_loadA ty3 rfl rfl) rfl ?_
      refine op_v (v_cmp rfl rfl rfl) rfl ?_
      refine ops_nil ?_
      refine post_next ?_
      refine code_cond rfl (fun hc1 => ?_) (fun hc1 => ?_)
      · have he1 : h ≠ g := by simpa using hc1
        refine code_seq ?_
        refine code_region ?_
        refine op_v (v_fieldB 0 Try.underlying47 rfl rfl fz3 rfl) rfl ?_
        refine op_v (v_loadA ty3 rfl rfl) rfl ?_
        refine op_v (v_fieldB 0 Try.underlying47 rfl rfl fz3 rfl) rfl ?_
        refine op_v (v_loadA ty3 rfl rfl) rfl ?_
        refine op_call pl153 rfl rfl ((order_does _ _ _)) Parts.none ?_
        rintro _ J _ hJ ⟨rfl, rfl⟩
        refine op_v (v_assign rfl) rfl ?_
        refine ops_nil ?_
        refine post_next ?_
        refine code_ret ?_
        refine post_ret_then ?_
        refine post_ret (rs := [.tmp 4]) rfl (List.Perm.refl _) (.cons (.tmp rfl) .nil) (List.nil_sublist _) ?_
        exact ⟨by simp [outV, cmpT, he, he1], rfl⟩
      · have he1 : h = g := by simpa using hc1
        refine code_skip ?_
        refine post_next ?_
        refine code_seq ?_
        refine code_seq ?_
        refine code_region ?_
        refine op_v (v_fieldB 1 Try.underlying47 rfl rfl fz45 rfl) rfl ?_
        refine op_v (v_loadA ty45 rfl rfl) rfl ?_
        refine op_v (v_len Try.underlying45 rfl) rfl ?_
        refine op_v (v_fieldB 1 Try.underlying47 rfl rfl fz45 rfl) rfl ?_
        refine op_v (v_loadA ty45 rfl rfl) rfl ?_
        refine op_v (v_len Try.underlying45 rfl) rfl ?_
        refine op_v (v_cmp rfl rfl rfl) rfl ?_
        refine ops_nil ?_
        refine post_next ?_
        refine code_cond rfl (fun hc2 => ?_) (fun hc2 => ?_)
        · have he2 : ts.length ≠ us.length := by simp at hc2; omega
          refine code_seq ?_
          refine code_region ?_
          refine op_v (v_fieldB 1 Try.underlying47 rfl rfl fz45 rfl) rfl ?_
          refine op_v (v_loadA ty45 rfl rfl) rfl ?_
          refine op_v (v_len Try.underlying45 rfl) rfl ?_
          refine op_v (v_fieldB 1 Try.underlying47 rfl rfl fz45 rfl) rfl ?_
          refine op_v (v_loadA ty45 rfl rfl) rfl ?_
          refine op_v (v_len Try.underlying45 rfl) rfl ?_
          refine op_call pl153 rfl rfl ((order_does _ _ _)) Parts.none ?_
          rintro _ J _ hJ ⟨rfl, rfl⟩
          refine op_v (v_assign rfl) rfl ?_
          refine ops_nil ?_
          refine post_next ?_
          refine code_ret ?_
          refine post_ret_then ?_
          refine post_ret (rs := [.tmp 4]) rfl (List.Perm.refl _) (.cons (.tmp rfl) .nil) (List.nil_sublist _) ?_
          exact ⟨by simp [outV, cmpT, he, he1, he2], rfl⟩
        · have he2 : ts.length = us.length := by simp at hc2; omega
          refine code_skip ?_
          refine post_next ?_
          refine code_seq ?_
          refine code_seq ?_
          refine code_region ?_
          refine op_v (v_assign rfl) rfl ?_
          refine ops_nil ?_
          refine post_next ?_
          refine code_block ?_
          refine code_loop (fun m σ' I' δ' => ∃ k : Nat, m = ts.length - k ∧ σ' = [(2, .pointer (some ⟨b2, 0, none⟩)), (3, .pointer (some ⟨b3, 0, none⟩)), (5, .int .i64 k)] ∧ I.le I' ∧ δ' = [.box b3 47 [.int .i64 g, .slice bd us.length e], .box b2 47 [.int .i64 h, .slice ad ts.length c]] ∧ cmpL ts us = cmpL (ts.drop k) (us.drop k)) ts.length [(2, .pointer (some ⟨b2, 0, none⟩)), (3, .pointer (some ⟨b3, 0, none⟩)), (5, .int .i64 (0 : Nat))] ⟨0, rfl, rfl, Imm.le_trans hI8 hI10, rfl, rfl⟩ ⟨rfl, rfl, rfl, trivial⟩ ?_
          rintro m _ I0 _ ⟨k, rfl, rfl, hI0, rfl, hp⟩
          refine code_seq ?_
          refine code_seq ?_
          refine code_region ?_
          refine op_v (v_move rfl) rfl ?_
          refine op_v (v_fieldB 1 Try.underlying47 rfl rfl fz45 rfl) rfl ?_
          refine op_v (v_loadA ty45 rfl rfl) rfl ?_
          refine op_v (v_len Try.underlying45 rfl) rfl ?_
          refine op_v (v_cmp rfl rfl rfl) rfl ?_
          refine ops_nil ?_
          refine post_next ?_
          refine code_cond rfl (fun hc3 => ?_) (fun hc3 => ?_)
          · have hlt : k < ts.length := by simpa using hc3
            have hlt2 : k < us.length := by omega
            have hs1 := (hat k hlt).isSome
            have hs2 := (hat2 k hlt2).isSome
            have hm := sizeL_mem ts k hlt
            have hm2 := sizeL_mem us k hlt2
            have hcd := cmpL_drop ts us k hlt hlt2
            refine code_skip ?_
            refine post_next ?_
            refine code_seq ?_
            refine code_block ?_
            refine code_seq ?_
            refine code_draw (.fl 0 (.fl 1 (.fl 2 (.fl 3 (.fl 4 (.fl 5 (.fl 6 (.fl 7 (.fl 8 (.fl 9 (.ef 10 (.ef 11 .done)))))))))))) (fun _ => _) mixed (by kernel_rfl) (by kernel_rfl) (fun _ => (List.Sublist.refl _)) ?_
            refine e_fl rfl rfl (fun hs_ => PF.mk rfl (v_fieldB 1 Try.underlying47 rfl rfl fz45 rfl) hs_) ?_
            refine e_fl rfl rfl (fun hs_ => PF.mk rfl (v_loadA ty45 rfl rfl) hs_) ?_
            refine e_fl rfl rfl (fun hs_ => PF.mk rfl (v_move rfl) hs_) ?_
            refine e_fl rfl rfl (fun hs_ => PF.mk rfl (v_indexA Try.underlying45 sz47 rfl rfl) hs_) ?_
            refine e_fl rfl rfl (fun hs_ => PF.mk rfl (v_loadI0 ty47 ((hat k hlt).mono hI0) rfl rfl rfl) hs_) ?_
            refine e_fl rfl rfl (fun hs_ => PF.mk rfl (v_fieldB 1 Try.underlying47 rfl rfl fz45 rfl) hs_) ?_
            refine e_fl rfl rfl (fun hs_ => PF.mk rfl (v_loadA ty45 rfl rfl) hs_) ?_
            refine e_fl rfl rfl (fun hs_ => PF.mk rfl (v_move rfl) hs_) ?_
            refine e_fl rfl rfl (fun hs_ => PF.mk rfl (v_indexA Try.underlying45 sz47 rfl rfl) hs_) ?_
            refine e_fl rfl rfl (fun hs_ => PF.mk rfl (v_loadI0 ty47 ((hat2 k hlt2).mono hI0) rfl rfl rfl) hs_) ?_
            refine e_eff rfl (by intro cs b hc; cases hc) (by intro c hc; cases hc) ?_
            refine op_call pl117 rfl rfl ((ih ts[k] us[k] (by omega) (by omega) (by omega) _ _ _ ((hsub k hlt).mono hI0) ((hsub2 k hlt2).mono hI0))) Parts.none ?_
            rintro _ I58 _ hI58 ⟨rfl, rfl⟩
            refine ops_nil ?_
            refine e_next rfl side_allA ?_
            refine e_eff rfl (by intro cs b hc; cases hc) (by intro c hc; cases hc) ?_
            refine op_v (v_assign rfl) rfl ?_
            refine ops_nil ?_
            refine e_next rfl (side_nil (by kernel_rfl)) ?_
            refine e_done ?_
            refine post_next ?_
            refine code_seq ?_
            refine code_region ?_
            refine op_v (v_move rfl) rfl ?_
            refine op_v (v_cmp rfl rfl rfl) rfl ?_
            refine ops_nil ?_
            refine post_next ?_
            refine code_cond rfl (fun hc4 => ?_) (fun hc4 => ?_)
            · have hz : cmpT ts[k] us[k] ≠ 0 := by simpa using hc4
              refine code_seq ?_
              refine code_region ?_
              refine op_v (v_move rfl) rfl ?_
              refine op_v (v_assign rfl) rfl ?_
              refine ops_nil ?_
              refine post_next ?_
              refine code_ret ?_
              refine post_ret_block ?_
              refine post_ret_then ?_
              refine post_ret_then ?_
              refine post_ret_block ?_
              refine post_ret_then ?_
              refine post_ret (rs := [.tmp 4]) rfl (List.Perm.refl _) (.cons (.tmp rfl) .nil) (List.nil_sublist _) ?_
              exact ⟨by simp [outV, cmpT, he, he1, he2, hp, hcd, hz], rfl⟩
            · have hz : cmpT ts[k] us[k] = 0 := by simpa using hc4
              refine code_skip ?_
              refine post_out ?_
              refine post_next ?_
              refine code_region ?_
              refine op_v (v_move rfl) rfl ?_
              refine op_v (v_addb rfl rfl rfl (by omega)) rfl ?_
              refine op_v (v_assign rfl) rfl ?_
              refine ops_nil ?_
              refine post_again (ts.length - (k + 1)) [(2, .pointer (some ⟨b2, 0, none⟩)), (3, .pointer (some ⟨b3, 0, none⟩)), (5, .int .i64 ((k + 1 : Nat) : Int))] (by omega) ⟨k + 1, rfl, rfl, Imm.le_trans hI0 hI58, rfl, by rw [hp, hcd]; simp [hz]⟩ ⟨rfl, rfl, rfl, trivial⟩
          · have hge : ¬ k < ts.length := by simpa using hc3
            rw [List.drop_eq_nil_of_le (by omega), List.drop_eq_nil_of_le (by omega)] at hp
            refine code_exit ?_
            refine post_exit_then ?_
            refine post_exit_then ?_
            refine post_exit ?_
            refine post_next ?_
            refine code_seq ?_
            refine code_region ?_
            refine op_v (v_assign rfl) rfl ?_
            refine ops_nil ?_
            refine post_next ?_
            refine code_ret ?_
            refine post_ret (rs := [.tmp 4]) rfl (List.Perm.refl _) (.cons (.tmp rfl) .nil) (List.nil_sublist _) ?_
            exact ⟨by simp [outV, cmpT, he, he1, he2, hp, cmpL], rfl⟩

theorem Same_does (I : Imm) (v w : Value) (t u : T) (hv : RepT I v t) (hw : RepT I w u) (hbt : t.size ≤ 1000000000) (hbu : u.size ≤ 1000000000) :
    Does Try.prog 76 [v, w] I [] (fun v I' δ' => v = .bool (decide (t = u)) ∧ δ' = []) := by
  have hv' := hv
  have hw' := hw
  obtain ⟨h, ts⟩ := t
  obtain ⟨g, us⟩ := u
  obtain ⟨ad, c, ss, rfl, hr, hc, hb, hat, hsub⟩ := hv.elim
  obtain ⟨bd, e, rr, rfl, hr2, hc2, hb2, hat2, hsub2⟩ := hw.elim
  refine Does.intro Try.func76 rfl Try.ntmps76 rfl fun w0 => ?_
  refine code_seq ?_
  refine code_region ?_
  refine o_box rfl rfl rfl (fun b2 => ?_)
  refine o_box rfl rfl rfl (fun b3 => ?_)
  refine op_v (v_assign rfl) rfl ?_
  refine ops_nil ?_
  refine post_next ?_
  refine code_seq ?_
  refine code_region ?_
  refine op_v (v_loadA ty47 rfl rfl) rfl ?_
  refine op_v (v_loadA ty47 rfl rfl) rfl ?_
  refine op_call pl117 rfl rfl ((Compare_does _ _ _ (Nat.le_refl _) hbt hbu _ _ _ hv' hw')) Parts.none ?_
  rintro _ I7 _ hI7 ⟨rfl, rfl⟩
  refine op_v (v_cmp rfl rfl rfl) rfl ?_
  refine op_v (v_assign rfl) rfl ?_
  refine ops_nil ?_
  refine post_next ?_
  refine code_ret ?_
  refine post_ret (rs := [.tmp 4]) rfl (List.Perm.refl _) (.cons (.tmp rfl) .nil) (List.nil_sublist _) ?_
  exact ⟨bool_b (by simp only [decide_eq_decide]; exact cmpT_eq _ _), rfl⟩
end Go.Proofs.Ytdbadicpbmndbaa
/- Walks: copies, places. -/
set_option linter.unusedVariables false
set_option linter.unusedSimpArgs false
/- short -/
namespace Go.Proofs.Ytdbadicpbmndbaa
open Go Lg

end Go.Proofs.Ytdbadicpbmndbaa
/- Walks: places, by definition. -/
set_option linter.unusedVariables false
set_option linter.unusedSimpArgs false
/- short -/
namespace Go.Proofs.Ytdbadicpbmndbaa
open Go Lg

end Go.Proofs.Ytdbadicpbmndbaa
/- Walks: places under others; clones. -/
set_option linter.unusedVariables false
set_option linter.unusedSimpArgs false
/- short -/
namespace Go.Proofs.Ytdbadicpbmndbaa
open Go Lg

end Go.Proofs.Ytdbadicpbmndbaa
/- Walks: the part at a place. -/
set_option linter.unusedVariables false
set_option linter.unusedSimpArgs false
/- short -/
namespace Go.Proofs.Ytdbadicpbmndbaa
open Go Lg

end Go.Proofs.Ytdbadicpbmndbaa
/- Walks: rows of numbers of one's own. -/
set_option linter.unusedVariables false
set_option linter.unusedSimpArgs false
/- short -/
namespace Go.Proofs.Ytdbadicpbmndbaa
open Go Lg

theorem RInts.of {I : Imm} {ad : Option Addr} {n c : Nat} {xs : List Int} (hn : n = xs.length) (hc : n ≤ c) (hb : n ≤ 17592186044416) (hat : Cells I ad (xs.map (Value.int .i64))) (hr : ∀ x ∈ xs, InR x) : RInts I (.slice ad n c) xs := by
  subst hn
  exact ⟨ad, c, xs, hc, hb, hat, hr⟩
theorem RInts.len {I : Imm} {v : Value} {xs : List Int} (h : RInts I v xs) : xs.length ≤ 17592186044416 ∧ ∀ x ∈ xs, InR x := by
  obtain ⟨ad, c, xs, hc, hb, hat, hr⟩ := h
  exact ⟨hb, hr⟩

theorem RInts.shape {I : Imm} {v : Value} {xs : List Int} (h : RInts I v xs) : ∃ ad c, v = .slice ad xs.length c := by
  obtain ⟨ad, c, xs, _, _, _, _⟩ := h
  exact ⟨ad, c, rfl⟩

/-- rows of rows of numbers -/
def RowP (I : Imm) (xs : List Value) (ps : List (List Int)) : Prop := xs.length = ps.length ∧ ∀ i (h : i < ps.length), ∃ v, xs[i]? = some v ∧ RInts I v ps[i]
theorem RowP.nil (I : Imm) : RowP I [] [] := ⟨rfl, fun i h => by simp at h⟩
theorem RowP.mono {I J : Imm} {xs : List Value} {ps : List (List Int)} (h : RowP I xs ps) (hl : I.le J) : RowP J xs ps :=
  ⟨h.1, fun i hi => let ⟨v, h1, h2⟩ := h.2 i hi; ⟨v, h1, h2.mono hl⟩⟩
theorem RowP.snoc {I : Imm} {xs : List Value} {ps : List (List Int)} {v : Value} {p : List Int} (h : RowP I xs ps) (k : RInts I v p) : RowP I (xs ++ [v]) (ps ++ [p]) := by
  refine ⟨by simp [h.1], fun i hi => ?_⟩
  by_cases hlt : i < ps.length
  · obtain ⟨u, h1, h2⟩ := h.2 i hlt
    rw [List.getElem_append_left hlt]
    exact ⟨u, by rw [List.getElem?_append_left (by rw [h.1]; exact hlt)]; exact h1, h2⟩
  · have hi' : i = ps.length := by simp at hi; omega
    subst hi'
    have e : (ps ++ [p])[ps.length] = p := by simp
    rw [e]
    exact ⟨v, by rw [← h.1]; simp, k⟩
theorem RowP.one {I : Imm} {xs : List Value} {ps : List (List Int)} (h : RowP I xs ps) : ∀ u ∈ xs, u.oneCell' = true := by
  intro u hu
  obtain ⟨i, hi, rfl⟩ := List.getElem_of_mem hu
  obtain ⟨v, h1, h2⟩ := h.2 i (by rw [← h.1]; exact hi)
  rw [List.getElem?_eq_getElem hi] at h1
  have e : xs[i] = v := by simpa using h1
  show xs[i].oneCell' = true
  rw [e]
  generalize ps[i]'(by rw [← h.1]; exact hi) = p at h2
  obtain ⟨ad, c, xs, _, _, _, _⟩ := h2
  rfl
inductive RPs (I : Imm) : Value → List (List Int) → Prop
  | mk (ad : Option Addr) (c : Nat) (xs : List Value) (ps : List (List Int)) (hc : ps.length ≤ c) (hb : ps.length ≤ 4398046511104) (hat : Cells I ad xs) (hr : RowP I xs ps) : RPs I (.slice ad ps.length c) ps
theorem RPs.of {I : Imm} {ad : Option Addr} {n c : Nat} {xs : List Value} {ps : List (List Int)} (hn : n = ps.length) (hc : n ≤ c) (hb : n ≤ 4398046511104) (hat : Cells I ad xs) (hr : RowP I xs ps) : RPs I (.slice ad n c) ps := by
  subst hn
  exact ⟨ad, c, xs, ps, hc, hb, hat, hr⟩
theorem RPs.mono {I J : Imm} {v : Value} {ps : List (List Int)} (h : RPs I v ps) (hl : I.le J) : RPs J v ps := by
  obtain ⟨ad, c, xs, ps, hc, hb, hat, hr⟩ := h
  exact ⟨ad, c, xs, ps, hc, hb, hat.mono hl, hr.mono hl⟩
theorem RPs.get {I : Imm} {ad : Option Addr} {xs : List Value} {ps : List (List Int)} (hat : Cells I ad xs) (hr : RowP I xs ps) (i : Nat) (h : i < ps.length) :
    ∃ (ed : Option Addr) (ec : Nat), At I ad (i * 1) [.slice ed ps[i].length ec] ∧ RInts I (.slice ed ps[i].length ec) ps[i] := by
  obtain ⟨v, h1, h2⟩ := hr.2 i h
  generalize he : ps[i] = p at h2
  obtain ⟨ad', c, p, _, _, _, _⟩ := h2
  refine ⟨ad', c, hat.at _ fun j u hj => ?_, ⟨ad', c, p, ‹_›, ‹_›, ‹_›, ‹_›⟩⟩
  rcases j with _ | j
  · simp at hj; subst hj; simpa using h1
  · simp at hj
end Go.Proofs.Ytdbadicpbmndbaa
/- Walks: all places of a term. -/
set_option linter.unusedVariables false
set_option linter.unusedSimpArgs false
/- short -/
namespace Go.Proofs.Ytdbadicpbmndbaa
open Go Lg

end Go.Proofs.Ytdbadicpbmndbaa
/- Walks: all places of a term, by the program. -/
set_option linter.unusedVariables false
set_option linter.unusedSimpArgs false
/- short -/
namespace Go.Proofs.Ytdbadicpbmndbaa
open Go Lg

end Go.Proofs.Ytdbadicpbmndbaa
/- Walks: another part put at a place, by definition. -/
set_option linter.unusedVariables false
set_option linter.unusedSimpArgs false
/- short -/
namespace Go.Proofs.Ytdbadicpbmndbaa
open Go Lg

/-- another part at a place that is there -/
def putT : T → List Int → T → T
  | _, [], u => u
  | t, x :: r, u => .mk t.head (t.args.set x.toNat (putT (t.args.getD x.toNat zeroT) r u))

theorem atT_cons {t : T} {x : Int} {r : List Int} (h : (atT t (x :: r)).isSome = true) : ∃ i : Nat, x = i ∧ ∃ hi : i < t.args.length, (atT t.args[i] r).isSome = true := by
  unfold atT at h
  by_cases hh : 0 ≤ x ∧ x.toNat < t.args.length
  · rw [dif_pos hh] at h
    obtain ⟨i, rfl⟩ := Int.eq_ofNat_of_zero_le hh.1
    exact ⟨i, rfl, hh.2, h⟩
  · rw [dif_neg hh] at h; cases h

end Go.Proofs.Ytdbadicpbmndbaa
/- Walks: another part put at a place, by the program. -/
set_option linter.unusedVariables false
set_option linter.unusedSimpArgs false
namespace Go.Proofs.Ytdbadicpbmndbaa
open Go Lg

/-! ### rows and boxes -/
theorem stL_one {cs : List Value} {o : Nat} {x v : Value} (h : cs[o]? = some x) : stL cs o [v] = some (cs.set o v) := by
  induction cs generalizing o with
  | nil => simp at h
  | cons c cs ih =>
    cases o with
    | zero => cases cs <;> simp [stL]
    | succ o => simp at h; simp [stL, ih h]
/-! ### places, from behind -/
theorem atT_c (t : T) (x : Int) (r : List Int) : atT t (x :: r) = if h : 0 ≤ x ∧ x.toNat < t.args.length then atT (t.args[x.toNat]'h.2) r else none := by simp only [atT]
theorem putT_snoc : ∀ (q : List Int) (t u w : T) (i : Nat), atT t q = some u → i < u.args.length → putT t (q ++ [(i : Int)]) w = putT t q (.mk u.head (u.args.set i w))
  | [], t, u, w, i, h, hi => by
    simp [atT] at h; subst h
    simp [putT]
  | x :: q, t, u, w, i, h, hi => by
    rw [List.cons_append]
    have h' : (atT t (x :: q)).isSome = true := by rw [h]; rfl
    obtain ⟨j, rfl, hj, _⟩ := atT_cons h'
    simp only [atT, Int.toNat_natCast] at h
    rw [dif_pos ⟨by omega, hj⟩] at h
    simp only [putT, Int.toNat_natCast]
    have e : t.args.getD j zeroT = t.args[j] := by simp [hj]
    rw [e, putT_snoc q _ u w i h hi]

/-- What is to be put into the cells at (b, off) stands at q. -/
def Hole (t : T) (q : List Int) (b0 b off : Nat) (cs : List Value) (I : Imm) : Prop :=
  ∀ (J : Imm) (w : T) (wd : Option Addr) (wc : Nat), I.le J → J b = some (.cells ((cs.set off (.int .i64 w.head)).set (off + 1) (.slice wd w.args.length wc)).toArray 47 (0, 0)) → RepT J (.agg #[.int .i64 w.head, .slice wd w.args.length wc]) w →
    ∃ v0 v1, J b0 = some (.cells #[v0, v1] 47 (0, 0)) ∧ RepT J (.agg #[v0, v1]) (putT t q w)
theorem Hole.mono {t : T} {q : List Int} {b0 b off : Nat} {cs : List Value} {I J : Imm} (h : Hole t q b0 b off cs I) (hl : I.le J) : Hole t q b0 b off cs J :=
  fun K w wd wc hk hb hr => h K w wd wc (Imm.le_trans hl hk) hb hr
theorem RowT.set {I : Imm} {xs : List Value} {ts : List T} {w : T} {wd : Option Addr} {wc i : Nat} (h : RowT I xs ts) (hr : RepT I (.agg #[.int .i64 w.head, .slice wd w.args.length wc]) w) (hi : i < ts.length) :
    RowT I ((xs.set (i * 2) (.int .i64 w.head)).set (i * 2 + 1) (.slice wd w.args.length wc)) (ts.set i w) := by
  refine ⟨by simp [h.1], fun j hj => ?_⟩
  have hj' : j < ts.length := by simpa using hj
  obtain ⟨s, h1, h2, h3⟩ := h.2 j hj'
  by_cases e : i = j
  · subst e
    have e1 : (ts.set i w)[i] = w := by simp
    rw [e1]
    exact ⟨(wd, wc), by rw [List.getElem?_set_ne (by omega), List.getElem?_set_self (by rw [h.1]; omega)], by rw [List.getElem?_set_self (by simp [h.1]; omega)], hr⟩
  · have e1 : (ts.set i w)[j] = ts[j] := by simp [List.getElem_set_ne e]
    rw [e1]
    exact ⟨s, by rw [List.getElem?_set_ne (by omega), List.getElem?_set_ne (by omega)]; exact h1, by rw [List.getElem?_set_ne (by omega), List.getElem?_set_ne (by omega)]; exact h2, h3⟩

theorem cells_of {J : Imm} {g : Nat} {e : TypeId} {cs : List Value} (h : J g = some (.cells cs.toArray e (0, 0))) (n : Nat) : Cells J (some ⟨g, 0, none⟩) (cs.take n) := fun j v hj => by
  have hadd : (⟨g, 0, none⟩ : Addr).add j = ⟨g, j, none⟩ := by rw [add_plain]; simp
  simp only [Option.map_some, Imm.cellO, Imm.cell, hadd, h]
  rw [List.getElem?_take] at hj
  split at hj
  · simpa using hj
  · cases hj

theorem Hole.step {t u : T} {q : List Int} {b0 b off g n cap i : Nat} {cs cs3 xs : List Value} {I J : Imm} (h : Hole t q b0 b off cs I) (hl : I.le J) (hat : atT t q = some u) (hn : u.args.length = n)
    (hb : J b = some (.cells (cs.set (off + 1) (.slice (some ⟨g, 0, none⟩) n cap)).toArray 47 (0, 0))) (hc0 : cs[off]? = some (.int .i64 u.head)) (hr : InR u.head) (hnc : n ≤ cap) (hnb : n ≤ 4398046511104)
    (htk : cs3.take (n * 2) = xs) (hrow : RowT J xs u.args) (hi : i < n) : Hole t (q ++ [(i : Int)]) b0 g (i * 2) cs3 J := by
  intro K w wd wc hk hg hw
  have hset : cs.set off (.int .i64 u.head) = cs := by
    obtain ⟨hlt, he⟩ := List.getElem?_eq_some_iff.1 hc0
    rw [← he, List.set_getElem_self]
  have hcells := cells_of hg (n * 2)
  rw [List.take_set, List.take_set, htk] at hcells
  have hrow' := (hrow.mono hk).set hw (i := i) (by omega)
  have hlen : (T.mk u.head (u.args.set i w)).args.length = n := by
    show (u.args.set i w).length = n
    simp [hn]
  obtain ⟨v0, v1, h1, h2⟩ := h K (.mk u.head (u.args.set i w)) (some ⟨g, 0, none⟩) cap (Imm.le_trans hl hk) (by
    rw [hlen]
    show K b = some (.cells ((cs.set off (.int .i64 u.head)).set (off + 1) _).toArray _ _)
    rw [hset]
    exact hk _ _ hb) (RowT.rep (h := u.head) (c := cap) (ts := u.args.set i w) hcells hrow' hr (by simp [hn]; exact hnc) (by simp [hn]; exact hnb))
  refine ⟨v0, v1, h1, ?_⟩
  rw [putT_snoc q t u w i hat (by omega)]
  exact h2
end Go.Proofs.Ytdbadicpbmndbaa
/- Walks: another part put at a place, by the program. -/
set_option linter.unusedVariables false
set_option linter.unusedSimpArgs false
/- short -/
namespace Go.Proofs.Ytdbadicpbmndbaa
open Go Lg

end Go.Proofs.Ytdbadicpbmndbaa
/- Walks: the document's example on places. -/
set_option linter.unusedVariables false
set_option linter.unusedSimpArgs false
/- short -/
namespace Go.Proofs.Ytdbadicpbmndbaa
open Go Lg

theorem Fun_does {I : Imm} {h : Int} {s : Value} {ts : List T} (hh : InR h) (hs : RepS I s ts) :
    Does Try.prog 62 [.int .i64 h, s] I [] (fun v I' δ' => RepT I' v (.mk h ts) ∧ δ' = []) := by
  have hs' := hs
  obtain ⟨ad, c, ss, ts, hc, hb, hat, hr, hsub⟩ := hs
  refine Does.intro Try.func62 rfl Try.ntmps62 rfl fun w0 => ?_
  refine code_seq ?_
  refine code_region ?_
  refine o_alloc z47 rfl rfl (fun b4 => ?_)
  refine ops_nil ?_
  refine post_next ?_
  refine code_seq ?_
  refine code_region ?_
  refine op_v (v_move rfl) rfl ?_
  refine op_v (v_move rfl) rfl ?_
  refine op_v (v_build bl47 rfl rfl) rfl ?_
  refine o_store ty47 rfl rfl rfl rfl rfl (by repeat (first | exact Swap.here | apply Swap.there)) rfl ?_
  refine ops_nil ?_
  refine post_next ?_
  refine code_ret ?_
  refine post_ret (rs := [.cell 4 47]) rfl (List.Perm.refl _) (.cons (.cell rfl ty47 (by repeat (first | exact Has.here | apply Has.there)) rfl) .nil) (List.nil_sublist _) ?_
  exact ⟨RepT.mk _ (.mk h ts) hh hs', rfl⟩
theorem Var_does {I : Imm} {n : Int} (h0 : 0 ≤ n) (h1 : n ≤ 1000000000) :
    Does Try.prog 61 [.int .i64 n] I [] (fun v I' δ' => RepT I' v (.mk (-1 - n) []) ∧ δ' = []) := by
  refine Does.intro Try.func61 rfl Try.ntmps61 rfl fun w0 => ?_
  refine code_seq ?_
  refine code_region ?_
  refine o_alloc z47 rfl rfl (fun b2 => ?_)
  refine ops_nil ?_
  refine post_next ?_
  refine code_seq ?_
  refine code_region ?_
  refine op_v (v_move rfl) rfl ?_
  refine op_v (v_subb rfl rfl rfl (by omega)) rfl ?_
  refine op_v (v_build bl47 rfl rfl) rfl ?_
  refine o_store ty47 rfl rfl rfl rfl rfl (by repeat (first | exact Swap.here | apply Swap.there)) rfl ?_
  refine ops_nil ?_
  refine post_next ?_
  refine code_ret ?_
  refine post_ret (rs := [.cell 2 47]) rfl (List.Perm.refl _) (.cons (.cell rfl ty47 (by repeat (first | exact Has.here | apply Has.there)) rfl) .nil) (List.nil_sublist _) ?_
  exact ⟨RepT.mk _ (.mk (-1 - n) []) (by unfold InR; simp [T.head]; omega) (RepS.nil _), rfl⟩
theorem RowT.repS {I : Imm} {ad : Option Addr} {n c : Nat} {xs : List Value} {ts : List T} (hn : n = ts.length) (hc : Cells I ad xs) (hr : RowT I xs ts) (hle : n ≤ c) (hb : n ≤ 4398046511104) : RepS I (.slice ad n c) ts := by
  subst hn
  exact RepT.args (RowT.rep (h := 0) hc hr (by unfold InR; omega) hle hb)
theorem RInts.lit {I : Imm} {ad : Option Addr} {n c : Nat} {xs : List Int} (hat : Cells I ad (xs.map (Value.int .i64))) (hc : n ≤ c) (hr : xs.all (fun x => decide (0 ≤ x ∧ x ≤ 1000)) = true) (hn : n = xs.length := by rfl) (hb : n ≤ 17592186044416 := by decide) : RInts I (.slice ad n c) xs :=
  RInts.of hn hc hb hat (fun x hx => by have := List.all_eq_true.1 hr x hx; simp at this; unfold InR; omega)

def tA : T := .mk 4 [.mk 1 [], .mk 3 [.mk 2 []]]
end Go.Proofs.Ytdbadicpbmndbaa
/- Walks: variables and rightness of a term, by the program. -/
set_option linter.unusedVariables false
set_option linter.unusedSimpArgs false
/- short -/
namespace Go.Proofs.Ytdbadicpbmndbaa
open Go Lg

def badN (x : Nat × T) : Bool := (decide (x.2.head < 0) && decide (0 < x.2.args.length)) || decide (x.2.head < -256) || decide (1023 < x.2.head) || decide (8 < x.2.args.length)
def chkT (t : T) : Int := if 400 < t.size then 2 else if 40 < depT t then 7 else if (partsT 1 t).any badN then 1 else 0
theorem TCheck_does {I : Imm} {v : Value} {t : T} (hv : RepT I v t) (hbig : t.size ≤ 1000000000) :
    Does Try.prog 105 [v] I [] (fun v I' δ' => v = .int .i64 (chkT t) ∧ δ' = []) := by
  obtain ⟨ad, c, rfl, hr0⟩ := hv.shape
  refine Does.intro Try.func105 rfl Try.ntmps105 rfl fun w0 => ?_
  refine code_seq ?_
  refine code_region ?_
  refine o_box rfl rfl rfl (fun b1 => ?_)
  refine op_v (v_assign rfl) rfl ?_
  refine ops_nil ?_
  refine post_next ?_
  refine code_seq ?_
  refine code_region ?_
  refine o_alloc z3 rfl rfl (fun b3 => ?_)
  refine o_alloc z3 rfl rfl (fun b4 => ?_)
  refine o_alloc z4 rfl rfl (fun b5 => ?_)
  refine o_store ty3 rfl rfl rfl rfl rfl (by repeat (first | exact Swap.here | apply Swap.there)) rfl ?_
  refine o_store ty3 rfl rfl rfl rfl rfl (by repeat (first | exact Swap.here | apply Swap.there)) rfl ?_
  refine o_store ty4 rfl rfl rfl rfl rfl (by repeat (first | exact Swap.here | apply Swap.there)) rfl ?_
  refine ops_nil ?_
  refine post_next ?_
  refine code_seq ?_
  refine code_seq ?_
  refine code_region ?_
  refine op_v (v_loadA ty47 rfl rfl) rfl ?_
  refine op_call pl127 rfl rfl ((parts_does)) Parts.none ?_
  rintro v9 I9 _ hI9 ⟨b9, rfl, rfl⟩
  refine ops_nil ?_
  refine post_next ?_
  refine code_block ?_
  refine code_range (δb := [_, _, _]) (B := fun l I' δ' => δ' = [.box b5 4 [.bool (l.any badN)], .box b4 3 [.int .i64 (deepP l)], .box b3 3 [.int .i64 l.length]]) rfl rfl pl160 rfl (parts_iter (hv.mono hI9) hbig) (List.Perm.refl _) rfl (by rintro _ _ _ ⟨_, _, rfl, _⟩; rfl) (by rintro l I1 I2 _ hle rfl; rfl) ?_ ?_
  · rintro l r w1 pre x post I2 _ _ hrs hrp hx hI2 rfl ⟨xa, xc, rfl, hxv⟩
    have hpl := congrArg List.length hx
    simp only [partsT_length, List.length_append, List.length_cons] at hpl
    have hlen : ((pre ++ [x]).length : Int) = (pre.length : Int) + 1 := by simp
    have hdp : ((deepP (pre ++ [x]) : Nat) : Int) = max ((deepP pre : Nat) : Int) (x.1 : Int) := by rw [deepP_snoc]; omega
    have hany : (pre ++ [x]).any badN = (pre.any badN || badN x) := by simp
    refine code_seq ?_
    refine code_region ?_
    refine op_v (v_assign rfl) rfl ?_
    refine ops_nil ?_
    refine post_next ?_
    refine code_region ?_
    refine o_alloc z47 rfl rfl (fun b7 => ?_)
    refine o_store ty47 rfl rfl rfl rfl rfl (by repeat (first | exact Swap.here | apply Swap.there)) rfl ?_
    refine ops_nil ?_
    refine post_begin hrs (Swap.there Swap.here) ?_
    refine code_block ?_
    refine code_seq ?_
    refine code_draw (.fl 0 (.fl 1 (.fl 2 (.fl 3 (.fl 4 (.ef 5 (.ef 6 .done))))))) (two 2 [.box b3 3 [.int .i64 pre.length]] [.box b4 3 [.int .i64 (deepP pre)]]) mixed (by kernel_rfl) (by kernel_rfl) (two_sub (List.Sublist.cons _ (List.Sublist.cons _ (List.Sublist.cons _ (List.Sublist.cons _ (List.Sublist.refl _))))) (List.Sublist.cons _ (List.Sublist.cons _ (List.Sublist.cons _ (List.Sublist.cons_cons _ (List.nil_sublist _)))))) ?_
    refine e_float rfl rfl (fun hs_ => PF.mk rfl (v_loadA ty3 rfl rfl) hs_) Imm.leA (by intro x hx; change x ∈ [_] at hx; rw [List.mem_singleton] at hx; subst hx; simp) ?_
    refine e_float rfl rfl (fun hs_ => PF.mk rfl (v_addb rfl rfl rfl (by omega)) hs_) Imm.leA (by intro x hx; change x ∈ [_] at hx; rw [List.mem_singleton] at hx; subst hx; simp) ?_
    refine e_float rfl rfl (fun hs_ => PF.mk rfl (v_loadA ty3 rfl rfl) hs_) Imm.leA (by intro x hx; change x ∈ [_] at hx; rw [List.mem_singleton] at hx; subst hx; simp) ?_
    refine e_float rfl rfl (fun hs_ => PF.mk rfl (v_move rfl) hs_) Imm.leA (by intro x hx; change x ∈ [_] at hx; rw [List.mem_singleton] at hx; subst hx; simp) ?_
    refine e_float rfl rfl (fun hs_ => PF.mk rfl (v_max rfl rfl) hs_) Imm.leA (by intro x hx; change x ∈ [_] at hx; rw [List.mem_singleton] at hx; subst hx; simp) ?_
    refine e_eff rfl (by intro cs b hc; cases hc) (by intro c hc; cases hc) ?_
    refine o_store ty3 rfl rfl rfl rfl rfl (by repeat (first | exact Swap.here | apply Swap.there)) rfl ?_
    refine ops_nil ?_
    refine e_next_ (side_two (by kernel_rfl) (Imm.le_refl _) (by intro x hx; rw [List.mem_singleton] at hx; subst hx; simp)) ?_
    refine e_eff rfl (by intro cs b hc; cases hc) (by intro c hc; cases hc) ?_
    refine o_store ty3 rfl rfl rfl rfl rfl (by repeat (first | exact Swap.here | apply Swap.there)) rfl ?_
    refine ops_nil ?_
    refine e_next_ (side_nil (by kernel_rfl)) ?_
    refine e_done ?_
    refine post_next ?_
    refine code_region ?_
    refine op_v (v_loadA ty4 rfl rfl) rfl ?_
    by_cases hw : pre.any badN = true
    · rw [hw]
      refine op_v (v_move rfl) rfl ?_
      refine op_skip rfl rfl (by simp [undef]) rfl ?_
      refine op_skip rfl rfl (by simp [undef]) rfl ?_
      refine op_skip rfl rfl (by simp [undef]) rfl ?_
      refine op_skip rfl rfl (by simp [undef]) rfl ?_
      refine op_skip rfl rfl (by simp [undef]) rfl ?_
      refine op_skip rfl rfl (by simp [undef]) rfl ?_
      refine op_skip rfl rfl (by simp [undef]) rfl ?_
      refine op_skip rfl rfl (by simp [undef]) rfl ?_
      refine op_skip rfl rfl (by simp [undef]) rfl ?_
      refine op_v (v_pickt rfl rfl) rfl ?_
      refine op_v (v_move rfl) rfl ?_
      refine op_skip rfl rfl (by simp [undef]) rfl ?_
      refine op_skip rfl rfl (by simp [undef]) rfl ?_
      refine op_skip rfl rfl (by simp [undef]) rfl ?_
      refine op_v (v_pickt rfl rfl) rfl ?_
      refine op_v (v_move rfl) rfl ?_
      refine op_skip rfl rfl (by simp [undef]) rfl ?_
      refine op_skip rfl rfl (by simp [undef]) rfl ?_
      refine op_skip rfl rfl (by simp [undef]) rfl ?_
      refine op_v (v_pickt rfl rfl) rfl ?_
      refine op_v (v_move rfl) rfl ?_
      refine op_skip rfl rfl (by simp [undef]) rfl ?_
      refine op_skip rfl rfl (by simp [undef]) rfl ?_
      refine op_skip rfl rfl (by simp [undef]) rfl ?_
      refine op_skip rfl rfl (by simp [undef]) rfl ?_
      refine op_v (v_pickt rfl rfl) rfl ?_
      refine o_store ty4 rfl rfl rfl rfl rfl (by repeat (first | exact Swap.here | apply Swap.there)) rfl ?_
      refine ops_nil ?_
      refine post_out ?_
      refine PostJ.view (View.drop Del.here) ?_
      refine post_round Swap.here hrs hrp ⟨rfl, _, rfl, ?_⟩
      rw [hlen, hdp, hany]
      refine congrArg (fun q => [Ent.box b5 4 [.bool q], .box b4 3 [.int .i64 (max ((deepP pre : Nat) : Int) (x.1 : Int))], .box b3 3 [.int .i64 ((pre.length : Int) + 1)]]) (?_ : _ = (pre.any badN || badN x))
      clear hx hdp hany hlen hpl hv hxv hI9 hI2 hrs hrp
      rw [show pre.any badN = _ by assumption]
      simp [badN, *]
    · have hw' : pre.any badN = false := by simpa using hw
      rw [hw']
      refine op_v (v_move rfl) rfl ?_
      first
        | (refine op_want rfl rfl ?_
           refine op_v (v_fieldB 0 Try.underlying47 rfl rfl fz3 rfl) rfl ?_)
        | (refine op_skip rfl rfl (by simp [undef]) rfl ?_)
      refine op_want rfl rfl ?_
      refine op_v (v_loadA ty3 rfl rfl) rfl ?_
      by_cases h1 : x.2.head < 0
      · first
          | (refine op_want rfl rfl ?_
             refine op_v (v_cmptA rfl rfl rfl) rfl ?_)
          | (refine op_skip rfl rfl (by simp [undef]) rfl ?_)
        refine op_want rfl rfl ?_
        refine op_v (v_move rfl) rfl ?_
        first
          | (refine op_want rfl rfl ?_
             refine op_v (v_fieldB 1 Try.underlying47 rfl rfl fz45 rfl) rfl ?_)
          | (refine op_skip rfl rfl (by simp [undef]) rfl ?_)
        refine op_want rfl rfl ?_
        refine op_v (v_loadA ty45 rfl rfl) rfl ?_
        refine op_want rfl rfl ?_
        refine op_v (v_len Try.underlying45 rfl) rfl ?_
        by_cases h2 : 0 < x.2.args.length
        · first
            | (refine op_want rfl rfl ?_
               refine op_v (v_cmptA rfl rfl rfl) rfl ?_)
            | (refine op_skip rfl rfl (by simp [undef]) rfl ?_)
          first
            | (refine op_want rfl rfl ?_
               refine op_v (v_pickt rfl rfl) rfl ?_)
            | (refine op_skip rfl rfl (by simp [undef]) rfl ?_)
          refine op_v (v_pickf rfl rfl) rfl ?_
          refine op_v (v_move rfl) rfl ?_
          refine op_skip rfl rfl (by simp [undef]) rfl ?_
          refine op_skip rfl rfl (by simp [undef]) rfl ?_
          refine op_skip rfl rfl (by simp [undef]) rfl ?_
          refine op_v (v_pickt rfl rfl) rfl ?_
          refine op_v (v_move rfl) rfl ?_
          refine op_skip rfl rfl (by simp [undef]) rfl ?_
          refine op_skip rfl rfl (by simp [undef]) rfl ?_
          refine op_skip rfl rfl (by simp [undef]) rfl ?_
          refine op_v (v_pickt rfl rfl) rfl ?_
          refine op_v (v_move rfl) rfl ?_
          refine op_skip rfl rfl (by simp [undef]) rfl ?_
          refine op_skip rfl rfl (by simp [undef]) rfl ?_
          refine op_skip rfl rfl (by simp [undef]) rfl ?_
          refine op_skip rfl rfl (by simp [undef]) rfl ?_
          refine op_v (v_pickt rfl rfl) rfl ?_
          refine o_store ty4 rfl rfl rfl rfl rfl (by repeat (first | exact Swap.here | apply Swap.there)) rfl ?_
          refine ops_nil ?_
          refine post_out ?_
          refine PostJ.view (View.drop Del.here) ?_
          refine post_round Swap.here hrs hrp ⟨rfl, _, rfl, ?_⟩
          rw [hlen, hdp, hany]
          refine congrArg (fun q => [Ent.box b5 4 [.bool q], .box b4 3 [.int .i64 (max ((deepP pre : Nat) : Int) (x.1 : Int))], .box b3 3 [.int .i64 ((pre.length : Int) + 1)]]) (?_ : _ = (pre.any badN || badN x))
          clear hx hdp hany hlen hpl hv hxv hI9 hI2 hrs hrp
          rw [show pre.any badN = _ by assumption]
          simp [badN, *]
        · first
            | (refine op_want rfl rfl ?_
               refine op_v (v_cmpfA rfl rfl rfl) rfl ?_)
            | (refine op_skip rfl rfl (by simp [undef]) rfl ?_)
          first
            | (refine op_want rfl rfl ?_
               refine op_v (v_pickt rfl rfl) rfl ?_)
            | (refine op_skip rfl rfl (by simp [undef]) rfl ?_)
          refine op_v (v_pickf rfl rfl) rfl ?_
          refine op_v (v_move rfl) rfl ?_
          first
            | (refine op_want rfl rfl ?_
               refine op_v (v_fieldB 0 Try.underlying47 rfl rfl fz3 rfl) rfl ?_)
            | (refine op_skip rfl rfl (by simp [undef]) rfl ?_)
          refine op_want rfl rfl ?_
          refine op_v (v_loadA ty3 rfl rfl) rfl ?_
          by_cases h3 : x.2.head < -256
          · first
              | (refine op_want rfl rfl ?_
                 refine op_v (v_cmptA rfl rfl rfl) rfl ?_)
              | (refine op_skip rfl rfl (by simp [undef]) rfl ?_)
            refine op_v (v_pickf rfl rfl) rfl ?_
            refine op_v (v_move rfl) rfl ?_
            refine op_skip rfl rfl (by simp [undef]) rfl ?_
            refine op_skip rfl rfl (by simp [undef]) rfl ?_
            refine op_skip rfl rfl (by simp [undef]) rfl ?_
            refine op_v (v_pickt rfl rfl) rfl ?_
            refine op_v (v_move rfl) rfl ?_
            refine op_skip rfl rfl (by simp [undef]) rfl ?_
            refine op_skip rfl rfl (by simp [undef]) rfl ?_
            refine op_skip rfl rfl (by simp [undef]) rfl ?_
            refine op_skip rfl rfl (by simp [undef]) rfl ?_
            refine op_v (v_pickt rfl rfl) rfl ?_
            refine o_store ty4 rfl rfl rfl rfl rfl (by repeat (first | exact Swap.here | apply Swap.there)) rfl ?_
            refine ops_nil ?_
            refine post_out ?_
            refine PostJ.view (View.drop Del.here) ?_
            refine post_round Swap.here hrs hrp ⟨rfl, _, rfl, ?_⟩
            rw [hlen, hdp, hany]
            refine congrArg (fun q => [Ent.box b5 4 [.bool q], .box b4 3 [.int .i64 (max ((deepP pre : Nat) : Int) (x.1 : Int))], .box b3 3 [.int .i64 ((pre.length : Int) + 1)]]) (?_ : _ = (pre.any badN || badN x))
            clear hx hdp hany hlen hpl hv hxv hI9 hI2 hrs hrp
            rw [show pre.any badN = _ by assumption]
            simp [badN, *]
          · first
              | (refine op_want rfl rfl ?_
                 refine op_v (v_cmpfA rfl rfl rfl) rfl ?_)
              | (refine op_skip rfl rfl (by simp [undef]) rfl ?_)
            refine op_v (v_pickf rfl rfl) rfl ?_
            refine op_v (v_move rfl) rfl ?_
            first
              | (refine op_want rfl rfl ?_
                 refine op_v (v_fieldB 0 Try.underlying47 rfl rfl fz3 rfl) rfl ?_)
              | (refine op_skip rfl rfl (by simp [undef]) rfl ?_)
            refine op_want rfl rfl ?_
            refine op_v (v_loadA ty3 rfl rfl) rfl ?_
            by_cases h4 : 1023 < x.2.head
            · first
                | (refine op_want rfl rfl ?_
                   refine op_v (v_cmptA rfl rfl rfl) rfl ?_)
                | (refine op_skip rfl rfl (by simp [undef]) rfl ?_)
              refine op_v (v_pickf rfl rfl) rfl ?_
              refine op_v (v_move rfl) rfl ?_
              refine op_skip rfl rfl (by simp [undef]) rfl ?_
              refine op_skip rfl rfl (by simp [undef]) rfl ?_
              refine op_skip rfl rfl (by simp [undef]) rfl ?_
              refine op_skip rfl rfl (by simp [undef]) rfl ?_
              refine op_v (v_pickt rfl rfl) rfl ?_
              refine o_store ty4 rfl rfl rfl rfl rfl (by repeat (first | exact Swap.here | apply Swap.there)) rfl ?_
              refine ops_nil ?_
              refine post_out ?_
              refine PostJ.view (View.drop Del.here) ?_
              refine post_round Swap.here hrs hrp ⟨rfl, _, rfl, ?_⟩
              rw [hlen, hdp, hany]
              refine congrArg (fun q => [Ent.box b5 4 [.bool q], .box b4 3 [.int .i64 (max ((deepP pre : Nat) : Int) (x.1 : Int))], .box b3 3 [.int .i64 ((pre.length : Int) + 1)]]) (?_ : _ = (pre.any badN || badN x))
              clear hx hdp hany hlen hpl hv hxv hI9 hI2 hrs hrp
              rw [show pre.any badN = _ by assumption]
              simp [badN, *]
            · first
                | (refine op_want rfl rfl ?_
                   refine op_v (v_cmpfA rfl rfl rfl) rfl ?_)
                | (refine op_skip rfl rfl (by simp [undef]) rfl ?_)
              refine op_v (v_pickf rfl rfl) rfl ?_
              refine op_v (v_move rfl) rfl ?_
              first
                | (refine op_want rfl rfl ?_
                   refine op_v (v_fieldB 1 Try.underlying47 rfl rfl fz45 rfl) rfl ?_)
                | (refine op_skip rfl rfl (by simp [undef]) rfl ?_)
              refine op_want rfl rfl ?_
              refine op_v (v_loadA ty45 rfl rfl) rfl ?_
              refine op_want rfl rfl ?_
              refine op_v (v_len Try.underlying45 rfl) rfl ?_
              by_cases h5 : 8 < x.2.args.length
              · first
                  | (refine op_want rfl rfl ?_
                     refine op_v (v_cmptA rfl rfl rfl) rfl ?_)
                  | (refine op_skip rfl rfl (by simp [undef]) rfl ?_)
                refine op_v (v_pickf rfl rfl) rfl ?_
                refine o_store ty4 rfl rfl rfl rfl rfl (by repeat (first | exact Swap.here | apply Swap.there)) rfl ?_
                refine ops_nil ?_
                refine post_out ?_
                refine PostJ.view (View.drop Del.here) ?_
                refine post_round Swap.here hrs hrp ⟨rfl, _, rfl, ?_⟩
                rw [hlen, hdp, hany]
                refine congrArg (fun q => [Ent.box b5 4 [.bool q], .box b4 3 [.int .i64 (max ((deepP pre : Nat) : Int) (x.1 : Int))], .box b3 3 [.int .i64 ((pre.length : Int) + 1)]]) (?_ : _ = (pre.any badN || badN x))
                clear hx hdp hany hlen hpl hv hxv hI9 hI2 hrs hrp
                rw [show pre.any badN = _ by assumption]
                simp [badN, *]
              · first
                  | (refine op_want rfl rfl ?_
                     refine op_v (v_cmpfA rfl rfl rfl) rfl ?_)
                  | (refine op_skip rfl rfl (by simp [undef]) rfl ?_)
                refine op_v (v_pickf rfl rfl) rfl ?_
                refine o_store ty4 rfl rfl rfl rfl rfl (by repeat (first | exact Swap.here | apply Swap.there)) rfl ?_
                refine ops_nil ?_
                refine post_out ?_
                refine PostJ.view (View.drop Del.here) ?_
                refine post_round Swap.here hrs hrp ⟨rfl, _, rfl, ?_⟩
                rw [hlen, hdp, hany]
                refine congrArg (fun q => [Ent.box b5 4 [.bool q], .box b4 3 [.int .i64 (max ((deepP pre : Nat) : Int) (x.1 : Int))], .box b3 3 [.int .i64 ((pre.length : Int) + 1)]]) (?_ : _ = (pre.any badN || badN x))
                clear hx hdp hany hlen hpl hv hxv hI9 hI2 hrs hrp
                rw [show pre.any badN = _ by assumption]
                simp [badN, *]
      · first
          | (refine op_want rfl rfl ?_
             refine op_v (v_cmpfA rfl rfl rfl) rfl ?_)
          | (refine op_skip rfl rfl (by simp [undef]) rfl ?_)
        refine op_want rfl rfl ?_
        refine op_v (v_move rfl) rfl ?_
        refine op_skip rfl rfl (by simp [undef]) rfl ?_
        refine op_skip rfl rfl (by simp [undef]) rfl ?_
        refine op_skip rfl rfl (by simp [undef]) rfl ?_
        refine op_skip rfl rfl (by simp [undef]) rfl ?_
        first
          | (refine op_want rfl rfl ?_
             refine op_v (v_pickf rfl rfl) rfl ?_)
          | (refine op_skip rfl rfl (by simp [undef]) rfl ?_)
        refine op_v (v_pickf rfl rfl) rfl ?_
        refine op_v (v_move rfl) rfl ?_
        first
          | (refine op_want rfl rfl ?_
             refine op_v (v_fieldB 0 Try.underlying47 rfl rfl fz3 rfl) rfl ?_)
          | (refine op_skip rfl rfl (by simp [undef]) rfl ?_)
        refine op_want rfl rfl ?_
        refine op_v (v_loadA ty3 rfl rfl) rfl ?_
        by_cases h3 : x.2.head < -256
        · first
            | (refine op_want rfl rfl ?_
               refine op_v (v_cmptA rfl rfl rfl) rfl ?_)
            | (refine op_skip rfl rfl (by simp [undef]) rfl ?_)
          refine op_v (v_pickf rfl rfl) rfl ?_
          refine op_v (v_move rfl) rfl ?_
          refine op_skip rfl rfl (by simp [undef]) rfl ?_
          refine op_skip rfl rfl (by simp [undef]) rfl ?_
          refine op_skip rfl rfl (by simp [undef]) rfl ?_
          refine op_v (v_pickt rfl rfl) rfl ?_
          refine op_v (v_move rfl) rfl ?_
          refine op_skip rfl rfl (by simp [undef]) rfl ?_
          refine op_skip rfl rfl (by simp [undef]) rfl ?_
          refine op_skip rfl rfl (by simp [undef]) rfl ?_
          refine op_skip rfl rfl (by simp [undef]) rfl ?_
          refine op_v (v_pickt rfl rfl) rfl ?_
          refine o_store ty4 rfl rfl rfl rfl rfl (by repeat (first | exact Swap.here | apply Swap.there)) rfl ?_
          refine ops_nil ?_
          refine post_out ?_
          refine PostJ.view (View.drop Del.here) ?_
          refine post_round Swap.here hrs hrp ⟨rfl, _, rfl, ?_⟩
          rw [hlen, hdp, hany]
          refine congrArg (fun q => [Ent.box b5 4 [.bool q], .box b4 3 [.int .i64 (max ((deepP pre : Nat) : Int) (x.1 : Int))], .box b3 3 [.int .i64 ((pre.length : Int) + 1)]]) (?_ : _ = (pre.any badN || badN x))
          clear hx hdp hany hlen hpl hv hxv hI9 hI2 hrs hrp
          rw [show pre.any badN = _ by assumption]
          simp [badN, *]
        · first
            | (refine op_want rfl rfl ?_
               refine op_v (v_cmpfA rfl rfl rfl) rfl ?_)
            | (refine op_skip rfl rfl (by simp [undef]) rfl ?_)
          refine op_v (v_pickf rfl rfl) rfl ?_
          refine op_v (v_move rfl) rfl ?_
          first
            | (refine op_want rfl rfl ?_
               refine op_v (v_fieldB 0 Try.underlying47 rfl rfl fz3 rfl) rfl ?_)
            | (refine op_skip rfl rfl (by simp [undef]) rfl ?_)
          refine op_want rfl rfl ?_
          refine op_v (v_loadA ty3 rfl rfl) rfl ?_
          by_cases h4 : 1023 < x.2.head
          · first
              | (refine op_want rfl rfl ?_
                 refine op_v (v_cmptA rfl rfl rfl) rfl ?_)
              | (refine op_skip rfl rfl (by simp [undef]) rfl ?_)
            refine op_v (v_pickf rfl rfl) rfl ?_
            refine op_v (v_move rfl) rfl ?_
            refine op_skip rfl rfl (by simp [undef]) rfl ?_
            refine op_skip rfl rfl (by simp [undef]) rfl ?_
            refine op_skip rfl rfl (by simp [undef]) rfl ?_
            refine op_skip rfl rfl (by simp [undef]) rfl ?_
            refine op_v (v_pickt rfl rfl) rfl ?_
            refine o_store ty4 rfl rfl rfl rfl rfl (by repeat (first | exact Swap.here | apply Swap.there)) rfl ?_
            refine ops_nil ?_
            refine post_out ?_
            refine PostJ.view (View.drop Del.here) ?_
            refine post_round Swap.here hrs hrp ⟨rfl, _, rfl, ?_⟩
            rw [hlen, hdp, hany]
            refine congrArg (fun q => [Ent.box b5 4 [.bool q], .box b4 3 [.int .i64 (max ((deepP pre : Nat) : Int) (x.1 : Int))], .box b3 3 [.int .i64 ((pre.length : Int) + 1)]]) (?_ : _ = (pre.any badN || badN x))
            clear hx hdp hany hlen hpl hv hxv hI9 hI2 hrs hrp
            rw [show pre.any badN = _ by assumption]
            simp [badN, *]
          · first
              | (refine op_want rfl rfl ?_
                 refine op_v (v_cmpfA rfl rfl rfl) rfl ?_)
              | (refine op_skip rfl rfl (by simp [undef]) rfl ?_)
            refine op_v (v_pickf rfl rfl) rfl ?_
            refine op_v (v_move rfl) rfl ?_
            first
              | (refine op_want rfl rfl ?_
                 refine op_v (v_fieldB 1 Try.underlying47 rfl rfl fz45 rfl) rfl ?_)
              | (refine op_skip rfl rfl (by simp [undef]) rfl ?_)
            refine op_want rfl rfl ?_
            refine op_v (v_loadA ty45 rfl rfl) rfl ?_
            refine op_want rfl rfl ?_
            refine op_v (v_len Try.underlying45 rfl) rfl ?_
            by_cases h5 : 8 < x.2.args.length
            · first
                | (refine op_want rfl rfl ?_
                   refine op_v (v_cmptA rfl rfl rfl) rfl ?_)
                | (refine op_skip rfl rfl (by simp [undef]) rfl ?_)
              refine op_v (v_pickf rfl rfl) rfl ?_
              refine o_store ty4 rfl rfl rfl rfl rfl (by repeat (first | exact Swap.here | apply Swap.there)) rfl ?_
              refine ops_nil ?_
              refine post_out ?_
              refine PostJ.view (View.drop Del.here) ?_
              refine post_round Swap.here hrs hrp ⟨rfl, _, rfl, ?_⟩
              rw [hlen, hdp, hany]
              refine congrArg (fun q => [Ent.box b5 4 [.bool q], .box b4 3 [.int .i64 (max ((deepP pre : Nat) : Int) (x.1 : Int))], .box b3 3 [.int .i64 ((pre.length : Int) + 1)]]) (?_ : _ = (pre.any badN || badN x))
              clear hx hdp hany hlen hpl hv hxv hI9 hI2 hrs hrp
              rw [show pre.any badN = _ by assumption]
              simp [badN, *]
            · first
                | (refine op_want rfl rfl ?_
                   refine op_v (v_cmpfA rfl rfl rfl) rfl ?_)
                | (refine op_skip rfl rfl (by simp [undef]) rfl ?_)
              refine op_v (v_pickf rfl rfl) rfl ?_
              refine o_store ty4 rfl rfl rfl rfl rfl (by repeat (first | exact Swap.here | apply Swap.there)) rfl ?_
              refine ops_nil ?_
              refine post_out ?_
              refine PostJ.view (View.drop Del.here) ?_
              refine post_round Swap.here hrs hrp ⟨rfl, _, rfl, ?_⟩
              rw [hlen, hdp, hany]
              refine congrArg (fun q => [Ent.box b5 4 [.bool q], .box b4 3 [.int .i64 (max ((deepP pre : Nat) : Int) (x.1 : Int))], .box b3 3 [.int .i64 ((pre.length : Int) + 1)]]) (?_ : _ = (pre.any badN || badN x))
              clear hx hdp hany hlen hpl hv hxv hI9 hI2 hrs hrp
              rw [show pre.any badN = _ by assumption]
              simp [badN, *]
  · rintro blk I3 _ hI3 rfl
    refine post_out ?_
    refine post_next ?_
    refine code_seq ?_
    refine code_block ?_
    refine code_seq ?_
    refine code_region ?_
    rw [dep_deep, partsT_length]
    refine op_v (v_loadA ty3 rfl rfl) rfl ?_
    by_cases hq1 : 400 < t.size
    · refine op_v (v_cmptA rfl rfl rfl) rfl ?_
      refine op_v (v_assign rfl) rfl ?_
      refine ops_nil ?_
      refine post_next ?_
      refine code_cond_t rfl ?_
      refine code_seq ?_
      refine code_region ?_
      refine op_v (v_assign rfl) rfl ?_
      refine ops_nil ?_
      refine post_next ?_
      refine code_ret ?_
      refine post_ret_block ?_
      refine post_ret_then ?_
      refine post_ret (rs := [.tmp 2]) rfl (List.Perm.refl _) (.cons (.tmp rfl) .nil) (List.nil_sublist _) ?_
      exact ⟨by simp [outV, chkT, *], rfl⟩
    · refine op_v (v_cmpfA rfl rfl rfl) rfl ?_
      refine op_v (v_assign rfl) rfl ?_
      refine ops_nil ?_
      refine post_next ?_
      refine code_cond_f rfl ?_
      refine code_seq ?_
      refine code_region ?_
      refine op_v (v_loadA ty3 rfl rfl) rfl ?_
      by_cases hq2 : 40 < depT t
      · refine op_v (v_cmptA rfl rfl rfl) rfl ?_
        refine op_v (v_assign rfl) rfl ?_
        refine ops_nil ?_
        refine post_next ?_
        refine code_cond_t rfl ?_
        refine code_seq ?_
        refine code_region ?_
        refine op_v (v_assign rfl) rfl ?_
        refine ops_nil ?_
        refine post_next ?_
        refine code_ret ?_
        refine post_ret_block ?_
        refine post_ret_then ?_
        refine post_ret (rs := [.tmp 2]) rfl (List.Perm.refl _) (.cons (.tmp rfl) .nil) (List.nil_sublist _) ?_
        exact ⟨by simp [outV, chkT, *], rfl⟩
      · refine op_v (v_cmpfA rfl rfl rfl) rfl ?_
        refine op_v (v_assign rfl) rfl ?_
        refine ops_nil ?_
        refine post_next ?_
        refine code_cond_f rfl ?_
        refine code_seq ?_
        refine code_region ?_
        by_cases hq3 : (partsT 1 t).any badN = true
        · rw [hq3]
          refine op_v (v_loadA ty4 rfl rfl) rfl ?_
          refine op_v (v_assign rfl) rfl ?_
          refine ops_nil ?_
          refine post_next ?_
          refine code_cond_t rfl ?_
          refine code_seq ?_
          refine code_region ?_
          refine op_v (v_assign rfl) rfl ?_
          refine ops_nil ?_
          refine post_next ?_
          refine code_ret ?_
          refine post_ret_block ?_
          refine post_ret_then ?_
          refine post_ret (rs := [.tmp 2]) rfl (List.Perm.refl _) (.cons (.tmp rfl) .nil) (List.nil_sublist _) ?_
          exact ⟨by simp [outV, chkT, *], rfl⟩
        · rw [show (partsT 1 t).any badN = false by simpa using hq3]
          refine op_v (v_loadA ty4 rfl rfl) rfl ?_
          refine op_v (v_assign rfl) rfl ?_
          refine ops_nil ?_
          refine post_next ?_
          refine code_cond_f rfl ?_
          refine code_skip ?_
          refine post_out ?_
          refine post_next ?_
          refine code_seq ?_
          refine code_region ?_
          refine op_v (v_assign rfl) rfl ?_
          refine ops_nil ?_
          refine post_next ?_
          refine code_ret ?_
          refine post_ret (rs := [.tmp 2]) rfl (List.Perm.refl _) (.cons (.tmp rfl) .nil) (List.nil_sublist _) ?_
          exact ⟨by simp [outV, chkT, *], rfl⟩
end Go.Proofs.Ytdbadicpbmndbaa
/- Walk: are two terms the same, by the program. -/
set_option linter.unusedVariables false
set_option linter.unusedSimpArgs false
/- short -/
namespace Go.Proofs.Ytdbadicpbmndbaa
open Go Lg

theorem RowT.take {I : Imm} {xs : List Value} {ts : List T} {x : T} (h : RowT I xs (ts ++ [x])) : RowT I (xs.take (ts.length * 2)) ts := by
  refine ⟨by rw [List.length_take, h.1]; simp only [List.length_append, List.length_cons, List.length_nil]; omega, fun i hi => ?_⟩
  obtain ⟨s, h1, h2, h3⟩ := h.2 i (by simp; omega)
  have e : (ts ++ [x])[i]'(by simp; omega) = ts[i] := List.getElem_append_left hi
  rw [e] at h1 h2 h3
  exact ⟨s, by rw [List.getElem?_take_of_lt (by omega)]; exact h1, by rw [List.getElem?_take_of_lt (by omega)]; exact h2, h3⟩
theorem RowT.last {I : Imm} {xs : List Value} {ts : List T} {x : T} (h : RowT I xs (ts ++ [x])) :
    ∃ s : Option Addr × Nat, ld true 2 (xs.drop (ts.length * 2)) = some (.agg #[.int .i64 x.head, .slice s.1 x.args.length s.2]) ∧ RepT I (.agg #[.int .i64 x.head, .slice s.1 x.args.length s.2]) x := by
  obtain ⟨s, h1, h2, h3⟩ := h.2 ts.length (by simp)
  have e : (ts ++ [x])[ts.length]'(by simp) = x := by simp
  rw [e] at h1 h2 h3
  refine ⟨s, ?_, h3⟩
  obtain ⟨l1, e1⟩ := List.getElem?_eq_some_iff.1 h1
  obtain ⟨l2, e2⟩ := List.getElem?_eq_some_iff.1 h2
  rw [List.drop_eq_getElem_cons l1, List.drop_eq_getElem_cons l2, e1, e2]
  rfl
/-- pairs of a stack of two rows -/
theorem same_cons {ls rs : List T} {x y : T} (hl : ls.length = rs.length) (hx : x.head = y.head) (hn : x.args.length = y.args.length) : (ls ++ [x] = rs ++ [y]) ↔ (ls ++ x.args = rs ++ y.args) := by
  constructor
  · intro h
    have := List.append_inj h hl
    obtain ⟨h1, h2⟩ := this
    simp at h2
    rw [h1, h2]
  · intro h
    obtain ⟨h1, h2⟩ := List.append_inj h hl
    obtain ⟨a, a2⟩ := x
    obtain ⟨b, b2⟩ := y
    simp only [T.head, T.args] at hx h2
    rw [h1, hx, h2]
theorem TSame_does {I : Imm} {v w : Value} {t u : T} (hv : RepT I v t) (hw : RepT I w u) (hbt : t.size ≤ 1000000000) (hbu : u.size ≤ 1000000000) :
    Does Try.prog 77 [v, w] I [] (fun v I' δ' => v = .bool (decide (t = u)) ∧ δ' = []) := by
  obtain ⟨ta, tc, rfl, _⟩ := hv.shape
  obtain ⟨ua, uc, rfl, _⟩ := hw.shape
  refine Does.intro Try.func77 rfl Try.ntmps77 rfl fun w0 => ?_
  refine code_seq ?_
  refine code_region ?_
  refine o_box rfl rfl rfl (fun b2 => ?_)
  refine o_box rfl rfl rfl (fun b3 => ?_)
  refine op_v (v_assign rfl) rfl ?_
  refine ops_nil ?_
  refine post_next ?_
  refine code_seq_meet (fun σ' I' δ' => ∃ b11 b13 : Nat, σ' = [(2, .pointer (some ⟨b2, 0, none⟩)), (3, .pointer (some ⟨b3, 0, none⟩)), (5, .slice (some ⟨b11, 0, none⟩) 1 1), (6, .slice (some ⟨b13, 0, none⟩) 1 1)] ∧ I = I' ∧ δ' = [.row (.slice (some ⟨b11, 0, none⟩) 1 1) 47 2 1 [.int .i64 t.head, .slice ta t.args.length tc], .row (.slice (some ⟨b13, 0, none⟩) 1 1) 47 2 1 [.int .i64 u.head, .slice ua u.args.length uc]]) ?_ ?_
  · refine code_draw (.fl 0 (.fl 2 (.two 1 3 (.fl 4 (.ef 3 (.ef 5 .done))) (.ef 1 (.ef 4 (.ef 5 .done)))))) (fun _ => [.box b3 47 [.int .i64 u.head, .slice ua u.args.length uc], .box b2 47 [.int .i64 t.head, .slice ta t.args.length tc]]) mixed (by kernel_rfl) (by kernel_rfl) (fun _ => (List.Sublist.refl _)) ?_
    refine e_float rfl rfl (fun hs_ => PF.mk rfl (v_loadA ty47 rfl rfl) hs_) Imm.leA (by intro x hx; simp only [List.mem_cons, List.not_mem_nil, or_false] at hx; rcases hx with rfl | rfl <;> simp [cellsL]) ?_
    refine e_float rfl rfl (fun hs_ => PF.mk rfl (v_loadA ty47 rfl rfl) hs_) Imm.leA (by intro x hx; simp only [List.mem_cons, List.not_mem_nil, or_false] at hx; rcases hx with rfl | rfl <;> simp [cellsL]) ?_
    refine e_two rfl (by intro cs b hc; cases hc) (by intro c hc; cases hc) rfl (by intro cs b hc; cases hc) (by intro c hc; cases hc) ?_ ?_
    · refine o_buildSlice (xs := [(Go.Operand.tmp 10)]) Try.underlying45 bs47 rfl rfl rfl rfl rfl (fun b11 => ?_)
      refine ops_nil ?_
      refine e_next rfl (side_all Imm.leA (fun _ => (by intro x hx; simp only [List.mem_cons, List.not_mem_nil, or_false] at hx; rcases hx with rfl | rfl <;> simp [cellsL]))) ?_
      refine e_float rfl rfl (fun hs_ => PF.mk rfl (v_assign rfl) hs_) Imm.leA (by intro x hx; simp only [List.mem_cons, List.not_mem_nil, or_false] at hx; rcases hx with rfl | rfl <;> simp [cellsL]) ?_
      refine e_eff rfl (by intro cs b hc; cases hc) (by intro c hc; cases hc) ?_
      refine o_buildSlice (xs := [(Go.Operand.tmp 12)]) Try.underlying45 bs47 rfl rfl rfl rfl rfl (fun b13 => ?_)
      refine ops_nil ?_
      refine e_next rfl (side_all Imm.leA (fun _ => (by intro x hx; simp only [List.mem_cons, List.not_mem_nil, or_false] at hx; rcases hx with rfl | rfl <;> simp [cellsL]))) ?_
      refine e_eff rfl (by intro cs b hc; cases hc) (by intro c hc; cases hc) ?_
      refine op_v (v_assign rfl) rfl ?_
      refine ops_nil ?_
      refine e_next rfl (side_nil (by kernel_rfl)) ?_
      refine e_done ?_
      refine PostJ.view ((View.perm (List.Perm.swap _ _ _)).trans (View.sub (List.Sublist.cons_cons _ (List.Sublist.cons_cons _ (List.nil_sublist _))))) ?_
      exact post_meet _ ⟨b11, b13, rfl, rfl, rfl⟩ ⟨rfl, rfl, rfl, rfl, trivial⟩
    · refine o_buildSlice (xs := [(Go.Operand.tmp 12)]) Try.underlying45 bs47 rfl rfl rfl rfl rfl (fun b13 => ?_)
      refine ops_nil ?_
      refine e_next rfl (side_all Imm.leA (fun _ => (by intro x hx; simp only [List.mem_cons, List.not_mem_nil, or_false] at hx; rcases hx with rfl | rfl <;> simp [cellsL]))) ?_
      refine e_eff rfl (by intro cs b hc; cases hc) (by intro c hc; cases hc) ?_
      refine o_buildSlice (xs := [(Go.Operand.tmp 10)]) Try.underlying45 bs47 rfl rfl rfl rfl rfl (fun b11 => ?_)
      refine ops_nil ?_
      refine e_next rfl (side_nil (by kernel_rfl)) ?_
      refine e_eff rfl (by intro cs b hc; cases hc) (by intro c hc; cases hc) ?_
      refine op_v (v_assign rfl) rfl ?_
      refine ops_nil ?_
      refine e_next rfl (side_nil (by kernel_rfl)) ?_
      refine e_eff rfl (by intro cs b hc; cases hc) (by intro c hc; cases hc) ?_
      refine op_v (v_assign rfl) rfl ?_
      refine ops_nil ?_
      refine e_next rfl (side_nil (by kernel_rfl)) ?_
      refine e_done ?_
      refine PostJ.view (View.sub (List.Sublist.cons_cons _ (List.Sublist.cons_cons _ (List.nil_sublist _)))) ?_
      exact post_meet _ ⟨b11, b13, rfl, rfl, rfl⟩ ⟨rfl, rfl, rfl, rfl, trivial⟩
  · rintro _ _ _ ⟨b11, b13, rfl, rfl, rfl⟩
    refine code_seq ?_
    refine code_block ?_
    refine code_loop (fun m σ' I' δ' => ∃ (ls rs : List T) (la ra : Option Addr) (lc rc : Nat) (xs ys : List Value), m = sizeL ls ∧ ls.length = rs.length ∧ σ' = [(5, .slice la ls.length lc), (6, .slice ra ls.length rc)] ∧ I.le I' ∧ δ' = [.row (.slice la ls.length lc) 47 2 ls.length xs, .row (.slice ra ls.length rc) 47 2 ls.length ys] ∧ RowT I' xs ls ∧ RowT I' ys rs ∧ sizeL ls ≤ t.size ∧ (t = u ↔ ls = rs)) (sizeL [t]) [(5, .slice (some ⟨b11, 0, none⟩) 1 1), (6, .slice (some ⟨b13, 0, none⟩) 1 1)] ⟨[t], [u], _, _, _, _, _, _, rfl, rfl, rfl, Imm.le_refl _, rfl, RowT.one hv, RowT.one hw, by simp [sizeL], by simp⟩ ⟨rfl, rfl, trivial⟩ ?_
    rintro m _ I0 _ ⟨ls, rs, la, ra, lc, rc, xs, ys, rfl, hlr, rfl, hI0, rfl, hrl, hrr, hsz, hiff⟩
    refine code_seq ?_
    refine code_seq ?_
    refine code_region ?_
    refine op_v (v_move rfl) rfl ?_
    refine op_v (v_len Try.underlying45 rfl) rfl ?_
    refine op_v (v_cmp rfl rfl rfl) rfl ?_
    refine ops_nil ?_
    refine post_next ?_
    refine code_cond rfl (fun hc0 => ?_) (fun hc0 => ?_)
    · rcases List.eq_nil_or_concat ls with rfl | ⟨ls', x, rfl⟩
      · simp at hc0
      rcases List.eq_nil_or_concat rs with rfl | ⟨rs', y, rfl⟩
      · simp at hlr
      rw [List.concat_eq_append] at *
      rw [List.concat_eq_append] at *
      have hlen : (ls' ++ [x]).length = ls'.length + 1 := by simp
      have hlr' : ls'.length = rs'.length := by simpa using hlr
      rw [hlen]
      obtain ⟨⟨xa, xc⟩, hldx, hrx⟩ := hrl.last
      obtain ⟨⟨ya, yc⟩, hldy, hry⟩ := hrr.last
      rw [← hlr'] at hldy
      have hrl' := hrl.take
      have hrr' := hrr.take
      rw [← hlr'] at hrr'
      dsimp only at hldx hldy hrx hry
      have hszl := sizeL_len ls'
      have hszx := sizeL_len x.args
      have hsx : x.size = 1 + sizeL x.args := by cases x; simp [T.size, T.args]
      have hap := sizeL_app ls' [x]
      have hap2 := sizeL_app ls' x.args
      simp only [sizeL, Nat.add_zero] at hap
      refine code_skip ?_
      refine post_next ?_
      refine code_block ?_
      refine code_seq ?_
      refine code_region ?_
      refine OpsJ.rowSome Has.here (by omega) (fun hA hcl => ?_)
      refine OpsJ.rowSome (Has.there Has.here) (by omega) (fun hB hcr => ?_)
      refine op_v (v_move rfl) rfl ?_
      refine op_v (v_len Try.underlying45 rfl) rfl ?_
      refine op_v (v_subb rfl rfl rfl (by omega)) rfl ?_
      rw [show ((ls'.length + 1 : Nat) : Int) - 1 = (ls'.length : Nat) by omega]
      refine op_v (v_assign rfl) rfl ?_
      refine ops_nil ?_
      refine post_next ?_
      refine code_seq_meet (fun σ' I' δ' => ∃ b8 b9 : Nat, σ' = [(5, .slice la (ls'.length + 1) lc), (6, .slice ra (ls'.length + 1) rc), (7, .int .i64 (ls'.length : Nat)), (8, .pointer (some ⟨b8, 0, none⟩)), (9, .pointer (some ⟨b9, 0, none⟩))] ∧ I0 = I' ∧ δ' = [.box b8 47 [.int .i64 x.head, .slice xa x.args.length xc], .box b9 47 [.int .i64 y.head, .slice ya y.args.length yc], .row (.slice la (ls'.length + 1) lc) 47 2 (ls'.length + 1) xs, .row (.slice ra (ls'.length + 1) rc) 47 2 (ls'.length + 1) ys]) ?_ ?_
      · refine code_draw (.fl 0 (.fl 1 (.fl 2 (.fl 3 (.fl 4 (.fl 5 (.fl 6 (.fl 7 (.two 8 9 (.ef 9 (.ef 10 (.ef 11 .done))) (.ef 8 (.ef 10 (.ef 11 .done)))))))))))) (fun _ => _) mixed (by kernel_rfl) (by kernel_rfl) (fun _ => (List.Sublist.refl _)) ?_
        refine e_fl rfl rfl (fun hs_ => PF.mk rfl (v_move rfl) hs_) ?_
        refine e_fl rfl rfl (fun hs_ => PF.mk rfl (v_move rfl) hs_) ?_
        refine e_fl rfl rfl (fun hs_ => PF.mk rfl (v_indexA Try.underlying45 sz47 rfl rfl) hs_) ?_
        refine e_fl rfl rfl (fun hs_ => PF.mk rfl (v_loadRow ty47 rfl Has.here hA hldx) hs_) ?_
        refine e_fl rfl rfl (fun hs_ => PF.mk rfl (v_move rfl) hs_) ?_
        refine e_fl rfl rfl (fun hs_ => PF.mk rfl (v_move rfl) hs_) ?_
        refine e_fl rfl rfl (fun hs_ => PF.mk rfl (v_indexA Try.underlying45 sz47 rfl rfl) hs_) ?_
        refine e_fl rfl rfl (fun hs_ => PF.mk rfl (v_loadRow ty47 rfl (Has.there Has.here) hB hldy) hs_) ?_
        refine e_two rfl (by intro cs b hc; cases hc) (by intro c hc; cases hc) rfl (by intro cs b hc; cases hc) (by intro c hc; cases hc) ?_ ?_
        · refine o_alloc z47 rfl rfl (fun b8 => ?_)
          refine ops_nil ?_
          refine e_next rfl side_allA ?_
          refine e_eff rfl (by intro cs b hc; cases hc) (by intro c hc; cases hc) ?_
          refine o_alloc z47 rfl rfl (fun b9 => ?_)
          refine ops_nil ?_
          refine e_next rfl side_allA ?_
          refine e_eff rfl (by intro cs b hc; cases hc) (by intro c hc; cases hc) ?_
          refine o_store ty47 rfl rfl rfl rfl rfl (by repeat (first | exact Swap.here | apply Swap.there)) rfl ?_
          refine ops_nil ?_
          refine e_next_ side_allA ?_
          refine e_eff rfl (by intro cs b hc; cases hc) (by intro c hc; cases hc) ?_
          refine o_store ty47 rfl rfl rfl rfl rfl (by repeat (first | exact Swap.here | apply Swap.there)) rfl ?_
          refine ops_nil ?_
          refine e_next_ (side_nil (by kernel_rfl)) ?_
          refine e_done ?_
          refine PostJ.view (View.perm (List.Perm.swap _ _ _)) ?_
          exact post_meet _ ⟨b8, b9, rfl, rfl, rfl⟩ ⟨rfl, rfl, rfl, rfl, rfl, trivial⟩
        · refine o_alloc z47 rfl rfl (fun b9 => ?_)
          refine ops_nil ?_
          refine e_next rfl side_allA ?_
          refine e_eff rfl (by intro cs b hc; cases hc) (by intro c hc; cases hc) ?_
          refine o_alloc z47 rfl rfl (fun b8 => ?_)
          refine ops_nil ?_
          refine e_next rfl side_allA ?_
          refine e_eff rfl (by intro cs b hc; cases hc) (by intro c hc; cases hc) ?_
          refine o_store ty47 rfl rfl rfl rfl rfl (by repeat (first | exact Swap.here | apply Swap.there)) rfl ?_
          refine ops_nil ?_
          refine e_next_ side_allA ?_
          refine e_eff rfl (by intro cs b hc; cases hc) (by intro c hc; cases hc) ?_
          refine o_store ty47 rfl rfl rfl rfl rfl (by repeat (first | exact Swap.here | apply Swap.there)) rfl ?_
          refine ops_nil ?_
          refine e_next_ (side_nil (by kernel_rfl)) ?_
          refine e_done ?_
          exact post_meet _ ⟨b8, b9, rfl, rfl, rfl⟩ ⟨rfl, rfl, rfl, rfl, rfl, trivial⟩
      · rintro _ _ _ ⟨b8, b9, rfl, rfl, rfl⟩
        refine code_seq ?_
        refine code_draw (.fl 0 (.fl 1 (.fl 2 (.fl 3 (.fl 4 (.fl 5 (.ef 6 (.ef 7 .done)))))))) (fun _ => _) mixed (by kernel_rfl) (by kernel_rfl) (fun _ => (List.Sublist.refl _)) ?_
        refine e_fl rfl rfl (fun hs_ => PF.mk rfl (v_move rfl) hs_) ?_
        refine e_fl rfl rfl (fun hs_ => PF.mk rfl (v_move rfl) hs_) ?_
        refine e_fl rfl rfl (fun hs_ => PF.mk rfl (v_sliceTo Try.underlying45 sz47 rfl rfl (by omega)) hs_) ?_
        refine e_fl rfl rfl (fun hs_ => PF.mk rfl (v_move rfl) hs_) ?_
        refine e_fl rfl rfl (fun hs_ => PF.mk rfl (v_move rfl) hs_) ?_
        refine e_fl rfl rfl (fun hs_ => PF.mk rfl (v_sliceTo Try.underlying45 sz47 rfl rfl (by omega)) hs_) ?_
        refine e_eff rfl (by intro cs b hc; cases hc) (by intro c hc; cases hc) ?_
        refine op_v (v_assign rfl) rfl ?_
        refine ops_nil ?_
        refine e_next rfl side_allA ?_
        refine e_eff rfl (by intro cs b hc; cases hc) (by intro c hc; cases hc) ?_
        refine op_v (v_assign rfl) rfl ?_
        refine ops_nil ?_
        refine e_next rfl (side_nil (by kernel_rfl)) ?_
        refine e_done ?_
        refine post_next ?_
        refine code_seq ?_
        refine code_seq ?_
        refine code_region ?_
        refine OpsJ.view ((View.short _ (Swap.there (Swap.there Swap.here)) (Nat.le_succ _)).trans (View.short _ (Swap.there (Swap.there (Swap.there Swap.here))) (Nat.le_succ _))) ?_
        refine op_v (v_fieldB 0 Try.underlying47 rfl rfl fz3 rfl) rfl ?_
        refine op_v (v_loadA ty3 rfl rfl) rfl ?_
        refine op_v (v_fieldB 0 Try.underlying47 rfl rfl fz3 rfl) rfl ?_
        refine op_v (v_loadA ty3 rfl rfl) rfl ?_
        by_cases hh : x.head ≠ y.head
        · refine op_v (v_cmptA rfl rfl rfl) rfl ?_
          refine op_v (v_move rfl) rfl ?_
          refine op_skip rfl rfl (by simp [undef]) rfl ?_
          refine op_skip rfl rfl (by simp [undef]) rfl ?_
          refine op_skip rfl rfl (by simp [undef]) rfl ?_
          refine op_skip rfl rfl (by simp [undef]) rfl ?_
          refine op_skip rfl rfl (by simp [undef]) rfl ?_
          refine op_skip rfl rfl (by simp [undef]) rfl ?_
          refine op_skip rfl rfl (by simp [undef]) rfl ?_
          refine op_v (v_pickt rfl rfl) rfl ?_
          refine ops_nil ?_
          refine post_next ?_
          refine code_cond_t rfl ?_
          refine code_seq ?_
          refine code_region ?_
          refine op_v (v_assign rfl) rfl ?_
          refine ops_nil ?_
          refine post_next ?_
          refine code_ret ?_
          refine post_ret_then ?_
          refine post_ret_block ?_
          refine post_ret_then ?_
          refine post_ret_block ?_
          refine post_ret_then ?_
          refine post_ret (rs := [.tmp 4]) rfl (List.Perm.refl _) (.cons (.tmp rfl) .nil) (List.nil_sublist _) ?_
          exact ⟨bool_f fun e => hh (by have := hiff.1 e; have := (List.append_inj this hlr').2; simp at this; rw [this]), rfl⟩
        · refine op_v (v_cmpfA rfl rfl rfl) rfl ?_
          refine op_v (v_move rfl) rfl ?_
          first
            | (refine op_want rfl rfl ?_
               refine op_v (v_fieldB 1 Try.underlying47 rfl rfl fz45 rfl) rfl ?_)
            | (refine op_skip rfl rfl (by simp [undef]) rfl ?_)
          refine op_want rfl rfl ?_
          refine op_v (v_loadA ty45 rfl rfl) rfl ?_
          refine op_want rfl rfl ?_
          refine op_v (v_len Try.underlying45 rfl) rfl ?_
          first
            | (refine op_want rfl rfl ?_
               refine op_v (v_fieldB 1 Try.underlying47 rfl rfl fz45 rfl) rfl ?_)
            | (refine op_skip rfl rfl (by simp [undef]) rfl ?_)
          refine op_want rfl rfl ?_
          refine op_v (v_loadA ty45 rfl rfl) rfl ?_
          refine op_want rfl rfl ?_
          refine op_v (v_len Try.underlying45 rfl) rfl ?_
          by_cases hn : x.args.length ≠ y.args.length
          · first
              | (refine op_want rfl rfl ?_
                 refine op_v (v_cmptA rfl rfl rfl) rfl ?_)
              | (refine op_skip rfl rfl (by simp [undef]) rfl ?_)
            refine op_v (v_pickf rfl rfl) rfl ?_
            refine ops_nil ?_
            refine post_next ?_
            refine code_cond_t rfl ?_
            refine code_seq ?_
            refine code_region ?_
            refine op_v (v_assign rfl) rfl ?_
            refine ops_nil ?_
            refine post_next ?_
            refine code_ret ?_
            refine post_ret_then ?_
            refine post_ret_block ?_
            refine post_ret_then ?_
            refine post_ret_block ?_
            refine post_ret_then ?_
            refine post_ret (rs := [.tmp 4]) rfl (List.Perm.refl _) (.cons (.tmp rfl) .nil) (List.nil_sublist _) ?_
            exact ⟨bool_f fun e => hn (by have := hiff.1 e; have := (List.append_inj this hlr').2; simp at this; rw [this]), rfl⟩
          · first
              | (refine op_want rfl rfl ?_
                 refine op_v (v_cmpfA rfl rfl rfl) rfl ?_)
              | (refine op_skip rfl rfl (by simp [undef]) rfl ?_)
            refine op_v (v_pickf rfl rfl) rfl ?_
            refine ops_nil ?_
            refine post_next ?_
            refine code_cond_f rfl ?_
            refine code_skip ?_
            refine post_next ?_
            refine code_draw (.fl 0 (.fl 1 (.fl 2 (.fl 4 (.fl 5 (.fl 6 (.ef 3 (.ef 7 (.ef 8 (.ef 9 .done)))))))))) (fun _ => [.box b8 47 [.int .i64 x.head, .slice xa x.args.length xc], .box b9 47 [.int .i64 y.head, .slice ya y.args.length yc]]) mixed (by kernel_rfl) (by kernel_rfl) (fun _ => (List.Sublist.cons_cons _ (List.Sublist.cons_cons _ (List.nil_sublist _)))) ?_
            refine e_fl rfl rfl (fun hs_ => PF.mk rfl (v_move rfl) hs_) ?_
            refine e_fl rfl rfl (fun hs_ => PF.mk rfl (v_fieldB 1 Try.underlying47 rfl rfl fz45 rfl) hs_) ?_
            refine e_fl rfl rfl (fun hs_ => PF.mk rfl (v_loadA ty45 rfl rfl) hs_) ?_
            refine e_fl rfl rfl (fun hs_ => PF.mk rfl (v_move rfl) hs_) ?_
            refine e_fl rfl rfl (fun hs_ => PF.mk rfl (v_fieldB 1 Try.underlying47 rfl rfl fz45 rfl) hs_) ?_
            refine e_fl rfl rfl (fun hs_ => PF.mk rfl (v_loadA ty45 rfl rfl) hs_) ?_
            refine e_eff rfl (by intro cs b hc; cases hc) (by intro c hc; cases hc) ?_
            obtain ⟨_, _, _, _, hubx, ssx, huax, husubx⟩ := hrx.open
            obtain ⟨_, _, _, _, huby, ssy, huay, husuby⟩ := hry.open
            obtain ⟨hcx, hrowx⟩ := RowT.of huax husubx
            obtain ⟨hcy, hrowy⟩ := RowT.of huay husuby
            have hh' : x.head = y.head := by omega
            have hn' : x.args.length = y.args.length := by omega
            refine o_append Try.underlying45 bs47 rfl rfl rfl (fun v' => by repeat (first | exact Swap.here | apply Swap.there)) (Src.ofI hcx) (rowsT_length _ _) (rowsT_one _ _) (by omega) (by omega) (fun a51 c51 => ?_)
            refine ops_nil ?_
            refine e_next rfl side_allA ?_
            refine e_eff rfl (by intro cs b hc; cases hc) (by intro c hc; cases hc) ?_
            refine o_append Try.underlying45 bs47 rfl rfl rfl (fun v' => by repeat (first | exact Swap.here | apply Swap.there)) (Src.ofI hcy) (rowsT_length _ _) (rowsT_one _ _) (by omega) (by omega) (fun a55 c55 => ?_)
            refine ops_nil ?_
            refine e_next rfl side_allA ?_
            refine e_eff rfl (by intro cs b hc; cases hc) (by intro c hc; cases hc) ?_
            refine op_v (v_assign rfl) rfl ?_
            refine ops_nil ?_
            refine e_next rfl side_allA ?_
            refine e_eff rfl (by intro cs b hc; cases hc) (by intro c hc; cases hc) ?_
            refine op_v (v_assign rfl) rfl ?_
            refine ops_nil ?_
            refine e_next rfl (side_nil (by kernel_rfl)) ?_
            refine e_done ?_
            refine post_out ?_
            refine PostJ.view ((View.drop Del.here).trans (View.drop Del.here)) ?_
            rw [← hn']
            have hl1 : ls'.length + x.args.length = (ls' ++ x.args).length := by simp
            rw [hl1]
            refine post_again (sizeL (ls' ++ x.args)) [(5, .slice a51 (ls' ++ x.args).length c51), (6, .slice a55 (ls' ++ x.args).length c55)] (by omega) ⟨ls' ++ x.args, rs' ++ y.args, a51, a55, c51, c55, _, _, rfl, by simp; omega, rfl, hI0, rfl, hrl'.app hrowx, hrr'.app hrowy, by omega, hiff.trans (same_cons hlr' hh' hn')⟩ ⟨rfl, rfl, trivial⟩
    · have hls : ls = [] := by simpa using hc0
      subst hls
      have hrs : rs = [] := List.eq_nil_of_length_eq_zero (by simpa using hlr.symm)
      refine code_exit ?_
      refine post_exit_then ?_
      refine post_exit_then ?_
      refine post_exit ?_
      refine post_next ?_
      refine code_seq ?_
      refine code_region ?_
      refine op_v (v_assign rfl) rfl ?_
      refine ops_nil ?_
      refine post_next ?_
      refine code_ret ?_
      refine post_ret (rs := [.tmp 4]) rfl (List.Perm.refl _) (.cons (.tmp rfl) .nil) (List.nil_sublist _) ?_
      exact ⟨bool_t (hiff.2 hrs.symm), rfl⟩
end Go.Proofs.Ytdbadicpbmndbaa
/- Walk: how two terms stand, by the program. -/
set_option linter.unusedVariables false
set_option linter.unusedSimpArgs false
/- short -/
namespace Go.Proofs.Ytdbadicpbmndbaa
open Go Lg

/-! ### a scope of labels that nothing jumps to -/
/-! ### the model -/
theorem size_eqT (t : T) : t.size = 1 + sizeL t.args := by cases t; simp [T.size, T.args]
end Go.Proofs.Ytdbadicpbmndbaa
/- Walks: a symbol among others, a signature's rightness. -/
set_option linter.unusedVariables false
set_option linter.unusedSimpArgs false
/- short -/
namespace Go.Proofs.Ytdbadicpbmndbaa
open Go Lg

end Go.Proofs.Ytdbadicpbmndbaa
/- Walks: a signature's rightness, by the program. -/
set_option linter.unusedVariables false
set_option linter.unusedSimpArgs false
/- short -/
namespace Go.Proofs.Ytdbadicpbmndbaa
open Go Lg

def truthS : Sy := ⟨⟨#[36, 116, 114, 117, 101]⟩, 0, 1, true⟩
def badS (pre : List Sy) (x : Sy) : Bool := nmEq x.name ⟨#[]⟩ || (decide (64 < x.name.size) || ((pre.any fun s => nmEq s.name x.name) || (decide (x.ar < 0) || (decide (8 < x.ar) || (decide (x.wt < 1) || decide (1000 < x.wt))))))
def goodL : List Sy → List Sy → Bool
  | _, [] => true
  | pre, x :: r => !badS pre x && goodL (pre ++ [x]) r
def rightG (gs : List Sy) : Bool := match gs with
  | [] => false
  | x :: r => decide ((x :: r).length ≤ 256) && (syEq x truthS && goodL [] (x :: r))
theorem goodL_at : ∀ (pre gs : List Sy), goodL pre gs = true ↔ ∀ i (h : i < gs.length), badS (pre ++ gs.take i) gs[i] = false
  | pre, [] => by simp [goodL]
  | pre, x :: r => by
    simp only [goodL, Bool.and_eq_true, Bool.not_eq_true', goodL_at (pre ++ [x]) r]
    constructor
    · rintro ⟨h1, h2⟩ i hi
      cases i with
      | zero => simpa using h1
      | succ i => have := h2 i (by simpa using hi); simpa using this
    · intro h
      have h0 : badS pre x = false := by
        have := h 0 (by simp)
        simp only [List.take_zero, List.append_nil, List.getElem_cons_zero] at this
        exact this
      refine ⟨h0, fun i hi => ?_⟩
      have := h (i + 1) (by simpa using hi)
      simpa using this
theorem rightG_at {gs : List Sy} (h : rightG gs = true) (i : Nat) (hi : i < gs.length) : badS (gs.take i) gs[i] = false := by
  cases gs with
  | nil => simp at hi
  | cons x r =>
    simp only [rightG, Bool.and_eq_true] at h
    have := (goodL_at [] (x :: r)).1 h.2.2 i hi
    simpa using this
end Go.Proofs.Ytdbadicpbmndbaa
/- How a substitution lies in memory; what stands for a variable. Plain definitions; no condition. -/
set_option linter.unusedVariables false
set_option linter.unusedSimpArgs false
/- short -/
namespace Go.Proofs.Ytdbadicpbmndbaa
open Go Lg

abbrev Bi := Int × T
/-- a substitution that is only read -/
inductive RepB (I : Imm) : Value → List Bi → Prop
  | mk (ad : Option Addr) (c : Nat) (ss : Nat → Option Addr × Nat) (bs : List Bi) (hc : bs.length ≤ c) (hb : bs.length ≤ 4398046511104)
      (hat : ∀ i (h : i < bs.length), At I ad (i * 3) [.int .i64 bs[i].1, .int .i64 bs[i].2.head, .slice (ss i).1 bs[i].2.args.length (ss i).2]) (hr : ∀ i (h : i < bs.length), InR bs[i].1)
      (hsub : ∀ i (h : i < bs.length), RepT I (.agg #[.int .i64 bs[i].2.head, .slice (ss i).1 bs[i].2.args.length (ss i).2]) bs[i].2) : RepB I (.slice ad bs.length c) bs
theorem RepB.mono {I J : Imm} {v : Value} {bs : List Bi} (h : RepB I v bs) (hl : I.le J) : RepB J v bs := by
  obtain ⟨ad, c, ss, bs, hc, hb, hat, hr, hsub⟩ := h
  exact ⟨ad, c, ss, bs, hc, hb, fun i h => (hat i h).mono hl, hr, fun i h => (hsub i h).mono hl⟩
theorem RepB.shape {I : Imm} {v : Value} {bs : List Bi} (h : RepB I v bs) : ∃ ad c, v = .slice ad bs.length c := by
  obtain ⟨ad, c, ss, bs, _, _, _, _, _⟩ := h; exact ⟨ad, c, rfl⟩
theorem RepB.open {I : Imm} {ad : Option Addr} {n c : Nat} {bs : List Bi} (h : RepB I (.slice ad n c) bs) : n = bs.length ∧ bs.length ≤ c ∧ bs.length ≤ 4398046511104 ∧ (∀ i (h : i < bs.length), InR bs[i].1) ∧ ∃ ss : Nat → Option Addr × Nat,
    (∀ i (h : i < bs.length), At I ad (i * 3) [.int .i64 bs[i].1, .int .i64 bs[i].2.head, .slice (ss i).1 bs[i].2.args.length (ss i).2]) ∧
    (∀ i (h : i < bs.length), RepT I (.agg #[.int .i64 bs[i].2.head, .slice (ss i).1 bs[i].2.args.length (ss i).2]) bs[i].2) := by
  generalize e : Value.slice ad n c = v at h
  obtain ⟨ad', c', ss, bs, hc, hb, hat, hr, hsub⟩ := h
  cases e
  exact ⟨rfl, hc, hb, hr, ss, hat, hsub⟩

/-- the first bind of a variable -/
def ofB : List Bi → Int → Option T
  | [], _ => none
  | (v, t) :: r, x => if v = x then some t else ofB r x
/-- a map holds binds -/
def MB (I : Imm) (xs : Mp) (bs : List Bi) : Prop := ∀ v, (ofB bs v = none → mget xs v = none) ∧ ∀ t, ofB bs v = some t → ∃ u, mget xs v = some u ∧ RepT I u t
theorem MB.mono {I J : Imm} {xs : Mp} {bs : List Bi} (h : MB I xs bs) (hl : I.le J) : MB J xs bs :=
  fun v => ⟨(h v).1, fun t ht => let ⟨u, h1, h2⟩ := (h v).2 t ht; ⟨u, h1, h2.mono hl⟩⟩
theorem MB.nil (I : Imm) : MB I [] [] := fun v => ⟨fun _ => rfl, fun t ht => by simp [ofB] at ht⟩
theorem MB.put {I : Imm} {xs : Mp} {bs : List Bi} {v : Int} {t : T} {u : Value} (h : MB I xs bs) (hu : RepT I u t) : MB I (mput xs v u) ((v, t) :: bs) := fun x => by
  rw [mget_mput]
  simp only [ofB]
  by_cases e : v = x
  · rw [if_pos e, if_pos e]
    exact ⟨fun h => (by cases h), fun t' ht => (by cases ht; exact ⟨u, rfl, hu⟩)⟩
  · rw [if_neg e, if_neg e]; exact h x
def ofT (bs : List Bi) (t : T) : T := (ofB bs (-1 - t.head)).getD t

/-! ### a range over binds from behind -/
end Go.Proofs.Ytdbadicpbmndbaa
/- Rows of binds. Plain definitions; no condition. -/
set_option linter.unusedVariables false
set_option linter.unusedSimpArgs false
namespace Go.Proofs.Ytdbadicpbmndbaa
open Go Lg

abbrev biC (b : Bi) (a : Option Addr) (c : Nat) : List Value := [.int .i64 b.1, .int .i64 b.2.head, .slice a b.2.args.length c]
def BindE : Elt 3 Bi where
  R := fun I b vs => InR b.1 ∧ ∃ (a : Option Addr) (c : Nat), vs = biC b a c ∧ RepT I (.agg #[.int .i64 b.2.head, .slice a b.2.args.length c]) b.2
  len := by rintro I a vs ⟨_, la, lc, rfl, _⟩; rfl
  one := by
    rintro I a vs ⟨_, la, lc, rfl, _⟩ u hu
    simp only [List.mem_cons, List.not_mem_nil, or_false] at hu
    rcases hu with rfl | rfl | rfl <;> rfl
  mono := by rintro I J a vs hl ⟨h0, la, lc, rfl, h1⟩; exact ⟨h0, la, lc, rfl, h1.mono hl⟩
abbrev bdRow (A : Option Addr) (c n : Nat) (xs : List Value) : Ent := .row (.slice A n c) 54 3 n xs
theorem RowE.repB {I : Imm} {ad : Option Addr} {c : Nat} {xs : List Value} {bs : List Bi} (h : RowE BindE I xs bs) (hc : Cells I ad xs) (hle : bs.length ≤ c) (hb : bs.length ≤ 4398046511104) : RepB I (.slice ad bs.length c) bs := by
  have hex : ∃ ss : Nat → Option Addr × Nat, ∀ i (h : i < bs.length), InR bs[i].1 ∧ At I ad (i * 3) [.int .i64 bs[i].1, .int .i64 bs[i].2.head, .slice (ss i).1 bs[i].2.args.length (ss i).2] ∧ RepT I (.agg #[.int .i64 bs[i].2.head, .slice (ss i).1 bs[i].2.args.length (ss i).2]) bs[i].2 := by
    classical
    have key : ∀ i (hi : i < bs.length), ∃ s : Option Addr × Nat, InR bs[i].1 ∧ At I ad (i * 3) [.int .i64 bs[i].1, .int .i64 bs[i].2.head, .slice s.1 bs[i].2.args.length s.2] ∧ RepT I (.agg #[.int .i64 bs[i].2.head, .slice s.1 bs[i].2.args.length s.2]) bs[i].2 := fun i hi => by
      obtain ⟨vs, ⟨h0, a, n, rfl, hr⟩, hat⟩ := h.cellsAt hc hi
      exact ⟨(a, n), h0, hat, hr⟩
    exact ⟨fun i => if h : i < bs.length then (key i h).choose else (none, 0), fun i hi => by simp only [dif_pos hi]; exact (key i hi).choose_spec⟩
  obtain ⟨ss, hss⟩ := hex
  exact ⟨ad, c, ss, bs, hle, hb, fun i hi => (hss i hi).2.1, fun i hi => (hss i hi).1, fun i hi => (hss i hi).2.2⟩
theorem biL_rowE {I : Imm} : ∀ (bs : List Bi) (ss : Nat → Option Addr × Nat), (∀ i (h : i < bs.length), InR bs[i].1) → (∀ i (h : i < bs.length), RepT I (.agg #[.int .i64 bs[i].2.head, .slice (ss i).1 bs[i].2.args.length (ss i).2]) bs[i].2) → ∃ xs, RowE BindE I xs bs ∧ ∀ i (h : i < bs.length) j v, (biC bs[i] (ss i).1 (ss i).2)[j]? = some v → xs[i * 3 + j]? = some v
  | [], ss, _, _ => ⟨[], rfl, fun i h => by simp at h⟩
  | b :: r, ss, h0, h1 => by
    obtain ⟨xs, hx, hat⟩ := biL_rowE r (fun i => ss (i + 1)) (fun i hi => h0 (i + 1) (by simpa using hi)) (fun i hi => h1 (i + 1) (by simpa using hi))
    refine ⟨biC b (ss 0).1 (ss 0).2 ++ xs, ⟨_, _, rfl, ⟨h0 0 (by simp), _, _, rfl, h1 0 (by simp)⟩, hx⟩, fun i hi j v hj => ?_⟩
    cases i with
    | zero =>
      simp only [List.getElem_cons_zero] at hj
      rw [List.getElem?_append_left (by have := (List.getElem?_eq_some_iff.1 hj).1; simpa using this)]
      simpa using hj
    | succ i =>
      simp only [List.getElem_cons_succ] at hj
      rw [List.getElem?_append_right (by simp; omega)]
      have := hat i (by simpa using hi) j v hj
      rw [← this]; congr 1; simp; omega
theorem RepB.rowE {I : Imm} {v : Value} {bs : List Bi} (h : RepB I v bs) : ∃ (A : Option Addr) (c : Nat) (xs : List Value), v = .slice A bs.length c ∧ bs.length ≤ c ∧ bs.length ≤ 4398046511104 ∧ Cells I A xs ∧ RowE BindE I xs bs := by
  obtain ⟨ad, c, ss, bs, hc, hb, hat, hr, hsub⟩ := h
  obtain ⟨xs, hx, hx2⟩ := biL_rowE bs ss hr hsub
  refine ⟨ad, c, xs, rfl, hc, hb, fun j v hj => ?_, hx⟩
  have hlt : j < bs.length * 3 := by rw [← hx.length]; exact (List.getElem?_eq_some_iff.1 hj).1
  have hi : j / 3 < bs.length := by omega
  have hm : j = j / 3 * 3 + j % 3 := by omega
  have hm3 : j % 3 < 3 := by omega
  have hsome : ∃ u, (biC bs[j / 3] (ss (j / 3)).1 (ss (j / 3)).2)[j % 3]? = some u := by
    rw [List.getElem?_eq_getElem (by simpa using hm3)]; exact ⟨_, rfl⟩
  obtain ⟨u, hu⟩ := hsome
  have h1 := hx2 _ hi _ _ hu
  rw [← hm] at h1
  rw [h1] at hj
  cases hj
  have := hat _ hi (j % 3) v hu
  rw [← hm] at this
  exact this
end Go.Proofs.Ytdbadicpbmndbaa
/- Plain facts on parts of terms. No condition. -/
set_option linter.unusedVariables false
set_option linter.unusedSimpArgs false
namespace Go.Proofs.Ytdbadicpbmndbaa
open Go Lg

theorem depL_app (a b : List T) : depL (a ++ b) = max (depL a) (depL b) := by
  induction a with
  | nil => simp [depL]
  | cons x r ih => simp only [List.cons_append, depL, ih, Nat.max_assoc]
theorem depL_take (l : List T) (k : Nat) (h : k < l.length) : depL (l.take (k + 1)) = max (depL (l.take k)) (depT l[k]) := by
  rw [List.take_succ_eq_append_getElem h, depL_app]; simp [depL]
theorem depL_mem : ∀ (l : List T) (k : Nat) (h : k < l.length), depT l[k] ≤ depL l
  | t :: r, 0, _ => by simp only [depL, List.getElem_cons_zero]; omega
  | t :: r, k + 1, h => by have := depL_mem r k (by simpa using h); simp [depL]; omega
mutual
theorem any_T : ∀ (d e : Nat) (t : T), (partsT d t).any badN = (partsT e t).any badN
  | d, e, .mk h ts => by
    simp only [partsT, List.any_cons]
    rw [any_L (d + 1) (e + 1) ts]
    rfl
theorem any_L : ∀ (d e : Nat) (ts : List T), (partsL d ts).any badN = (partsL e ts).any badN
  | _, _, [] => rfl
  | d, e, t :: r => by simp only [partsL, List.any_append]; rw [any_T d e t, any_L d e r]
end
theorem any_mem : ∀ (d : Nat) (l : List T) (k : Nat) (h : k < l.length), (partsL d l).any badN = false → (partsT d l[k]).any badN = false
  | d, t :: r, 0, _, h => by simp only [partsL, List.any_append, Bool.or_eq_false_iff] at h; exact h.1
  | d, t :: r, k + 1, hk, h => by
    simp only [partsL, List.any_append, Bool.or_eq_false_iff] at h
    exact any_mem d r k (by simpa using hk) h.2
theorem chk_part {h : Int} {ts : List T} (hc : chkT (.mk h ts) = 0) (k : Nat) (hk : k < ts.length) : chkT ts[k] = 0 := by
  have h1 := sizeL_mem ts k hk
  have h2 := depL_mem ts k hk
  have hsz : (T.mk h ts).size = 1 + sizeL ts := by simp [T.size]
  have hdp : depT (T.mk h ts) = 1 + depL ts := by simp [depT]
  unfold chkT at hc
  rw [hsz, hdp] at hc
  by_cases q1 : 400 < 1 + sizeL ts
  · rw [if_pos q1] at hc; omega
  · rw [if_neg q1] at hc
    by_cases q2 : 40 < 1 + depL ts
    · rw [if_pos q2] at hc; omega
    · rw [if_neg q2] at hc
      by_cases q3 : (partsT 1 (.mk h ts)).any badN = true
      · rw [if_pos q3] at hc; omega
      · have q4 : (partsL 2 ts).any badN = false := by
          simp only [partsT, List.any_cons, Bool.or_eq_true, not_or] at q3
          simpa using q3.2
        have q5 := any_mem 2 ts k hk q4
        rw [any_T 2 1] at q5
        unfold chkT
        rw [if_neg (by omega), if_neg (by omega), q5]
        rfl

end Go.Proofs.Ytdbadicpbmndbaa
/- Walks: terms put in place of variables. -/
set_option linter.unusedVariables false
set_option linter.unusedSimpArgs false
/- short -/
namespace Go.Proofs.Ytdbadicpbmndbaa
open Go Lg

mutual
/-- a term with something in place of each variable -/
def rbT (f : T → T) : T → T
  | .mk h us => if h < 0 then f (.mk h us) else .mk h (rbL f us)
def rbL (f : T → T) : List T → List T
  | [] => []
  | t :: r => rbT f t :: rbL f r
end
theorem rbL_map (f : T → T) : ∀ us : List T, rbL f us = us.map (rbT f)
  | [] => rfl
  | t :: r => by simp [rbL, rbL_map f r]
/-! ### sizes -/
theorem ofB_mem : ∀ {bs : List Bi} {v : Int} {t : T}, ofB bs v = some t → ∃ b ∈ bs, b.1 = v ∧ b.2 = t
  | [], v, t, h => by simp [ofB] at h
  | (w, u) :: r, v, t, h => by
    simp only [ofB] at h
    split at h
    · cases h; exact ⟨(w, u), List.mem_cons_self .., by assumption, rfl⟩
    · obtain ⟨b, hb, h1⟩ := ofB_mem h; exact ⟨b, List.mem_cons_of_mem _ hb, h1⟩
def sbT (bs : List Bi) (t : T) : T := rbT (ofT bs) t
/-! ### rightness -/
def badBi (last : Int) (b : Bi) : Bool := decide (b.1 ≤ last) || (decide (255 < b.1) || (decide (chkT b.2 ≠ 0) || decide (b.2.head = -1 - b.1)))
def chkB (bs : List Bi) : Prop := ∀ i (h : i < bs.length), badBi (if i = 0 then -1 else (bs.getD (i - 1) (0, zeroT)).1) bs[i] = false
end Go.Proofs.Ytdbadicpbmndbaa
/- Matching: what stands for variables, and which literals are as which. Plain definitions and facts; no condition. -/
set_option linter.unusedVariables false
set_option linter.unusedSimpArgs false
namespace Go.Proofs.Ytdbadicpbmndbaa
open Go Lg

def pT (θ : Int → T) (t : T) : T := rbT (fun u => θ (-1 - u.head)) t
def pL (θ : Int → T) (ts : List T) : List T := rbL (fun u => θ (-1 - u.head)) ts
theorem pT_mk (θ : Int → T) (h : Int) (us : List T) : pT θ (.mk h us) = if h < 0 then θ (-1 - h) else .mk h (pL θ us) := by
  unfold pT pL; simp only [rbT, T.head]
theorem pT_neg {θ : Int → T} {t : T} (h : t.head < 0) : pT θ t = θ (-1 - t.head) := by
  obtain ⟨k, us⟩ := t; rw [pT_mk]; exact if_pos h
theorem pT_pos {θ : Int → T} {t : T} (h : ¬ t.head < 0) : pT θ t = .mk t.head (pL θ t.args) := by
  obtain ⟨k, us⟩ := t; rw [pT_mk]; exact if_neg h
theorem pL_map (θ : Int → T) (ts : List T) : pL θ ts = ts.map (pT θ) := rbL_map _ _
theorem pT_pos_eq {θ : Int → T} {p t : T} (h : ¬ p.head < 0) : pT θ p = t ↔ p.head = t.head ∧ p.args.length = t.args.length ∧ ∀ i (h1 : i < p.args.length) (h2 : i < t.args.length), pT θ p.args[i] = t.args[i] := by
  rw [pT_pos h]
  obtain ⟨k, us⟩ := t
  constructor
  · intro e
    have e1 : p.head = k := congrArg T.head e
    have e2 : pL θ p.args = us := congrArg T.args e
    refine ⟨e1, ?_, fun i h1 h2 => ?_⟩
    · show p.args.length = us.length
      rw [← e2, pL_map, List.length_map]
    · subst e2
      show pT θ p.args[i] = (pL θ p.args)[i]'h2
      simp only [pL_map, List.getElem_map]
  · rintro ⟨e1, e2, e3⟩
    have : pL θ p.args = us := by
      rw [pL_map]
      refine List.ext_getElem (by rw [List.length_map]; exact e2) fun i h1 h2 => ?_
      rw [List.getElem_map]
      exact e3 i (by simpa using h1) h2
    rw [this]
    show T.mk p.head us = T.mk k us
    rw [show p.head = k from e1]
/-- all binds are as said -/
def Ext (θ : Int → T) (bs : List Bi) : Prop := ∀ v t, ofB bs v = some t → θ v = t
theorem Ext_nil (θ : Int → T) : Ext θ [] := fun v t h => by simp [ofB] at h
theorem Ext_cons {θ : Int → T} {bs : List Bi} {v : Int} {t : T} (h : ofB bs v = none ∨ ofB bs v = some t) : Ext θ ((v, t) :: bs) ↔ Ext θ bs ∧ θ v = t := by
  constructor
  · intro hx
    have hv : θ v = t := hx v t (by simp [ofB])
    refine ⟨fun w u hw => ?_, hv⟩
    by_cases e : v = w
    · subst e
      rcases h with h | h
      · rw [h] at hw; cases hw
      · rw [h] at hw; cases hw; exact hv
    · exact hx w u (by simp only [ofB]; rw [if_neg e]; exact hw)
  · rintro ⟨hx, hv⟩ w u hw
    simp only [ofB] at hw
    by_cases e : v = w
    · rw [if_pos e] at hw; cases hw; rw [← e]; exact hv
    · rw [if_neg e] at hw; exact hx w u hw
theorem ofB_snoc : ∀ (bs : List Bi) (v : Int) (t : T) (w : Int), ofB (bs ++ [(v, t)]) w = (ofB bs w).or (if v = w then some t else none)
  | [], v, t, w => by simp [ofB]
  | (x, u) :: r, v, t, w => by
    simp only [List.cons_append, ofB]
    by_cases e : x = w
    · rw [if_pos e, if_pos e]; rfl
    · rw [if_neg e, if_neg e]; exact ofB_snoc r v t w
theorem Ext_snoc {θ : Int → T} {bs : List Bi} {v : Int} {t : T} (h : ofB bs v = none) : Ext θ (bs ++ [(v, t)]) ↔ Ext θ bs ∧ θ v = t := by
  rw [← Ext_cons (.inl h)]
  have : ∀ w, ofB (bs ++ [(v, t)]) w = ofB ((v, t) :: bs) w := fun w => by
    rw [ofB_snoc]
    simp only [ofB]
    by_cases e : v = w
    · subst e; rw [h]; simp
    · rw [if_neg e, if_neg e]; cases ofB bs w <;> rfl
  constructor
  · intro hx w u hw; exact hx w u (by rw [this]; exact hw)
  · intro hx w u hw; exact hx w u (by rw [← this]; exact hw)
theorem Ext_no {θ : Int → T} {bs : List Bi} {v : Int} {u t : T} (h : ofB bs v = some u) (hne : u ≠ t) : ¬ (Ext θ bs ∧ θ v = t) := fun ⟨hx, hv⟩ => hne ((hx v u h).symm.trans hv)
def SmB (bs : List Bi) : Prop := ∀ b ∈ bs, b.2.size ≤ 1000000000
theorem SmB.get {bs : List Bi} (h : SmB bs) {v : Int} {t : T} (e : ofB bs v = some t) : t.size ≤ 1000000000 := by
  obtain ⟨b, hb, _, rfl⟩ := ofB_mem e; exact h b hb
theorem SmB.cons {bs : List Bi} (h : SmB bs) {v : Int} {t : T} (ht : t.size ≤ 1000000000) : SmB ((v, t) :: bs) := fun b hb => by
  rcases List.mem_cons.1 hb with rfl | hb
  · exact ht
  · exact h b hb
theorem SmB.snoc {bs : List Bi} (h : SmB bs) {v : Int} {t : T} (ht : t.size ≤ 1000000000) : SmB (bs ++ [(v, t)]) := fun b hb => by
  rcases List.mem_append.1 hb with hb | hb
  · exact h b hb
  · simp at hb; subst hb; exact ht
/-! ### literals -/
def kindB (l : Li) : Bool := decide (l.l.head = 0) || decide (l.r.head = 0)
def litM (θ : Int → T) (a l : Li) : Prop := kindB a = kindB l ∧ ((pT θ a.l = l.l ∧ pT θ a.r = l.r) ∨ (pT θ a.l = l.r ∧ pT θ a.r = l.l))
def SubS (θ : Int → T) (d : List Li) : List Bool → List Li → Prop
  | _, [] => True
  | us, a :: r => ∃ (k : Nat) (h : k < d.length), us[k]? = some false ∧ d[k].neg = a.neg ∧ litM θ a d[k] ∧ SubS θ d (us.set k true) r
def SubB (bs : List Bi) (d : List Li) (us : List Bool) (c : List Li) : Prop := ∃ θ, Ext θ bs ∧ SubS θ d us c
/-- the literal at k will do -/
def SubK (bs : List Bi) (d : List Li) (us : List Bool) (a : Li) (r : List Li) (k : Nat) : Prop := ∃ (h : k < d.length), us[k]? = some false ∧ d[k].neg = a.neg ∧ ∃ θ, Ext θ bs ∧ litM θ a d[k] ∧ SubS θ d (us.set k true) r
theorem SubB_cons {bs : List Bi} {d : List Li} {us : List Bool} {a : Li} {r : List Li} : SubB bs d us (a :: r) ↔ ∃ k, SubK bs d us a r k := by
  constructor
  · rintro ⟨θ, h1, k, hk, h2, h3, h4, h5⟩; exact ⟨k, hk, h2, h3, θ, h1, h4, h5⟩
  · rintro ⟨k, hk, h2, h3, θ, h1, h4, h5⟩; exact ⟨θ, h1, k, hk, h2, h3, h4, h5⟩
theorem SubB_nil {bs : List Bi} {d : List Li} {us : List Bool} : SubB bs d us [] := ⟨fun v => (ofB bs v).getD zeroT, fun v t h => by simp [h], trivial⟩
/-! ### stacks of pairs -/
def StM (θ : Int → T) (xs ys : List T) : Prop := xs.length = ys.length ∧ ∀ i (h1 : i < xs.length) (h2 : i < ys.length), pT θ xs[i] = ys[i]
theorem StM_nil (θ : Int → T) : StM θ [] [] := ⟨rfl, fun i h => by simp at h⟩
theorem StM_snoc {θ : Int → T} {xs ys : List T} {x y : T} (hl : xs.length = ys.length) : StM θ (xs ++ [x]) (ys ++ [y]) ↔ StM θ xs ys ∧ pT θ x = y := by
  constructor
  · rintro ⟨h1, h2⟩
    refine ⟨⟨hl, fun i k1 k2 => ?_⟩, ?_⟩
    · have := h2 i (by simp; omega) (by simp; omega)
      rwa [List.getElem_append_left k1, List.getElem_append_left k2] at this
    · have := h2 xs.length (by simp) (by simp; omega)
      simpa [hl] using this
  · rintro ⟨⟨h1, h2⟩, h3⟩
    refine ⟨by simp [hl], fun i k1 k2 => ?_⟩
    by_cases q : i < xs.length
    · rw [List.getElem_append_left q, List.getElem_append_left (by omega)]; exact h2 i q (by omega)
    · have e : i = xs.length := by simp at k1; omega
      subst e
      simpa [hl] using h3
theorem StM_app {θ : Int → T} : ∀ {xs ys us vs : List T}, xs.length = ys.length → us.length = vs.length → (StM θ (xs ++ us) (ys ++ vs) ↔ StM θ xs ys ∧ StM θ us vs) := by
  intro xs ys us vs hl hk
  constructor
  · rintro ⟨h1, h2⟩
    refine ⟨⟨hl, fun i k1 k2 => ?_⟩, hk, fun i k1 k2 => ?_⟩
    · have := h2 i (by simp; omega) (by simp; omega)
      rwa [List.getElem_append_left k1, List.getElem_append_left k2] at this
    · have := h2 (xs.length + i) (by simp; omega) (by simp; omega)
      rw [List.getElem_append_right (by omega), List.getElem_append_right (by omega)] at this
      simpa [hl] using this
  · rintro ⟨⟨h1, h2⟩, h3, h4⟩
    refine ⟨by simp [hl, hk], fun i k1 k2 => ?_⟩
    by_cases q : i < xs.length
    · rw [List.getElem_append_left q, List.getElem_append_left (by omega)]; exact h2 i q (by omega)
    · rw [List.getElem_append_right (by omega), List.getElem_append_right (by omega)]
      have := h4 (i - xs.length) (by simp at k1; omega) (by simp at k2; omega)
      simpa [hl] using this
theorem pT_pos_st {θ : Int → T} {p t : T} (h : ¬ p.head < 0) (e1 : p.head = t.head) (e2 : p.args.length = t.args.length) : pT θ p = t ↔ StM θ p.args t.args := by
  rw [pT_pos_eq h]
  constructor
  · rintro ⟨_, _, h3⟩; exact ⟨e2, h3⟩
  · rintro ⟨_, h3⟩; exact ⟨e1, e2, h3⟩
end Go.Proofs.Ytdbadicpbmndbaa
/- Walks: the document's answer: what stands for each variable. -/
set_option linter.unusedVariables false
set_option linter.unusedSimpArgs false
set_option linter.unnecessarySimpa false
/- short -/
namespace Go.Proofs.Ytdbadicpbmndbaa
open Go Lg

theorem Lg.CodeJ.rowSome {C : Ctx} {Q : Exit → Act → World → Prop} {σ : Env} {ds : List Nat} {I : Imm} {δ : List Ent} {cd : Code} {A : Option Addr} {c n size : Nat} {e : TypeId} {xs : List Value} (hd : Has δ (.row (.slice A n c) e size n xs)) (hn : 0 < n)
    (h : A.isSome = true → n ≤ c → CodeJ C cd Q σ ds I δ) : CodeJ C cd Q σ ds I δ := by
  intro a w he hs ht
  have hr : w.ownsRow 0 e size (.slice A n c) n xs := hs.ents _ hd.mem
  rcases hr.2 with ⟨h1, h2⟩ | ⟨g, cap, cur, h1, _, _, h3, _⟩
  · omega
  · cases h1
    exact h rfl h3 a w he hs ht
theorem ofB_first : ∀ {bs : List Bi} {v : Int} (k : Nat) (h : k < bs.length), (∀ j (hj : j < bs.length), j < k → bs[j].1 ≠ v) → bs[k].1 = v → ofB bs v = some bs[k].2
  | (w, u) :: r, v, 0, _, _, e => by simp only [List.getElem_cons_zero] at e ⊢; simp only [ofB]; rw [if_pos e]
  | (w, u) :: r, v, k + 1, h, hn, e => by
    have h0 : ¬ w = v := hn 0 (by simp) (by omega)
    simp only [List.getElem_cons_succ] at e ⊢
    simp only [ofB]; rw [if_neg h0]
    exact ofB_first k (by simpa using h) (fun j hj hjk => by have := hn (j + 1) (by simpa using hj) (by omega); simpa using this) e
theorem ofB_noneL {bs : List Bi} {v : Int} (h : ∀ j (hj : j < bs.length), bs[j].1 ≠ v) : ofB bs v = none := by
  cases q : ofB bs v with
  | none => rfl
  | some t =>
    obtain ⟨b, hb, e, _⟩ := ofB_mem q
    obtain ⟨j, hj, rfl⟩ := List.getElem_of_mem hb
    exact absurd e (h j hj)
/-- what is gathered -/
def GaR (I' : Imm) (bs : List Bi) (n : Nat) (P : (Int → T) → Prop) (v : Value) (δ' : List Ent) : Prop :=
  (∃ (A : Option Addr) (c : Nat) (xs : List Value) (bs' : List Bi), v = .tuple #[.slice A bs'.length c, .bool true] ∧ δ' = [bdRow A c bs'.length xs] ∧ RowE BindE I' xs bs' ∧ SmB bs' ∧ bs'.length ≤ bs.length + n ∧ ∀ θ, Ext θ bs ∧ P θ ↔ Ext θ bs') ∨
  (∃ (A : Option Addr) (m c : Nat), v = .tuple #[.slice A m c, .bool false] ∧ ∀ θ, ¬ (Ext θ bs ∧ P θ))
theorem gather_does : ∀ (s : Nat) (p : T), p.size ≤ s → p.size ≤ 1000000 → ∀ (t : T), t.size ≤ 1000000 → ∀ (I : Imm) (vp vt : Value) (A : Option Addr) (c : Nat) (xs : List Value) (bs : List Bi), RepT I vp p → RepT I vt t → RowE BindE I xs bs → SmB bs → bs.length + p.size ≤ 1000000000 →
    Does Try.prog 175 [vp, vt, .slice A bs.length c] I [bdRow A c bs.length xs] (fun v I' δ' => GaR I' bs p.size (fun θ => pT θ p = t) v δ') := by
  intro s
  induction s with
  | zero => intro p hp; have := p.size_pos; omega
  | succ s ih =>
    intro p hps hpb t htb I vp vt A c xs bs hvp hvt hx hsb hbl
    obtain ⟨pa, pc, rfl, hpr⟩ := hvp.shape
    obtain ⟨ta, tc, rfl, htr⟩ := hvt.shape
    have hpr0 := hpr
    unfold InR at hpr0
    have hp1 := p.size_pos
    refine Does.intro Try.func175 rfl Try.ntmps175 rfl fun w0 => ?_
    refine code_seq ?_
    refine code_region ?_
    refine o_box rfl rfl rfl (fun b3 => ?_)
    refine o_box rfl rfl rfl (fun b4 => ?_)
    refine op_v (v_assign rfl) rfl ?_
    refine op_v (v_assign rfl) rfl ?_
    refine ops_nil ?_
    refine post_next ?_
    refine code_seq ?_
    refine code_seq ?_
    refine code_region ?_
    refine op_v (v_fieldB 0 Try.underlying47 rfl rfl fz3 rfl) rfl ?_
    refine op_v (v_loadA ty3 rfl rfl) rfl ?_
    by_cases hneg : p.head < 0
    · have hpt : ∀ θ, pT θ p = θ (-1 - p.head) := fun θ => pT_neg hneg
      refine op_v (v_cmptA rfl rfl rfl) rfl ?_
      refine ops_nil ?_
      refine post_next ?_
      refine code_cond_t rfl ?_
      refine code_seq ?_
      refine code_seq ?_
      refine code_region ?_
      refine op_v (v_assign rfl) rfl ?_
      refine ops_nil ?_
      refine post_next ?_
      refine code_block ?_
      refine CodeJ.view (View.perm (List.perm_append_comm (l₁ := [_, _]) (l₂ := [_]))) ?_
      refine code_loop (fun m σ' I' δ' => ∃ k : Nat, m = bs.length - k ∧ k ≤ bs.length ∧ σ' = [(2, .slice A bs.length c), (3, .pointer (some ⟨b3, 0, none⟩)), (4, .pointer (some ⟨b4, 0, none⟩)), (8, .int .i64 k)] ∧ I.le I' ∧ δ' = [bdRow A c bs.length xs, .box b4 47 [.int .i64 t.head, .slice ta t.args.length tc], .box b3 47 [.int .i64 p.head, .slice pa p.args.length pc]] ∧ ∀ j (hj : j < bs.length), j < k → bs[j].1 ≠ -1 - p.head) bs.length [(2, .slice A bs.length c), (3, .pointer (some ⟨b3, 0, none⟩)), (4, .pointer (some ⟨b4, 0, none⟩)), (8, .int .i64 (0 : Nat))] ⟨0, rfl, Nat.zero_le _, rfl, Imm.le_refl _, rfl, fun j _ h => by omega⟩ ⟨rfl, rfl, rfl, rfl, trivial⟩ ?_
      rintro m _ I0 _ ⟨k, rfl, hk, rfl, hI0, rfl, hno⟩
      refine code_seq ?_
      refine code_seq ?_
      refine code_region ?_
      refine op_v (v_move rfl) rfl ?_
      refine op_v (v_move rfl) rfl ?_
      refine op_v (v_len Try.underlying51 rfl) rfl ?_
      refine op_v (v_cmp rfl rfl rfl) rfl ?_
      refine ops_nil ?_
      refine post_next ?_
      refine code_cond rfl (fun hc1 => ?_) (fun hc1 => ?_)
      · have hlt : k < bs.length := by simpa using hc1
        obtain ⟨vs, ⟨hbr, sa, sc, rfl, hsr⟩, hat, rr, hdrop⟩ := hx.at hlt
        have hc0' := hat 0 _ rfl
        have hld : ld true 2 (xs.drop (k * 3 + 1)) = some (.agg #[.int .i64 bs[k].2.head, .slice sa bs[k].2.args.length sc]) := by rw [← List.drop_drop, hdrop]; rfl
        refine code_skip ?_
        refine post_next ?_
        refine code_seq ?_
        refine code_block ?_
        refine code_seq ?_
        refine CodeJ.rowSome Has.here (by omega) (fun hA hcr => ?_)
        refine code_draw (.fl 0 (.fl 1 (.fl 2 (.fl 3 (.fl 4 (.fl 5 (.fl 6 (.fl 7 (.fl 8 .done))))))))) (fun _ => _) mixed (by kernel_rfl) (by kernel_rfl) (fun _ => (List.Sublist.refl _)) ?_
        refine e_fl rfl rfl (fun hs_ => PF.mk rfl (v_move rfl) hs_) ?_
        refine e_fl rfl rfl (fun hs_ => PF.mk rfl (v_move rfl) hs_) ?_
        refine e_fl rfl rfl (fun hs_ => PF.mk rfl (v_indexA Try.underlying51 sz54 rfl rfl) hs_) ?_
        refine e_fl rfl rfl (fun hs_ => PF.mk rfl (v_fieldI 0 Try.underlying54 rfl rfl fz3 rfl (by assumption)) hs_) ?_
        refine e_fl rfl rfl (fun hs_ => PF.mk rfl (v_loadRow ty3 rfl Has.here hA (ld_at hc0')) hs_) ?_
        refine e_fl rfl rfl (fun hs_ => PF.mk rfl (v_fieldB 0 Try.underlying47 rfl rfl fz3 rfl) hs_) ?_
        refine e_fl rfl rfl (fun hs_ => PF.mk rfl (v_loadA ty3 rfl rfl) hs_) ?_
        refine e_fl rfl rfl (fun hs_ => PF.mk rfl (v_subb (c := -1 - p.head) rfl rfl rfl (by omega)) hs_) ?_
        by_cases h29 : bs[k].1 = -1 - p.head
        · have hof := ofB_first k hlt hno h29
          refine e_fl rfl rfl (fun hs_ => PF.mk rfl (v_cmptA rfl rfl rfl) hs_) ?_
          refine e_done ?_
          refine post_next ?_
          refine code_cond_t rfl ?_
          refine code_seq ?_
          refine code_draw (.fl 0 (.fl 1 (.fl 2 (.fl 3 (.fl 4 (.fl 5 (.fl 6 (.ef 7 (.ef 8 (.ef 9 .done)))))))))) (fun _ => _) mixed (by kernel_rfl) (by kernel_rfl) (fun _ => (List.Sublist.refl _)) ?_
          refine e_fl rfl rfl (fun hs_ => PF.mk rfl (v_move rfl) hs_) ?_
          refine e_fl rfl rfl (fun hs_ => PF.mk rfl (v_move rfl) hs_) ?_
          refine e_fl rfl rfl (fun hs_ => PF.mk rfl (v_move rfl) hs_) ?_
          refine e_fl rfl rfl (fun hs_ => PF.mk rfl (v_indexA Try.underlying51 sz54 rfl rfl) hs_) ?_
          refine e_fl rfl rfl (fun hs_ => PF.mk rfl (v_fieldI 1 Try.underlying54 rfl rfl fz47 rfl (by assumption)) hs_) ?_
          refine e_fl rfl rfl (fun hs_ => PF.mk rfl (v_loadRow (v := .agg #[.int .i64 bs[k].2.head, .slice sa bs[k].2.args.length sc]) ty47 rfl Has.here hA hld) hs_) ?_
          refine e_fl rfl rfl (fun hs_ => PF.mk rfl (v_loadA ty47 rfl rfl) hs_) ?_
          refine e_eff rfl (by intro cs b hc; cases hc) (by intro c hc; cases hc) ?_
          refine op_call pl76 rfl rfl ((Same_does _ _ _ _ _ (hsr.mono hI0) (hvt.mono hI0) (hsb.get hof) (by omega))) Parts.none ?_
          rintro v37 I37 _ hI37 ⟨rfl, rfl⟩
          refine ops_nil ?_
          refine e_next rfl side_allA ?_
          refine e_eff rfl (by intro cs b hc; cases hc) (by intro c hc; cases hc) ?_
          refine op_v (v_assign rfl) rfl ?_
          refine ops_nil ?_
          refine e_next rfl side_allA ?_
          refine e_eff rfl (by intro cs b hc; cases hc) (by intro c hc; cases hc) ?_
          refine op_v (v_assign rfl) rfl ?_
          refine ops_nil ?_
          refine e_next rfl (side_nil (by kernel_rfl)) ?_
          refine e_done ?_
          refine post_next ?_
          refine code_ret ?_
          refine post_ret_block ?_
          refine post_ret_then ?_
          refine post_ret_then ?_
          refine post_ret_block ?_
          refine post_ret_then ?_
          refine post_ret_then ?_
          refine post_ret (rs := [.tmp 6, .tmp 7]) rfl (List.Perm.refl _) (.cons (.tmp rfl) (.cons (.tmp rfl) .nil)) (List.Sublist.cons_cons _ (List.nil_sublist _)) ?_
          by_cases huy : bs[k].2 = t
          · exact .inl ⟨A, c, xs, bs, by rw [decide_eq_true huy]; rfl, rfl, hx.mono Imm.leA, hsb, by omega, fun θ => ⟨fun h => h.1, fun h => ⟨h, by show pT θ p = t; rw [hpt, h _ _ hof]; exact huy⟩⟩⟩
          · exact .inr ⟨A, bs.length, c, by rw [decide_eq_false huy]; rfl, fun θ h => Ext_no hof huy (by have h' : Ext θ bs ∧ pT θ p = t := h; rw [hpt θ] at h'; exact h')⟩
        · refine e_fl rfl rfl (fun hs_ => PF.mk rfl (v_cmpfA rfl rfl rfl) hs_) ?_
          refine e_done ?_
          refine post_next ?_
          refine code_cond_f rfl ?_
          refine code_skip ?_
          refine post_out ?_
          refine post_next ?_
          refine code_region ?_
          refine op_v (v_move rfl) rfl ?_
          refine op_v (v_addb rfl rfl rfl (by omega)) rfl ?_
          refine op_v (v_assign rfl) rfl ?_
          refine ops_nil ?_
          refine post_again (bs.length - (k + 1)) [(2, .slice A bs.length c), (3, .pointer (some ⟨b3, 0, none⟩)), (4, .pointer (some ⟨b4, 0, none⟩)), (8, .int .i64 (k + 1 : Nat))] (by omega) ⟨k + 1, rfl, hlt, rfl, Imm.leA, rfl, fun j hj hjk => ?_⟩ ⟨rfl, rfl, rfl, rfl, trivial⟩
          rcases Nat.lt_or_ge j k with q | q
          · exact hno j hj q
          · have e : j = k := by omega
            subst e; exact h29
      · have hge : k = bs.length := by simp at hc1; omega
        refine code_exit ?_
        refine post_exit_then ?_
        refine post_exit_then ?_
        refine post_exit ?_
        refine post_next ?_
        refine code_seq ?_
        refine code_region ?_
        refine op_v (v_move rfl) rfl ?_
        refine op_v (v_fieldB 0 Try.underlying47 rfl rfl fz3 rfl) rfl ?_
        refine op_v (v_loadA ty3 rfl rfl) rfl ?_
        refine op_v (v_subb (c := -1 - p.head) rfl rfl rfl (by omega)) rfl ?_
        refine op_v (v_loadA ty47 rfl rfl) rfl ?_
        refine op_v (v_build bl54 rfl rfl) rfl ?_
        refine o_buildSlice (xs := [(Go.Operand.tmp 43)]) Try.underlying51 bs54 rfl rfl rfl rfl rfl (fun b44 => ?_)
        have hnone := ofB_noneL (bs := bs) (v := -1 - p.head) (fun j hj => hno j hj (by omega))
        refine o_append Try.underlying51 bs54 rfl rfl rfl (fun v' => by repeat (first | exact Swap.here | apply Swap.there)) (Src.ofRow (by repeat (first | exact Has.here | apply Has.there)) rfl) (by first | rfl | omega | simp) (by simp [cat, cellsL, Value.oneCell']) (by omega) (by omega) (fun a45 c45 => ?_)
        refine op_v (v_assign rfl) rfl ?_
        refine op_v (v_assign rfl) rfl ?_
        refine ops_nil ?_
        refine post_next ?_
        refine code_ret ?_
        refine post_ret_then ?_
        refine post_ret (rs := [.tmp 6, .tmp 7]) rfl (List.Perm.refl _) (.cons (.tmp rfl) (.cons (.tmp rfl) .nil)) (List.Sublist.cons _ (List.Sublist.cons_cons _ (List.nil_sublist _))) ?_
        have hl2 : bs.length + 1 = (bs ++ [(-1 - p.head, t)]).length := by simp
        exact .inl ⟨a45, c45, xs ++ biC (-1 - p.head, t) ta tc, bs ++ [(-1 - p.head, t)], by rw [← hl2]; rfl, by rw [← hl2]; rfl, (hx.mono Imm.leA).app (RowE.single ⟨by unfold InR; dsimp only; omega, ta, tc, rfl, hvt.mono Imm.leA⟩), hsb.snoc (by omega), by simp; omega, fun θ => by show Ext θ bs ∧ pT θ p = t ↔ _; rw [hpt θ, Ext_snoc hnone]⟩
    · refine op_v (v_cmpfA rfl rfl rfl) rfl ?_
      refine ops_nil ?_
      refine post_next ?_
      refine code_cond_f rfl ?_
      refine code_skip ?_
      refine post_next ?_
      refine code_seq ?_
      refine code_seq ?_
      refine code_region ?_
      refine op_v (v_fieldB 0 Try.underlying47 rfl rfl fz3 rfl) rfl ?_
      refine op_v (v_loadA ty3 rfl rfl) rfl ?_
      refine op_v (v_fieldB 0 Try.underlying47 rfl rfl fz3 rfl) rfl ?_
      refine op_v (v_loadA ty3 rfl rfl) rfl ?_
      by_cases h50 : p.head ≠ t.head
      · refine op_v (v_cmptA rfl rfl rfl) rfl ?_
        refine op_v (v_move rfl) rfl ?_
        refine op_skip rfl rfl (by simp [undef]) rfl ?_
        refine op_skip rfl rfl (by simp [undef]) rfl ?_
        refine op_skip rfl rfl (by simp [undef]) rfl ?_
        refine op_skip rfl rfl (by simp [undef]) rfl ?_
        refine op_skip rfl rfl (by simp [undef]) rfl ?_
        refine op_skip rfl rfl (by simp [undef]) rfl ?_
        refine op_skip rfl rfl (by simp [undef]) rfl ?_
        refine op_v (v_pickt rfl rfl) rfl ?_
        refine ops_nil ?_
        refine post_next ?_
        refine code_cond_t rfl ?_
        refine code_seq ?_
        refine code_region ?_
        refine op_v (v_move rfl) rfl ?_
        refine op_v (v_assign rfl) rfl ?_
        refine op_v (v_assign rfl) rfl ?_
        refine ops_nil ?_
        refine post_next ?_
        refine code_ret ?_
        refine post_ret_then ?_
        refine post_ret (rs := [.tmp 6, .tmp 7]) rfl (List.Perm.refl _) (.cons (.tmp rfl) (.cons (.tmp rfl) .nil)) (List.nil_sublist _) ?_
        exact .inr ⟨A, bs.length, c, rfl, fun θ h => h50 ((pT_pos_eq hneg).1 h.2).1⟩
      · refine op_v (v_cmpfA rfl rfl rfl) rfl ?_
        refine op_v (v_move rfl) rfl ?_
        first
          | (refine op_want rfl rfl ?_
             refine op_v (v_fieldB 1 Try.underlying47 rfl rfl fz45 rfl) rfl ?_)
          | (refine op_skip rfl rfl (by simp [undef]) rfl ?_)
        refine op_want rfl rfl ?_
        refine op_v (v_loadA ty45 rfl rfl) rfl ?_
        refine op_want rfl rfl ?_
        refine op_v (v_len Try.underlying45 rfl) rfl ?_
        first
          | (refine op_want rfl rfl ?_
             refine op_v (v_fieldB 1 Try.underlying47 rfl rfl fz45 rfl) rfl ?_)
          | (refine op_skip rfl rfl (by simp [undef]) rfl ?_)
        refine op_want rfl rfl ?_
        refine op_v (v_loadA ty45 rfl rfl) rfl ?_
        refine op_want rfl rfl ?_
        refine op_v (v_len Try.underlying45 rfl) rfl ?_
        by_cases h58 : p.args.length ≠ t.args.length
        · first
            | (refine op_want rfl rfl ?_
               refine op_v (v_cmptA rfl rfl rfl) rfl ?_)
            | (refine op_skip rfl rfl (by simp [undef]) rfl ?_)
          refine op_v (v_pickf rfl rfl) rfl ?_
          refine ops_nil ?_
          refine post_next ?_
          refine code_cond_t rfl ?_
          refine code_seq ?_
          refine code_region ?_
          refine op_v (v_move rfl) rfl ?_
          refine op_v (v_assign rfl) rfl ?_
          refine op_v (v_assign rfl) rfl ?_
          refine ops_nil ?_
          refine post_next ?_
          refine code_ret ?_
          refine post_ret_then ?_
          refine post_ret (rs := [.tmp 6, .tmp 7]) rfl (List.Perm.refl _) (.cons (.tmp rfl) (.cons (.tmp rfl) .nil)) (List.nil_sublist _) ?_
          exact .inr ⟨A, bs.length, c, rfl, fun θ h => h58 ((pT_pos_eq hneg).1 h.2).2.1⟩
        · first
            | (refine op_want rfl rfl ?_
               refine op_v (v_cmpfA rfl rfl rfl) rfl ?_)
            | (refine op_skip rfl rfl (by simp [undef]) rfl ?_)
          refine op_v (v_pickf rfl rfl) rfl ?_
          refine ops_nil ?_
          refine post_next ?_
          refine code_cond_f rfl ?_
          refine code_skip ?_
          refine post_next ?_
          refine code_seq ?_
          refine code_seq ?_
          refine code_region ?_
          refine op_v (v_assign rfl) rfl ?_
          refine ops_nil ?_
          refine post_next ?_
          refine code_block ?_
          have h50' : p.head = t.head := Classical.not_not.1 h50
          have h58' : p.args.length = t.args.length := Classical.not_not.1 h58
          obtain ⟨_, _, _, _, hpub, ssp, hpat, hpsub⟩ := hvp.open
          obtain ⟨_, _, _, _, htub, sst, htat, htsub⟩ := hvt.open
          have hsp := size_eqT p
          have hst := size_eqT t
          refine CodeJ.view (View.perm (List.perm_append_comm (l₁ := [_, _]) (l₂ := [_]))) ?_
          refine code_loop (fun m σ' I' δ' => ∃ (k : Nat) (A' : Option Addr) (c' : Nat) (xs' : List Value) (bs' : List Bi), m = p.args.length - k ∧ k ≤ p.args.length ∧ σ' = [(2, .slice A' bs'.length c'), (3, .pointer (some ⟨b3, 0, none⟩)), (4, .pointer (some ⟨b4, 0, none⟩)), (9, .int .i64 k)] ∧ I.le I' ∧ δ' = [bdRow A' c' bs'.length xs', .box b4 47 [.int .i64 t.head, .slice ta t.args.length tc], .box b3 47 [.int .i64 p.head, .slice pa p.args.length pc]] ∧ RowE BindE I' xs' bs' ∧ SmB bs' ∧ bs'.length ≤ bs.length + sizeL (p.args.take k) ∧ ∀ θ, (Ext θ bs ∧ ∀ j (h1 : j < p.args.length) (h2 : j < t.args.length), j < k → pT θ p.args[j] = t.args[j]) ↔ Ext θ bs') p.args.length [(2, .slice A bs.length c), (3, .pointer (some ⟨b3, 0, none⟩)), (4, .pointer (some ⟨b4, 0, none⟩)), (9, .int .i64 (0 : Nat))] ⟨0, A, c, xs, bs, rfl, Nat.zero_le _, rfl, Imm.le_refl _, rfl, hx, hsb, by simp [sizeL], fun θ => ⟨fun h => h.1, fun h => ⟨h, fun j _ _ hj => by omega⟩⟩⟩ ⟨rfl, rfl, rfl, rfl, trivial⟩ ?_
          rintro m _ I0 _ ⟨k, A', c', xs', bs', rfl, hk, rfl, hI0, rfl, hx', hsb', hbl', hiff⟩
          refine code_seq ?_
          refine code_seq ?_
          refine code_region ?_
          refine op_v (v_move rfl) rfl ?_
          refine op_v (v_fieldB 1 Try.underlying47 rfl rfl fz45 rfl) rfl ?_
          refine op_v (v_loadA ty45 rfl rfl) rfl ?_
          refine op_v (v_len Try.underlying45 rfl) rfl ?_
          refine op_v (v_cmp rfl rfl rfl) rfl ?_
          refine ops_nil ?_
          refine post_next ?_
          refine code_cond rfl (fun hc4 => ?_) (fun hc4 => ?_)
          · have hlt : k < p.args.length := by have h := hc4; simp at h; omega
            have hltt : k < t.args.length := by omega
            have hs1 := (hpat k hlt).isSome
            have hs2 := (htat k hltt).isSome
            have hm1 := sizeL_mem p.args k hlt
            have hm2 := sizeL_mem t.args k hltt
            have hst1 := sizeL_take p.args k hlt
            have hsd : sizeL (p.args.take (k + 1)) + sizeL (p.args.drop (k + 1)) = sizeL p.args := by rw [← sizeL_app, List.take_append_drop]
            refine code_skip ?_
            refine post_next ?_
            refine code_seq ?_
            refine code_block ?_
            refine code_seq ?_
            refine code_draw (.fl 0 (.fl 1 (.fl 2 (.fl 3 (.fl 4 (.fl 5 (.fl 6 (.fl 7 (.fl 8 (.fl 9 (.fl 10 (.ef 11 (.fl 12 (.fl 13 (.fl 14 (.ef 15 (.ef 16 .done))))))))))))))))) (fun _ => [.box b4 47 [.int .i64 t.head, .slice ta t.args.length tc], .box b3 47 [.int .i64 p.head, .slice pa p.args.length pc]]) mixed (by kernel_rfl) (by kernel_rfl) (fun _ => (List.Sublist.cons _ (List.Sublist.refl _))) ?_
            refine e_fl rfl rfl (fun hs_ => PF.mk rfl (v_fieldB 1 Try.underlying47 rfl rfl fz45 rfl) hs_) ?_
            refine e_fl rfl rfl (fun hs_ => PF.mk rfl (v_loadA ty45 rfl rfl) hs_) ?_
            refine e_fl rfl rfl (fun hs_ => PF.mk rfl (v_move rfl) hs_) ?_
            refine e_fl rfl rfl (fun hs_ => PF.mk rfl (v_indexA Try.underlying45 sz47 rfl rfl) hs_) ?_
            refine e_fl rfl rfl (fun hs_ => PF.mk rfl (v_loadI0 ty47 ((hpat k hlt).mono hI0) rfl rfl rfl) hs_) ?_
            refine e_fl rfl rfl (fun hs_ => PF.mk rfl (v_fieldB 1 Try.underlying47 rfl rfl fz45 rfl) hs_) ?_
            refine e_fl rfl rfl (fun hs_ => PF.mk rfl (v_loadA ty45 rfl rfl) hs_) ?_
            refine e_fl rfl rfl (fun hs_ => PF.mk rfl (v_move rfl) hs_) ?_
            refine e_fl rfl rfl (fun hs_ => PF.mk rfl (v_indexA Try.underlying45 sz47 rfl rfl) hs_) ?_
            refine e_fl rfl rfl (fun hs_ => PF.mk rfl (v_loadI0 ty47 ((htat k hltt).mono hI0) rfl rfl rfl) hs_) ?_
            refine e_fl rfl rfl (fun hs_ => PF.mk rfl (v_move rfl) hs_) ?_
            refine e_eff rfl (by intro cs b hc; cases hc) (by intro c hc; cases hc) ?_
            refine op_call pl175 rfl rfl ((ih p.args[k] (by omega) (by omega) t.args[k] (by omega) _ _ _ _ _ _ _ ((hpsub k hlt).mono hI0) ((htsub k hltt).mono hI0) hx' hsb' (by omega))) (Parts.one Del.here) ?_
            rintro v80 I80 δ80 hI80 HR80
            refine ops_nil ?_
            refine e_next rfl side_allA ?_
            rcases HR80 with ⟨A2, c2, xs2, bs2, rfl, rfl, hx2, hsb2, hl2, hiff2⟩ | ⟨A2, m2, c2, rfl, hno2⟩
            · refine e_fl rfl rfl (fun hs_ => PF.mk rfl (v_move rfl) hs_) ?_
              refine e_fl rfl rfl (fun hs_ => PF.mk rfl (v_extract rfl rfl) hs_) ?_
              refine e_fl rfl rfl (fun hs_ => PF.mk rfl (v_extract rfl rfl) hs_) ?_
              refine e_eff rfl (by intro cs b hc; cases hc) (by intro c hc; cases hc) ?_
              refine op_v (v_assign rfl) rfl ?_
              refine ops_nil ?_
              refine e_next rfl side_allA ?_
              refine e_eff rfl (by intro cs b hc; cases hc) (by intro c hc; cases hc) ?_
              refine op_v (v_assign rfl) rfl ?_
              refine ops_nil ?_
              refine e_next rfl (side_nil (by kernel_rfl)) ?_
              refine e_done ?_
              refine post_next ?_
              refine code_seq ?_
              refine code_seq ?_
              refine code_region ?_
              refine op_v (v_move rfl) rfl ?_
              refine op_v (v_not rfl) rfl ?_
              refine ops_nil ?_
              refine post_next ?_
              refine code_cond_f rfl ?_
              refine code_skip ?_
              refine post_next ?_
              refine code_region ?_
              refine op_v (v_move rfl) rfl ?_
              refine op_v (v_assign rfl) rfl ?_
              refine ops_nil ?_
              refine post_out ?_
              refine post_next ?_
              refine code_region ?_
              refine op_v (v_move rfl) rfl ?_
              refine op_v (v_addb rfl rfl rfl (by omega)) rfl ?_
              refine op_v (v_assign rfl) rfl ?_
              refine ops_nil ?_
              refine post_again (p.args.length - (k + 1)) [(2, .slice A2 bs2.length c2), (3, .pointer (some ⟨b3, 0, none⟩)), (4, .pointer (some ⟨b4, 0, none⟩)), (9, .int .i64 (k + 1 : Nat))] (by omega) ⟨k + 1, A2, c2, xs2, bs2, rfl, hlt, rfl, Imm.leA, rfl, hx2, hsb2, by omega, fun θ => ?_⟩ ⟨rfl, rfl, rfl, rfl, trivial⟩
              rw [← hiff2 θ, ← hiff θ]
              constructor
              · rintro ⟨h1, h2⟩; exact ⟨⟨h1, fun j k1 k2 hj => h2 j k1 k2 (by omega)⟩, h2 k hlt hltt (by omega)⟩
              · rintro ⟨⟨h1, h2⟩, h3⟩
                refine ⟨h1, fun j k1 k2 hj => ?_⟩
                rcases Nat.lt_or_ge j k with q | q
                · exact h2 j k1 k2 q
                · have e : j = k := by omega
                  subst e; exact h3
            · refine e_fl rfl rfl (fun hs_ => PF.mk rfl (v_move rfl) hs_) ?_
              refine e_fl rfl rfl (fun hs_ => PF.mk rfl (v_extract rfl rfl) hs_) ?_
              refine e_fl rfl rfl (fun hs_ => PF.mk rfl (v_extract rfl rfl) hs_) ?_
              refine e_eff rfl (by intro cs b hc; cases hc) (by intro c hc; cases hc) ?_
              refine op_v (v_assign rfl) rfl ?_
              refine ops_nil ?_
              refine e_next rfl side_allA ?_
              refine e_eff rfl (by intro cs b hc; cases hc) (by intro c hc; cases hc) ?_
              refine op_v (v_assign rfl) rfl ?_
              refine ops_nil ?_
              refine e_next rfl (side_nil (by kernel_rfl)) ?_
              refine e_done ?_
              refine post_next ?_
              refine code_seq ?_
              refine code_seq ?_
              refine code_region ?_
              refine op_v (v_move rfl) rfl ?_
              refine op_v (v_not rfl) rfl ?_
              refine ops_nil ?_
              refine post_next ?_
              refine code_cond_t rfl ?_
              refine code_seq ?_
              refine code_region ?_
              refine op_v (v_move rfl) rfl ?_
              refine op_v (v_assign rfl) rfl ?_
              refine op_v (v_assign rfl) rfl ?_
              refine ops_nil ?_
              refine post_next ?_
              refine code_ret ?_
              refine post_ret_then ?_
              refine post_ret_block ?_
              refine post_ret_then ?_
              refine post_ret_then ?_
              refine post_ret_block ?_
              refine post_ret_then ?_
              refine post_ret (rs := [.tmp 6, .tmp 7]) rfl (List.Perm.refl _) (.cons (.tmp rfl) (.cons (.tmp rfl) .nil)) (List.nil_sublist _) ?_
              exact .inr ⟨A', bs'.length, c', rfl, fun θ h => hno2 θ ⟨(hiff θ).1 ⟨h.1, fun j h1 h2 _ => ((pT_pos_eq hneg).1 h.2).2.2 j h1 h2⟩, ((pT_pos_eq hneg).1 h.2).2.2 k hlt hltt⟩⟩
          · have hge : k = p.args.length := by have h := hc4; simp at h; omega
            refine code_exit ?_
            refine post_exit_then ?_
            refine post_exit_then ?_
            refine post_exit ?_
            refine post_next ?_
            refine code_seq ?_
            refine code_region ?_
            refine op_v (v_move rfl) rfl ?_
            refine op_v (v_assign rfl) rfl ?_
            refine op_v (v_assign rfl) rfl ?_
            refine ops_nil ?_
            refine post_next ?_
            refine code_ret ?_
            refine post_ret (rs := [.tmp 6, .tmp 7]) rfl (List.Perm.refl _) (.cons (.tmp rfl) (.cons (.tmp rfl) .nil)) (List.Sublist.cons_cons _ (List.nil_sublist _)) ?_
            exact .inl ⟨A', c', xs', bs', rfl, rfl, hx', hsb', by rw [hge, List.take_length] at hbl'; omega, fun θ => by show Ext θ bs ∧ pT θ p = t ↔ _; rw [← hiff θ, pT_pos_eq hneg]; exact and_congr_right fun _ => ⟨fun h j h1 h2 _ => h.2.2 j h1 h2, fun h => ⟨h50', h58', fun j h1 h2 => h j h1 h2 (by omega)⟩⟩⟩
theorem RepS.rowP {I : Imm} {v : Value} {ts : List T} (h : RepS I v ts) : ∃ (A : Option Addr) (c : Nat) (ss : Nat → Option Addr × Nat) (xs : List Value), v = .slice A ts.length c ∧ Cells I A xs ∧ RowT I xs ts ∧ ts.length ≤ 4398046511104 ∧ ∀ i (h : i < ts.length), At I A (i * 2) [.int .i64 ts[i].head, .slice (ss i).1 ts[i].args.length (ss i).2] ∧ RepT I (.agg #[.int .i64 ts[i].head, .slice (ss i).1 ts[i].args.length (ss i).2]) ts[i] := by
  obtain ⟨A, c, ss, L, hc, hb, hat2, hr, hsub0⟩ := h
  have hs := fun i (hi : i < ts.length) => RepT.mk _ _ (hr i hi) (hsub0 i hi)
  obtain ⟨h1, h2⟩ := RowT.of hat2 hs
  exact ⟨A, c, ss, _, rfl, h1, h2, hb, fun i hi => ⟨hat2 i hi, hs i hi⟩⟩
theorem Gather_does {I : Imm} {vp vt : Value} {A : Option Addr} {c : Nat} {xs : List Value} {bs : List Bi} {ps ts : List T} (hp : RepS I vp ps) (ht : RepS I vt ts) (hl : ps.length ≤ ts.length) (hx : RowE BindE I xs bs) (hsb : SmB bs) (hps : ∀ p ∈ ps, p.size ≤ 1000000) (hts : ∀ t ∈ ts, t.size ≤ 1000000) (hbl : bs.length + sizeL ps ≤ 1000000000) :
    Does Try.prog 151 [vp, vt, .slice A bs.length c] I [bdRow A c bs.length xs] (fun v I' δ' =>
      (∃ (A : Option Addr) (c : Nat) (xs : List Value) (bs' : List Bi), v = .tuple #[.slice A bs'.length c, .bool true] ∧ δ' = [bdRow A c bs'.length xs] ∧ RowE BindE I' xs bs' ∧ SmB bs' ∧ bs'.length ≤ bs.length + sizeL ps ∧ ∀ θ, (Ext θ bs ∧ ∀ j (h1 : j < ps.length) (h2 : j < ts.length), pT θ ps[j] = ts[j]) ↔ Ext θ bs') ∨
      (v = .tuple #[.slice none 0 0, .bool false] ∧ δ' = [] ∧ ∀ θ, ¬ (Ext θ bs ∧ ∀ j (h1 : j < ps.length) (h2 : j < ts.length), pT θ ps[j] = ts[j]))) := by
  obtain ⟨pA, pC, pS, xp, rfl, hcp, hrp, hbp, hep⟩ := hp.rowP
  obtain ⟨tA, tC, tS, xt, rfl, hct, hrt, hbt, het⟩ := ht.rowP
  have hpl := sizeL_len ps
  refine Does.intro Try.func151 rfl Try.ntmps151 rfl fun w0 => ?_
  refine code_seq ?_
  refine code_region ?_
  refine op_v (v_assign rfl) rfl ?_
  refine op_v (v_assign rfl) rfl ?_
  refine ops_nil ?_
  refine post_next ?_
  refine code_seq ?_
  refine code_seq ?_
  refine code_region ?_
  refine op_v (v_assign rfl) rfl ?_
  refine ops_nil ?_
  refine post_next ?_
  refine code_block ?_
  refine code_loop (fun m σ' I' δ' => ∃ (k : Nat) (A' : Option Addr) (c' : Nat) (xs' : List Value) (bs' : List Bi), m = ps.length - k ∧ k ≤ ps.length ∧ σ' = [(0, .slice pA ps.length pC), (1, .slice tA ts.length tC), (2, .slice A' bs'.length c'), (8, .int .i64 k)] ∧ I.le I' ∧ δ' = [bdRow A' c' bs'.length xs'] ∧ RowE BindE I' xs' bs' ∧ SmB bs' ∧ bs'.length ≤ bs.length + sizeL (ps.take k) ∧ ∀ θ, (Ext θ bs ∧ ∀ j (h1 : j < ps.length) (h2 : j < ts.length), j < k → pT θ ps[j] = ts[j]) ↔ Ext θ bs') ps.length [(0, .slice pA ps.length pC), (1, .slice tA ts.length tC), (2, .slice A bs.length c), (8, .int .i64 (0 : Nat))] ⟨0, A, c, xs, bs, rfl, Nat.zero_le _, rfl, Imm.le_refl _, rfl, hx, hsb, by simp [sizeL], fun θ => ⟨fun h => h.1, fun h => ⟨h, fun j _ _ hj => by omega⟩⟩⟩ ⟨rfl, rfl, rfl, rfl, trivial⟩ ?_
  rintro m _ I0 _ ⟨k, A', c', xs', bs', rfl, hk, rfl, hI0, rfl, hx', hsb', hbl', hiff⟩
  refine code_seq ?_
  refine code_seq ?_
  refine code_region ?_
  refine op_v (v_move rfl) rfl ?_
  refine op_v (v_move rfl) rfl ?_
  refine op_v (v_len Try.underlying45 rfl) rfl ?_
  refine op_v (v_cmp rfl rfl rfl) rfl ?_
  refine ops_nil ?_
  refine post_next ?_
  refine code_cond rfl (fun hc0 => ?_) (fun hc0 => ?_)
  · have hlt : k < ps.length := by have h := hc0; simp at h; omega
    have hltt : k < ts.length := by omega
    obtain ⟨hat1, hr1⟩ := hep k hlt
    obtain ⟨hat2, hr2⟩ := het k hltt
    have hs1 := hat1.isSome
    have hs2 := hat2.isSome
    have hm1 := sizeL_mem ps k hlt
    have hst1 := sizeL_take ps k hlt
    have hsd : sizeL (ps.take (k + 1)) + sizeL (ps.drop (k + 1)) = sizeL ps := by rw [← sizeL_app, List.take_append_drop]
    refine code_skip ?_
    refine post_next ?_
    refine code_seq ?_
    refine code_block ?_
    refine code_seq ?_
    refine code_draw (.fl 0 (.fl 1 (.fl 2 (.fl 3 (.fl 4 (.fl 5 (.fl 6 (.fl 7 (.fl 8 (.ef 9 (.fl 10 (.fl 11 (.fl 12 (.ef 13 (.ef 14 .done))))))))))))))) (fun _ => []) mixed (by kernel_rfl) (by kernel_rfl) (fun _ => (List.nil_sublist _)) ?_
    refine e_fl rfl rfl (fun hs_ => PF.mk rfl (v_move rfl) hs_) ?_
    refine e_fl rfl rfl (fun hs_ => PF.mk rfl (v_move rfl) hs_) ?_
    refine e_fl rfl rfl (fun hs_ => PF.mk rfl (v_indexA Try.underlying45 sz47 rfl rfl) hs_) ?_
    refine e_fl rfl rfl (fun hs_ => PF.mk rfl (v_loadI0 ty47 (hat1.mono hI0) rfl rfl rfl) hs_) ?_
    refine e_fl rfl rfl (fun hs_ => PF.mk rfl (v_move rfl) hs_) ?_
    refine e_fl rfl rfl (fun hs_ => PF.mk rfl (v_move rfl) hs_) ?_
    refine e_fl rfl rfl (fun hs_ => PF.mk rfl (v_indexA Try.underlying45 sz47 rfl rfl) hs_) ?_
    refine e_fl rfl rfl (fun hs_ => PF.mk rfl (v_loadI0 ty47 (hat2.mono hI0) rfl rfl rfl) hs_) ?_
    refine e_fl rfl rfl (fun hs_ => PF.mk rfl (v_move rfl) hs_) ?_
    refine e_eff rfl (by intro cs b hc; cases hc) (by intro c hc; cases hc) ?_
    refine op_call pl175 rfl rfl ((gather_does ps[k].size ps[k] (Nat.le_refl _) (hps _ (List.getElem_mem hlt)) ts[k] (hts _ (List.getElem_mem hltt)) _ _ _ _ _ _ _ (hr1.mono hI0) (hr2.mono hI0) hx' hsb' (by omega))) (Parts.one Del.here) ?_
    rintro v27 I27 δ27 hI27 HR27
    refine ops_nil ?_
    refine e_next rfl side_allA ?_
    rcases HR27 with ⟨A2, c2, xs2, bs2, rfl, rfl, hx2, hsb2, hl2, hiff2⟩ | ⟨A2, m2, c2, rfl, hno2⟩
    · refine e_fl rfl rfl (fun hs_ => PF.mk rfl (v_move rfl) hs_) ?_
      refine e_fl rfl rfl (fun hs_ => PF.mk rfl (v_extract rfl rfl) hs_) ?_
      refine e_fl rfl rfl (fun hs_ => PF.mk rfl (v_extract rfl rfl) hs_) ?_
      refine e_eff rfl (by intro cs b hc; cases hc) (by intro c hc; cases hc) ?_
      refine op_v (v_assign rfl) rfl ?_
      refine ops_nil ?_
      refine e_next rfl side_allA ?_
      refine e_eff rfl (by intro cs b hc; cases hc) (by intro c hc; cases hc) ?_
      refine op_v (v_assign rfl) rfl ?_
      refine ops_nil ?_
      refine e_next rfl (side_nil (by kernel_rfl)) ?_
      refine e_done ?_
      refine post_next ?_
      refine code_seq ?_
      refine code_seq ?_
      refine code_region ?_
      refine op_v (v_move rfl) rfl ?_
      refine op_v (v_not rfl) rfl ?_
      refine ops_nil ?_
      refine post_next ?_
      refine code_cond_f rfl ?_
      refine code_skip ?_
      refine post_next ?_
      refine code_region ?_
      refine op_v (v_move rfl) rfl ?_
      refine op_v (v_assign rfl) rfl ?_
      refine ops_nil ?_
      refine post_out ?_
      refine post_next ?_
      refine code_region ?_
      refine op_v (v_move rfl) rfl ?_
      refine op_v (v_addb rfl rfl rfl (by omega)) rfl ?_
      refine op_v (v_assign rfl) rfl ?_
      refine ops_nil ?_
      refine post_again (ps.length - (k + 1)) [(0, .slice pA ps.length pC), (1, .slice tA ts.length tC), (2, .slice A2 bs2.length c2), (8, .int .i64 (k + 1 : Nat))] (by omega) ⟨k + 1, A2, c2, xs2, bs2, rfl, hlt, rfl, Imm.leA, rfl, hx2, hsb2, by omega, fun θ => ?_⟩ ⟨rfl, rfl, rfl, rfl, trivial⟩
      rw [← hiff2 θ, ← hiff θ]
      constructor
      · rintro ⟨h1, h2⟩; exact ⟨⟨h1, fun j k1 k2 hj => h2 j k1 k2 (by omega)⟩, h2 k hlt hltt (by omega)⟩
      · rintro ⟨⟨h1, h2⟩, h3⟩
        refine ⟨h1, fun j k1 k2 hj => ?_⟩
        rcases Nat.lt_or_ge j k with q | q
        · exact h2 j k1 k2 q
        · have e : j = k := by omega
          subst e; exact h3
    · refine e_fl rfl rfl (fun hs_ => PF.mk rfl (v_move rfl) hs_) ?_
      refine e_fl rfl rfl (fun hs_ => PF.mk rfl (v_extract rfl rfl) hs_) ?_
      refine e_fl rfl rfl (fun hs_ => PF.mk rfl (v_extract rfl rfl) hs_) ?_
      refine e_eff rfl (by intro cs b hc; cases hc) (by intro c hc; cases hc) ?_
      refine op_v (v_assign rfl) rfl ?_
      refine ops_nil ?_
      refine e_next rfl side_allA ?_
      refine e_eff rfl (by intro cs b hc; cases hc) (by intro c hc; cases hc) ?_
      refine op_v (v_assign rfl) rfl ?_
      refine ops_nil ?_
      refine e_next rfl (side_nil (by kernel_rfl)) ?_
      refine e_done ?_
      refine post_next ?_
      refine code_seq ?_
      refine code_seq ?_
      refine code_region ?_
      refine op_v (v_move rfl) rfl ?_
      refine op_v (v_not rfl) rfl ?_
      refine ops_nil ?_
      refine post_next ?_
      refine code_cond_t rfl ?_
      refine code_seq ?_
      refine code_region ?_
      refine op_v (v_assign rfl) rfl ?_
      refine op_v (v_assign rfl) rfl ?_
      refine ops_nil ?_
      refine post_next ?_
      refine code_ret ?_
      refine post_ret_then ?_
      refine post_ret_block ?_
      refine post_ret_then ?_
      refine post_ret_then ?_
      refine post_ret_block ?_
      refine post_ret_then ?_
      refine post_ret (rs := [.tmp 6, .tmp 7]) rfl (List.Perm.refl _) (.cons (.tmp rfl) (.cons (.tmp rfl) .nil)) (List.nil_sublist _) ?_
      exact .inr ⟨rfl, rfl, fun θ h => hno2 θ ⟨(hiff θ).1 ⟨h.1, fun j h1 h2 _ => h.2 j h1 h2⟩, h.2 k hlt hltt⟩⟩
  · have hge : k = ps.length := by have h := hc0; simp at h; omega
    refine code_exit ?_
    refine post_exit_then ?_
    refine post_exit_then ?_
    refine post_exit ?_
    refine post_next ?_
    refine code_seq ?_
    refine code_region ?_
    refine op_v (v_move rfl) rfl ?_
    refine op_v (v_assign rfl) rfl ?_
    refine op_v (v_assign rfl) rfl ?_
    refine ops_nil ?_
    refine post_next ?_
    refine code_ret ?_
    refine post_ret (rs := [.tmp 6, .tmp 7]) rfl (List.Perm.refl _) (.cons (.tmp rfl) (.cons (.tmp rfl) .nil)) (List.Sublist.cons_cons _ (List.nil_sublist _)) ?_
    exact .inl ⟨A', c', xs', bs', rfl, rfl, hx', hsb', by rw [hge, List.take_length] at hbl'; omega, fun θ => by rw [← hiff θ]; exact and_congr_right fun _ => ⟨fun h j h1 h2 _ => h j h1 h2, fun h j h1 h2 => h j h1 h2 (by omega)⟩⟩
end Go.Proofs.Ytdbadicpbmndbaa
/- Walks: the document's answer: binds by which a literal is another one. -/
set_option linter.unusedVariables false
set_option linter.unusedSimpArgs false
set_option linter.unnecessarySimpa false
/- short -/
namespace Go.Proofs.Ytdbadicpbmndbaa
open Go Lg

def BiLE : Elt 1 (List Bi) where
  R := fun I bs vs => ∃ v, vs = [v] ∧ RepB I v bs
  len := by rintro I a vs ⟨v, rfl, _⟩; rfl
  one := by
    rintro I a vs ⟨v, rfl, hv⟩ u hu
    simp only [List.mem_cons, List.not_mem_nil, or_false] at hu
    subst hu
    obtain ⟨ad, c, rfl⟩ := hv.shape
    rfl
  mono := by rintro I J a vs hl ⟨v, rfl, hv⟩; exact ⟨v, rfl, hv.mono hl⟩
theorem two_iff {θ : Int → T} {x y u v : T} : (∀ j (h1 : j < [x, y].length) (h2 : j < [u, v].length), pT θ [x, y][j] = [u, v][j]) ↔ pT θ x = u ∧ pT θ y = v := by
  constructor
  · intro h; exact ⟨h 0 (by simp) (by simp), h 1 (by simp) (by simp)⟩
  · rintro ⟨h1, h2⟩ j k1 k2
    have : j = 0 ∨ j = 1 := by simp at k1; omega
    rcases this with rfl | rfl
    · exact h1
    · exact h2
theorem truth15_does {I : Imm} {v : Value} {x : Li} (hv : RepL I v x) :
    Does Try.prog 150 [v] I [] (fun v I' δ' => v = .bool (kindB x) ∧ δ' = []) := by
  obtain ⟨la, lc, ra, rc, rfl, hl, hr⟩ := hv
  refine Does.intro Try.func150 rfl Try.ntmps150 rfl fun w0 => ?_
  refine code_seq ?_
  refine code_region ?_
  refine o_box rfl rfl rfl (fun b1 => ?_)
  refine op_v (v_assign rfl) rfl ?_
  refine ops_nil ?_
  refine post_next ?_
  refine code_seq ?_
  refine code_region ?_
  refine op_v (v_fieldB 1 Try.underlying49 rfl rfl fz47 rfl) rfl ?_
  refine op_v (v_fieldB 0 Try.underlying47 rfl rfl fz3 rfl) rfl ?_
  refine op_v (v_loadA ty3 rfl rfl) rfl ?_
  by_cases h6 : x.l.head = 0
  · refine op_v (v_cmptA rfl rfl rfl) rfl ?_
    refine op_v (v_move rfl) rfl ?_
    refine op_skip rfl rfl (by simp [undef]) rfl ?_
    refine op_skip rfl rfl (by simp [undef]) rfl ?_
    refine op_skip rfl rfl (by simp [undef]) rfl ?_
    refine op_skip rfl rfl (by simp [undef]) rfl ?_
    refine op_v (v_pickt rfl rfl) rfl ?_
    refine op_v (v_assign rfl) rfl ?_
    refine ops_nil ?_
    refine post_next ?_
    refine code_ret ?_
    refine post_ret (rs := [.tmp 2]) rfl (List.Perm.refl _) (.cons (.tmp rfl) .nil) (List.nil_sublist _) ?_
    exact ⟨by unfold kindB; rw [decide_eq_true h6]; rfl, rfl⟩
  · refine op_v (v_cmpfA rfl rfl rfl) rfl ?_
    refine op_v (v_move rfl) rfl ?_
    first
      | (refine op_want rfl rfl ?_
         refine op_v (v_fieldB 3 Try.underlying49 rfl rfl fz47 rfl) rfl ?_)
      | (refine op_skip rfl rfl (by simp [undef]) rfl ?_)
    first
      | (refine op_want rfl rfl ?_
         refine op_v (v_fieldB 0 Try.underlying47 rfl rfl fz3 rfl) rfl ?_)
      | (refine op_skip rfl rfl (by simp [undef]) rfl ?_)
    refine op_want rfl rfl ?_
    refine op_v (v_loadA ty3 rfl rfl) rfl ?_
    by_cases h11 : x.r.head = 0
    · first
        | (refine op_want rfl rfl ?_
           refine op_v (v_cmptA rfl rfl rfl) rfl ?_)
        | (refine op_skip rfl rfl (by simp [undef]) rfl ?_)
      refine op_v (v_pickf rfl rfl) rfl ?_
      refine op_v (v_assign rfl) rfl ?_
      refine ops_nil ?_
      refine post_next ?_
      refine code_ret ?_
      refine post_ret (rs := [.tmp 2]) rfl (List.Perm.refl _) (.cons (.tmp rfl) .nil) (List.nil_sublist _) ?_
      exact ⟨by unfold kindB; rw [decide_eq_true h11, Bool.or_true]; rfl, rfl⟩
    · first
        | (refine op_want rfl rfl ?_
           refine op_v (v_cmpfA rfl rfl rfl) rfl ?_)
        | (refine op_skip rfl rfl (by simp [undef]) rfl ?_)
      refine op_v (v_pickf rfl rfl) rfl ?_
      refine op_v (v_assign rfl) rfl ?_
      refine ops_nil ?_
      refine post_next ?_
      refine code_ret ?_
      refine post_ret (rs := [.tmp 2]) rfl (List.Perm.refl _) (.cons (.tmp rfl) .nil) (List.nil_sublist _) ?_
      exact ⟨by unfold kindB; rw [decide_eq_false h6, decide_eq_false h11]; rfl, rfl⟩
abbrev blRow (A : Option Addr) (c n : Nat) (xs : List Value) : Ent := .row (.slice A n c) 51 1 n xs
theorem more_does {I : Imm} {va vl vs : Value} {a l : Li} {bs : List Bi} (ha : RepL I va a) (hl : RepL I vl l) (hs : RepB I vs bs) (hsb : SmB bs) (h1 : a.l.size ≤ 1000000) (h2 : a.r.size ≤ 1000000) (h3 : l.l.size ≤ 1000000) (h4 : l.r.size ≤ 1000000) (hbl : bs.length ≤ 900000000) :
    Does Try.prog 115 [va, vl, vs] I [] (fun v I' δ' => (∃ L, RepE BiLE I' v L ∧ L.length ≤ 2 ∧ (∀ b ∈ L, SmB b ∧ b.length ≤ bs.length + 2000000) ∧ ∀ θ, (Ext θ bs ∧ litM θ a l) ↔ ∃ b ∈ L, Ext θ b) ∧ δ' = []) := by
  have ha0 := ha
  have hl0 := hl
  obtain ⟨pa, pc, qa, qc, rfl, hpl, hpr⟩ := ha
  obtain ⟨la, lc, ra, rc, rfl, hll, hlr⟩ := hl
  obtain ⟨sA, sC, xs, rfl, hsc, hsbd, hcells, hrow⟩ := hs.rowE
  have e0 : 0 + bs.length = bs.length := Nat.zero_add _
  have hsz : ∀ t ∈ [a.l, a.r], t.size ≤ 1000000 := fun t ht => by simp at ht; rcases ht with rfl | rfl; exact h1; exact h2
  have hsz1 : ∀ t ∈ [l.l, l.r], t.size ≤ 1000000 := fun t ht => by simp at ht; rcases ht with rfl | rfl; exact h3; exact h4
  have hsz2 : ∀ t ∈ [l.r, l.l], t.size ≤ 1000000 := fun t ht => by simp at ht; rcases ht with rfl | rfl; exact h4; exact h3
  have hszL : sizeL [a.l, a.r] ≤ 2000000 := by simp [sizeL]; omega
  refine Does.intro Try.func115 rfl Try.ntmps115 rfl fun w0 => ?_
  refine code_seq ?_
  refine code_region ?_
  refine o_box rfl rfl rfl (fun b3 => ?_)
  refine o_box rfl rfl rfl (fun b4 => ?_)
  refine op_v (v_assign rfl) rfl ?_
  refine ops_nil ?_
  refine post_next ?_
  refine code_seq ?_
  refine code_region ?_
  refine op_v (v_assign rfl) rfl ?_
  refine ops_nil ?_
  refine post_next ?_
  refine code_seq ?_
  refine code_seq ?_
  refine code_draw (.fl 0 (.fl 2 (.ef 1 (.ef 3 (.fl 4 .done))))) (fun _ => _) mixed (by kernel_rfl) (by kernel_rfl) (fun _ => (List.Sublist.refl _)) ?_
  refine e_fl rfl rfl (fun hs_ => PF.mk rfl (v_loadA ty49 rfl rfl) hs_) ?_
  refine e_fl rfl rfl (fun hs_ => PF.mk rfl (v_loadA ty49 rfl rfl) hs_) ?_
  refine e_eff rfl (by intro cs b hc; cases hc) (by intro c hc; cases hc) ?_
  refine op_call pl150 rfl rfl ((truth15_does (ha0.mono Imm.leA))) Parts.none ?_
  rintro v15 I15 _ hI15 ⟨rfl, rfl⟩
  refine ops_nil ?_
  refine e_next rfl side_allA ?_
  refine e_eff rfl (by intro cs b hc; cases hc) (by intro c hc; cases hc) ?_
  refine op_call pl150 rfl rfl ((truth15_does (hl0.mono Imm.leA))) Parts.none ?_
  rintro v17 I17 _ hI17 ⟨rfl, rfl⟩
  refine ops_nil ?_
  refine e_next rfl (side_nil (by kernel_rfl)) ?_
  by_cases hk : kindB a = kindB l
  · refine e_fl rfl rfl (fun hs_ => PF.mk rfl (v_eqb (z := false) Try.underlying4 rfl rfl (by rw [hk]; simp [cmpB])) hs_) ?_
    refine e_done ?_
    refine post_next ?_
    refine code_cond_f rfl ?_
    refine code_skip ?_
    refine post_next ?_
    refine code_seq ?_
    refine code_region ?_
    refine op_v (v_assign rfl) rfl ?_
    refine ops_nil ?_
    refine post_next ?_
    refine code_seq ?_
    refine code_region ?_
    refine op_v (v_move rfl) rfl ?_
    refine op_v (v_move rfl) rfl ?_
    refine OpsJ.view (View.nilRow 54 3) ?_
    refine o_append Try.underlying51 bs54 rfl rfl rfl (fun v' => by repeat (first | exact Swap.here | apply Swap.there)) (Src.ofI (hcells.mono Imm.leA)) hrow.length hrow.one1 (by omega) (by omega) (fun a21 c21 => ?_)
    rw [e0]
    refine op_v (v_assign rfl) rfl ?_
    refine ops_nil ?_
    refine post_next ?_
    refine code_seq ?_
    refine code_region ?_
    refine op_v (v_fieldB 1 Try.underlying49 rfl rfl fz47 rfl) rfl ?_
    refine op_v (v_loadA ty47 rfl rfl) rfl ?_
    refine op_v (v_fieldB 3 Try.underlying49 rfl rfl fz47 rfl) rfl ?_
    refine op_v (v_loadA ty47 rfl rfl) rfl ?_
    refine o_buildSlice (xs := [(Go.Operand.tmp 24), (Go.Operand.tmp 26)]) Try.underlying45 bs47 rfl rfl rfl rfl rfl (fun b27 => ?_)
    refine op_v (v_fieldB 1 Try.underlying49 rfl rfl fz47 rfl) rfl ?_
    refine op_v (v_loadA ty47 rfl rfl) rfl ?_
    refine op_v (v_fieldB 3 Try.underlying49 rfl rfl fz47 rfl) rfl ?_
    refine op_v (v_loadA ty47 rfl rfl) rfl ?_
    refine o_buildSlice (xs := [(Go.Operand.tmp 29), (Go.Operand.tmp 31)]) Try.underlying45 bs47 rfl rfl rfl rfl rfl (fun b32 => ?_)
    refine OpsJ.freezeRow Del.here ?_
    rintro I32 a32 c32 hI32 hq hc32 hl32 hcells32
    cases hq
    refine OpsJ.freezeRow Del.here ?_
    rintro I33 a33 c33 hI33 hq hc33 hl33 hcells33
    cases hq
    have hS1 : RepS I33 (.slice (some ⟨b27, 0, none⟩) 2 2) [a.l, a.r] := RowT.repS rfl hcells33 ((RowT.one (hpl.mono Imm.leA)).app (RowT.one (hpr.mono Imm.leA))) hc33 (by omega)
    have hS2 : RepS I33 (.slice (some ⟨b32, 0, none⟩) 2 2) [l.l, l.r] := RowT.repS rfl (hcells32.mono hI33) ((RowT.one (hll.mono Imm.leA)).app (RowT.one (hlr.mono Imm.leA))) hc32 (by omega)
    refine op_v (v_move rfl) rfl ?_
    refine op_call pl151 rfl rfl ((Gather_does hS1 hS2 (by simp) (hrow.mono Imm.leA) hsb hsz hsz1 (by omega))) (Parts.one Del.here) ?_
    rintro v34 I34 δ34 hI34 HR34
    rcases HR34 with ⟨A2, c2, xs2, bs2, rfl, rfl, hx2, hsb2, hl2, hiff2⟩ | ⟨rfl, rfl, hno2⟩
    · refine op_v (v_move rfl) rfl ?_
      refine op_v (v_extract rfl rfl) rfl ?_
      refine op_v (v_extract rfl rfl) rfl ?_
      refine op_v (v_assign rfl) rfl ?_
      refine op_v (v_assign rfl) rfl ?_
      refine ops_nil ?_
      refine post_next ?_
      refine code_seq_meet (fun σ' I' δ' => ∃ (L : List (List Bi)) (Ao : Option Addr) (co : Nat) (zs : List Value), σ' = [(2, .slice sA bs.length sC), (3, .pointer (some ⟨b3, 0, none⟩)), (4, .pointer (some ⟨b4, 0, none⟩)), (7, .slice Ao L.length co)] ∧ I.le I' ∧ δ' = [blRow Ao co L.length zs, .box b4 49 (liC l la lc ra rc), .box b3 49 (liC a pa pc qa qc)] ∧ RowE BiLE I' zs L ∧ L.length ≤ 1 ∧ (∀ b ∈ L, SmB b ∧ b.length ≤ bs.length + 2000000) ∧ ∀ θ, (Ext θ bs ∧ (pT θ a.l = l.l ∧ pT θ a.r = l.r)) ↔ ∃ b ∈ L, Ext θ b) ?_ ?_
      · refine code_seq ?_
        refine code_region ?_
        refine op_v (v_move rfl) rfl ?_
        refine ops_nil ?_
        refine post_next ?_
        refine code_cond_t rfl ?_
        refine code_region ?_
        refine OpsJ.freezeRow Del.here ?_
        rintro I38 a38 c38 hI38 hq hc38 hl38 hcells38
        cases hq
        have hB2 := (hx2.mono hI38).repB hcells38 hc38 (by omega)
        refine OpsJ.view (View.nilRow 51 1) ?_
        refine op_v (v_move rfl) rfl ?_
        refine op_v (v_move rfl) rfl ?_
        refine o_buildSlice (xs := [(Go.Operand.tmp 39)]) Try.underlying133 bs51 rfl rfl rfl rfl rfl (fun b40 => ?_)
        refine o_append Try.underlying133 bs51 rfl rfl rfl (fun v' => by repeat (first | exact Swap.here | apply Swap.there)) (Src.ofRow (by repeat (first | exact Has.here | apply Has.there)) rfl) (by first | rfl | omega | simp) (by simp [cat, cellsL, Value.oneCell']) (by omega) (by omega) (fun a41 c41 => ?_)
        refine op_v (v_assign rfl) rfl ?_
        refine ops_nil ?_
        refine PostJ.view (View.drop Del.here) ?_
        refine post_meet _ ⟨[bs2], a41, c41, [.slice A2 bs2.length c2], rfl, Imm.leA, rfl, RowE.single ⟨_, rfl, hB2⟩, by simp, fun b hb => by simp at hb; subst hb; exact ⟨hsb2, by omega⟩, fun θ => by rw [← two_iff, hiff2 θ]; simp⟩ ⟨rfl, rfl, rfl, rfl, trivial⟩
      · rintro _ J1 _ ⟨L, Ao, co, zs, rfl, hJ1, rfl, hzs, hL1, hLs, hiffL⟩
        refine code_seq ?_
        refine code_region ?_
        refine op_v (v_assign rfl) rfl ?_
        refine ops_nil ?_
        refine post_next ?_
        refine code_seq ?_
        refine code_region ?_
        refine op_v (v_move rfl) rfl ?_
        refine op_v (v_move rfl) rfl ?_
        refine OpsJ.view (View.nilRow 54 3) ?_
        refine o_append Try.underlying51 bs54 rfl rfl rfl (fun v' => by repeat (first | exact Swap.here | apply Swap.there)) (Src.ofI (hcells.mono Imm.leA)) hrow.length hrow.one1 (by omega) (by omega) (fun a44 c44 => ?_)
        rw [e0]
        refine op_v (v_assign rfl) rfl ?_
        refine ops_nil ?_
        refine post_next ?_
        refine code_seq ?_
        refine code_region ?_
        refine op_v (v_fieldB 1 Try.underlying49 rfl rfl fz47 rfl) rfl ?_
        refine op_v (v_loadA ty47 rfl rfl) rfl ?_
        refine op_v (v_fieldB 3 Try.underlying49 rfl rfl fz47 rfl) rfl ?_
        refine op_v (v_loadA ty47 rfl rfl) rfl ?_
        refine o_buildSlice (xs := [(Go.Operand.tmp 47), (Go.Operand.tmp 49)]) Try.underlying45 bs47 rfl rfl rfl rfl rfl (fun b50 => ?_)
        refine op_v (v_fieldB 3 Try.underlying49 rfl rfl fz47 rfl) rfl ?_
        refine op_v (v_loadA ty47 rfl rfl) rfl ?_
        refine op_v (v_fieldB 1 Try.underlying49 rfl rfl fz47 rfl) rfl ?_
        refine op_v (v_loadA ty47 rfl rfl) rfl ?_
        refine o_buildSlice (xs := [(Go.Operand.tmp 52), (Go.Operand.tmp 54)]) Try.underlying45 bs47 rfl rfl rfl rfl rfl (fun b55 => ?_)
        refine OpsJ.freezeRow Del.here ?_
        rintro I55 a55 c55 hI55 hq hc55 hl55 hcells55
        cases hq
        refine OpsJ.freezeRow Del.here ?_
        rintro I56 a56 c56 hI56 hq hc56 hl56 hcells56
        cases hq
        have hS3 : RepS I56 (.slice (some ⟨b50, 0, none⟩) 2 2) [a.l, a.r] := RowT.repS rfl hcells56 ((RowT.one (hpl.mono Imm.leA)).app (RowT.one (hpr.mono Imm.leA))) hc56 (by omega)
        have hS4 : RepS I56 (.slice (some ⟨b55, 0, none⟩) 2 2) [l.r, l.l] := RowT.repS rfl (hcells55.mono hI56) ((RowT.one (hlr.mono Imm.leA)).app (RowT.one (hll.mono Imm.leA))) hc55 (by omega)
        refine op_v (v_move rfl) rfl ?_
        refine op_call pl151 rfl rfl ((Gather_does hS3 hS4 (by simp) (hrow.mono Imm.leA) hsb hsz hsz2 (by omega))) (Parts.one Del.here) ?_
        rintro v57 I57 δ57 hI57 HR57
        rcases HR57 with ⟨A3, c3, xs3, bs3, rfl, rfl, hx3, hsb3, hl3, hiff3⟩ | ⟨rfl, rfl, hno3⟩
        · refine op_v (v_move rfl) rfl ?_
          refine op_v (v_extract rfl rfl) rfl ?_
          refine op_v (v_extract rfl rfl) rfl ?_
          refine op_v (v_assign rfl) rfl ?_
          refine op_v (v_assign rfl) rfl ?_
          refine ops_nil ?_
          refine post_next ?_
          refine code_seq_meet (fun σ' I' δ' => ∃ (L : List (List Bi)) (Ao : Option Addr) (co : Nat) (zs : List Value), σ' = [(7, .slice Ao L.length co)] ∧ I.le I' ∧ δ' = [blRow Ao co L.length zs, .box b4 49 (liC l la lc ra rc), .box b3 49 (liC a pa pc qa qc)] ∧ RowE BiLE I' zs L ∧ L.length ≤ 2 ∧ (∀ b ∈ L, SmB b ∧ b.length ≤ bs.length + 2000000) ∧ ∀ θ, (Ext θ bs ∧ ((pT θ a.l = l.l ∧ pT θ a.r = l.r) ∨ (pT θ a.l = l.r ∧ pT θ a.r = l.l))) ↔ ∃ b ∈ L, Ext θ b) ?_ ?_
          · refine code_seq ?_
            refine code_region ?_
            refine op_v (v_move rfl) rfl ?_
            refine ops_nil ?_
            refine post_next ?_
            refine code_cond_t rfl ?_
            refine code_region ?_
            refine OpsJ.freezeRow Del.here ?_
            rintro I61 a61 c61 hI61 hq hc61 hl61 hcells61
            cases hq
            have hB3 := (hx3.mono hI61).repB hcells61 hc61 (by omega)
            refine op_v (v_move rfl) rfl ?_
            refine op_v (v_move rfl) rfl ?_
            refine o_buildSlice (xs := [(Go.Operand.tmp 62)]) Try.underlying133 bs51 rfl rfl rfl rfl rfl (fun b63 => ?_)
            refine o_append Try.underlying133 bs51 rfl rfl rfl (fun v' => by repeat (first | exact Swap.here | apply Swap.there)) (Src.ofRow (by repeat (first | exact Has.here | apply Has.there)) rfl) (by first | rfl | omega | simp) (by simp [cat, cellsL, Value.oneCell']) (by omega) (by omega) (fun a64 c64 => ?_)
            refine op_v (v_assign rfl) rfl ?_
            refine ops_nil ?_
            refine PostJ.view (View.drop Del.here) ?_
            have hL2 : L.length + 1 = (L ++ [bs3]).length := by simp
            refine post_meet [(7, .slice a64 (L.length + 1) c64)] ⟨L ++ [bs3], a64, c64, zs ++ [.slice A3 bs3.length c3], by rw [← hL2], Imm.leA, by rw [← hL2]; rfl, (hzs.mono Imm.leA).app (RowE.single ⟨_, rfl, hB3⟩), by simp; omega, fun b hb => by rcases List.mem_append.1 hb with h | h; exact hLs b h; simp at h; subst h; exact ⟨hsb3, by omega⟩, fun θ => ?_⟩ ⟨rfl, trivial⟩
            have hL3 := hiffL θ
            have hL4 := hiff3 θ
            rw [two_iff] at hL4
            constructor
            · rintro ⟨e1, e2 | e2⟩
              · obtain ⟨b, hb, h⟩ := hL3.1 ⟨e1, e2⟩; exact ⟨b, List.mem_append_left _ hb, h⟩
              · exact ⟨bs3, by simp, hL4.1 ⟨e1, e2⟩⟩
            · rintro ⟨b, hb, h⟩
              rcases List.mem_append.1 hb with q | q
              · obtain ⟨e1, e2⟩ := hL3.2 ⟨b, q, h⟩; exact ⟨e1, .inl e2⟩
              · simp at q; subst q; obtain ⟨e1, e2⟩ := hL4.2 h; exact ⟨e1, .inr e2⟩
          · rintro _ J2 _ ⟨L, Ao, co, zs, rfl, hJ2, rfl, hzs, hL2, hLs, hiffL⟩
            refine code_seq ?_
            refine code_region ?_
            refine OpsJ.freezeRow Del.here ?_
            rintro I65 a65 c65 hI65 hq hc65 hl65 hcells65
            cases hq
            refine op_v (v_move rfl) rfl ?_
            refine op_v (v_assign rfl) rfl ?_
            refine ops_nil ?_
            refine post_next ?_
            refine code_ret ?_
            refine post_ret (rs := [.tmp 6]) rfl (List.Perm.refl _) (.cons (.tmp rfl) .nil) (List.nil_sublist _) ?_
            exact ⟨⟨L, ⟨Ao, co, zs, rfl, hc65, by omega, hcells65, hzs.mono hI65⟩, hL2, hLs, fun θ => by rw [← hiffL θ]; unfold litM; simp [hk]⟩, rfl⟩
        · refine op_v (v_move rfl) rfl ?_
          refine op_v (v_extract rfl rfl) rfl ?_
          refine op_v (v_extract rfl rfl) rfl ?_
          refine op_v (v_assign rfl) rfl ?_
          refine op_v (v_assign rfl) rfl ?_
          refine ops_nil ?_
          refine post_next ?_
          refine code_seq_meet (fun σ' I' δ' => ∃ (L : List (List Bi)) (Ao : Option Addr) (co : Nat) (zs : List Value), σ' = [(7, .slice Ao L.length co)] ∧ I.le I' ∧ δ' = [blRow Ao co L.length zs, .box b4 49 (liC l la lc ra rc), .box b3 49 (liC a pa pc qa qc)] ∧ RowE BiLE I' zs L ∧ L.length ≤ 2 ∧ (∀ b ∈ L, SmB b ∧ b.length ≤ bs.length + 2000000) ∧ ∀ θ, (Ext θ bs ∧ ((pT θ a.l = l.l ∧ pT θ a.r = l.r) ∨ (pT θ a.l = l.r ∧ pT θ a.r = l.l))) ↔ ∃ b ∈ L, Ext θ b) ?_ ?_
          · refine code_seq ?_
            refine code_region ?_
            refine op_v (v_move rfl) rfl ?_
            refine ops_nil ?_
            refine post_next ?_
            refine code_cond_f rfl ?_
            refine code_skip ?_
            refine post_meet _ ⟨L, Ao, co, zs, rfl, Imm.leA, rfl, hzs.mono Imm.leA, by omega, hLs, fun θ => ?_⟩ ⟨rfl, trivial⟩
            have hL3 := hiffL θ
            have hL4 := hno3 θ
            rw [two_iff] at hL4
            constructor
            · rintro ⟨e1, e2 | e2⟩
              · exact hL3.1 ⟨e1, e2⟩
              · exact absurd ⟨e1, e2⟩ hL4
            · intro h; obtain ⟨e1, e2⟩ := hL3.2 h; exact ⟨e1, .inl e2⟩
          · rintro _ J2 _ ⟨L, Ao, co, zs, rfl, hJ2, rfl, hzs, hL2, hLs, hiffL⟩
            refine code_seq ?_
            refine code_region ?_
            refine OpsJ.freezeRow Del.here ?_
            rintro I65 a65 c65 hI65 hq hc65 hl65 hcells65
            cases hq
            refine op_v (v_move rfl) rfl ?_
            refine op_v (v_assign rfl) rfl ?_
            refine ops_nil ?_
            refine post_next ?_
            refine code_ret ?_
            refine post_ret (rs := [.tmp 6]) rfl (List.Perm.refl _) (.cons (.tmp rfl) .nil) (List.nil_sublist _) ?_
            exact ⟨⟨L, ⟨Ao, co, zs, rfl, hc65, by omega, hcells65, hzs.mono hI65⟩, hL2, hLs, fun θ => by rw [← hiffL θ]; unfold litM; simp [hk]⟩, rfl⟩
    · refine op_v (v_move rfl) rfl ?_
      refine op_v (v_extract rfl rfl) rfl ?_
      refine op_v (v_extract rfl rfl) rfl ?_
      refine op_v (v_assign rfl) rfl ?_
      refine op_v (v_assign rfl) rfl ?_
      refine ops_nil ?_
      refine post_next ?_
      refine code_seq_meet (fun σ' I' δ' => ∃ (L : List (List Bi)) (Ao : Option Addr) (co : Nat) (zs : List Value), σ' = [(2, .slice sA bs.length sC), (3, .pointer (some ⟨b3, 0, none⟩)), (4, .pointer (some ⟨b4, 0, none⟩)), (7, .slice Ao L.length co)] ∧ I.le I' ∧ δ' = [blRow Ao co L.length zs, .box b4 49 (liC l la lc ra rc), .box b3 49 (liC a pa pc qa qc)] ∧ RowE BiLE I' zs L ∧ L.length ≤ 1 ∧ (∀ b ∈ L, SmB b ∧ b.length ≤ bs.length + 2000000) ∧ ∀ θ, (Ext θ bs ∧ (pT θ a.l = l.l ∧ pT θ a.r = l.r)) ↔ ∃ b ∈ L, Ext θ b) ?_ ?_
      · refine code_seq ?_
        refine code_region ?_
        refine op_v (v_move rfl) rfl ?_
        refine ops_nil ?_
        refine post_next ?_
        refine code_cond_f rfl ?_
        refine code_skip ?_
        refine PostJ.view (View.nilRow 51 1) ?_
        refine post_meet _ ⟨[], none, 0, [], rfl, Imm.leA, rfl, rfl, by simp, fun b hb => (by cases hb), fun θ => ⟨fun h => absurd (by rw [← two_iff] at h; exact h) (hno2 θ), fun ⟨b, hb, _⟩ => (by cases hb)⟩⟩ ⟨rfl, rfl, rfl, rfl, trivial⟩
      · rintro _ J1 _ ⟨L, Ao, co, zs, rfl, hJ1, rfl, hzs, hL1, hLs, hiffL⟩
        refine code_seq ?_
        refine code_region ?_
        refine op_v (v_assign rfl) rfl ?_
        refine ops_nil ?_
        refine post_next ?_
        refine code_seq ?_
        refine code_region ?_
        refine op_v (v_move rfl) rfl ?_
        refine op_v (v_move rfl) rfl ?_
        refine OpsJ.view (View.nilRow 54 3) ?_
        refine o_append Try.underlying51 bs54 rfl rfl rfl (fun v' => by repeat (first | exact Swap.here | apply Swap.there)) (Src.ofI (hcells.mono Imm.leA)) hrow.length hrow.one1 (by omega) (by omega) (fun a44 c44 => ?_)
        rw [e0]
        refine op_v (v_assign rfl) rfl ?_
        refine ops_nil ?_
        refine post_next ?_
        refine code_seq ?_
        refine code_region ?_
        refine op_v (v_fieldB 1 Try.underlying49 rfl rfl fz47 rfl) rfl ?_
        refine op_v (v_loadA ty47 rfl rfl) rfl ?_
        refine op_v (v_fieldB 3 Try.underlying49 rfl rfl fz47 rfl) rfl ?_
        refine op_v (v_loadA ty47 rfl rfl) rfl ?_
        refine o_buildSlice (xs := [(Go.Operand.tmp 47), (Go.Operand.tmp 49)]) Try.underlying45 bs47 rfl rfl rfl rfl rfl (fun b50 => ?_)
        refine op_v (v_fieldB 3 Try.underlying49 rfl rfl fz47 rfl) rfl ?_
        refine op_v (v_loadA ty47 rfl rfl) rfl ?_
        refine op_v (v_fieldB 1 Try.underlying49 rfl rfl fz47 rfl) rfl ?_
        refine op_v (v_loadA ty47 rfl rfl) rfl ?_
        refine o_buildSlice (xs := [(Go.Operand.tmp 52), (Go.Operand.tmp 54)]) Try.underlying45 bs47 rfl rfl rfl rfl rfl (fun b55 => ?_)
        refine OpsJ.freezeRow Del.here ?_
        rintro I55 a55 c55 hI55 hq hc55 hl55 hcells55
        cases hq
        refine OpsJ.freezeRow Del.here ?_
        rintro I56 a56 c56 hI56 hq hc56 hl56 hcells56
        cases hq
        have hS3 : RepS I56 (.slice (some ⟨b50, 0, none⟩) 2 2) [a.l, a.r] := RowT.repS rfl hcells56 ((RowT.one (hpl.mono Imm.leA)).app (RowT.one (hpr.mono Imm.leA))) hc56 (by omega)
        have hS4 : RepS I56 (.slice (some ⟨b55, 0, none⟩) 2 2) [l.r, l.l] := RowT.repS rfl (hcells55.mono hI56) ((RowT.one (hlr.mono Imm.leA)).app (RowT.one (hll.mono Imm.leA))) hc55 (by omega)
        refine op_v (v_move rfl) rfl ?_
        refine op_call pl151 rfl rfl ((Gather_does hS3 hS4 (by simp) (hrow.mono Imm.leA) hsb hsz hsz2 (by omega))) (Parts.one Del.here) ?_
        rintro v57 I57 δ57 hI57 HR57
        rcases HR57 with ⟨A3, c3, xs3, bs3, rfl, rfl, hx3, hsb3, hl3, hiff3⟩ | ⟨rfl, rfl, hno3⟩
        · refine op_v (v_move rfl) rfl ?_
          refine op_v (v_extract rfl rfl) rfl ?_
          refine op_v (v_extract rfl rfl) rfl ?_
          refine op_v (v_assign rfl) rfl ?_
          refine op_v (v_assign rfl) rfl ?_
          refine ops_nil ?_
          refine post_next ?_
          refine code_seq_meet (fun σ' I' δ' => ∃ (L : List (List Bi)) (Ao : Option Addr) (co : Nat) (zs : List Value), σ' = [(7, .slice Ao L.length co)] ∧ I.le I' ∧ δ' = [blRow Ao co L.length zs, .box b4 49 (liC l la lc ra rc), .box b3 49 (liC a pa pc qa qc)] ∧ RowE BiLE I' zs L ∧ L.length ≤ 2 ∧ (∀ b ∈ L, SmB b ∧ b.length ≤ bs.length + 2000000) ∧ ∀ θ, (Ext θ bs ∧ ((pT θ a.l = l.l ∧ pT θ a.r = l.r) ∨ (pT θ a.l = l.r ∧ pT θ a.r = l.l))) ↔ ∃ b ∈ L, Ext θ b) ?_ ?_
          · refine code_seq ?_
            refine code_region ?_
            refine op_v (v_move rfl) rfl ?_
            refine ops_nil ?_
            refine post_next ?_
            refine code_cond_t rfl ?_
            refine code_region ?_
            refine OpsJ.freezeRow Del.here ?_
            rintro I61 a61 c61 hI61 hq hc61 hl61 hcells61
            cases hq
            have hB3 := (hx3.mono hI61).repB hcells61 hc61 (by omega)
            refine op_v (v_move rfl) rfl ?_
            refine op_v (v_move rfl) rfl ?_
            refine o_buildSlice (xs := [(Go.Operand.tmp 62)]) Try.underlying133 bs51 rfl rfl rfl rfl rfl (fun b63 => ?_)
            refine o_append Try.underlying133 bs51 rfl rfl rfl (fun v' => by repeat (first | exact Swap.here | apply Swap.there)) (Src.ofRow (by repeat (first | exact Has.here | apply Has.there)) rfl) (by first | rfl | omega | simp) (by simp [cat, cellsL, Value.oneCell']) (by omega) (by omega) (fun a64 c64 => ?_)
            refine op_v (v_assign rfl) rfl ?_
            refine ops_nil ?_
            refine PostJ.view (View.drop Del.here) ?_
            have hL2 : L.length + 1 = (L ++ [bs3]).length := by simp
            refine post_meet [(7, .slice a64 (L.length + 1) c64)] ⟨L ++ [bs3], a64, c64, zs ++ [.slice A3 bs3.length c3], by rw [← hL2], Imm.leA, by rw [← hL2]; rfl, (hzs.mono Imm.leA).app (RowE.single ⟨_, rfl, hB3⟩), by simp; omega, fun b hb => by rcases List.mem_append.1 hb with h | h; exact hLs b h; simp at h; subst h; exact ⟨hsb3, by omega⟩, fun θ => ?_⟩ ⟨rfl, trivial⟩
            have hL3 := hiffL θ
            have hL4 := hiff3 θ
            rw [two_iff] at hL4
            constructor
            · rintro ⟨e1, e2 | e2⟩
              · obtain ⟨b, hb, h⟩ := hL3.1 ⟨e1, e2⟩; exact ⟨b, List.mem_append_left _ hb, h⟩
              · exact ⟨bs3, by simp, hL4.1 ⟨e1, e2⟩⟩
            · rintro ⟨b, hb, h⟩
              rcases List.mem_append.1 hb with q | q
              · obtain ⟨e1, e2⟩ := hL3.2 ⟨b, q, h⟩; exact ⟨e1, .inl e2⟩
              · simp at q; subst q; obtain ⟨e1, e2⟩ := hL4.2 h; exact ⟨e1, .inr e2⟩
          · rintro _ J2 _ ⟨L, Ao, co, zs, rfl, hJ2, rfl, hzs, hL2, hLs, hiffL⟩
            refine code_seq ?_
            refine code_region ?_
            refine OpsJ.freezeRow Del.here ?_
            rintro I65 a65 c65 hI65 hq hc65 hl65 hcells65
            cases hq
            refine op_v (v_move rfl) rfl ?_
            refine op_v (v_assign rfl) rfl ?_
            refine ops_nil ?_
            refine post_next ?_
            refine code_ret ?_
            refine post_ret (rs := [.tmp 6]) rfl (List.Perm.refl _) (.cons (.tmp rfl) .nil) (List.nil_sublist _) ?_
            exact ⟨⟨L, ⟨Ao, co, zs, rfl, hc65, by omega, hcells65, hzs.mono hI65⟩, hL2, hLs, fun θ => by rw [← hiffL θ]; unfold litM; simp [hk]⟩, rfl⟩
        · refine op_v (v_move rfl) rfl ?_
          refine op_v (v_extract rfl rfl) rfl ?_
          refine op_v (v_extract rfl rfl) rfl ?_
          refine op_v (v_assign rfl) rfl ?_
          refine op_v (v_assign rfl) rfl ?_
          refine ops_nil ?_
          refine post_next ?_
          refine code_seq_meet (fun σ' I' δ' => ∃ (L : List (List Bi)) (Ao : Option Addr) (co : Nat) (zs : List Value), σ' = [(7, .slice Ao L.length co)] ∧ I.le I' ∧ δ' = [blRow Ao co L.length zs, .box b4 49 (liC l la lc ra rc), .box b3 49 (liC a pa pc qa qc)] ∧ RowE BiLE I' zs L ∧ L.length ≤ 2 ∧ (∀ b ∈ L, SmB b ∧ b.length ≤ bs.length + 2000000) ∧ ∀ θ, (Ext θ bs ∧ ((pT θ a.l = l.l ∧ pT θ a.r = l.r) ∨ (pT θ a.l = l.r ∧ pT θ a.r = l.l))) ↔ ∃ b ∈ L, Ext θ b) ?_ ?_
          · refine code_seq ?_
            refine code_region ?_
            refine op_v (v_move rfl) rfl ?_
            refine ops_nil ?_
            refine post_next ?_
            refine code_cond_f rfl ?_
            refine code_skip ?_
            refine post_meet _ ⟨L, Ao, co, zs, rfl, Imm.leA, rfl, hzs.mono Imm.leA, by omega, hLs, fun θ => ?_⟩ ⟨rfl, trivial⟩
            have hL3 := hiffL θ
            have hL4 := hno3 θ
            rw [two_iff] at hL4
            constructor
            · rintro ⟨e1, e2 | e2⟩
              · exact hL3.1 ⟨e1, e2⟩
              · exact absurd ⟨e1, e2⟩ hL4
            · intro h; obtain ⟨e1, e2⟩ := hL3.2 h; exact ⟨e1, .inl e2⟩
          · rintro _ J2 _ ⟨L, Ao, co, zs, rfl, hJ2, rfl, hzs, hL2, hLs, hiffL⟩
            refine code_seq ?_
            refine code_region ?_
            refine OpsJ.freezeRow Del.here ?_
            rintro I65 a65 c65 hI65 hq hc65 hl65 hcells65
            cases hq
            refine op_v (v_move rfl) rfl ?_
            refine op_v (v_assign rfl) rfl ?_
            refine ops_nil ?_
            refine post_next ?_
            refine code_ret ?_
            refine post_ret (rs := [.tmp 6]) rfl (List.Perm.refl _) (.cons (.tmp rfl) .nil) (List.nil_sublist _) ?_
            exact ⟨⟨L, ⟨Ao, co, zs, rfl, hc65, by omega, hcells65, hzs.mono hI65⟩, hL2, hLs, fun θ => by rw [← hiffL θ]; unfold litM; simp [hk]⟩, rfl⟩
  · refine e_fl rfl rfl (fun hs_ => PF.mk rfl (v_eqb (z := true) Try.underlying4 rfl rfl (by simp [cmpB, hk])) hs_) ?_
    refine e_done ?_
    refine post_next ?_
    refine code_cond_t rfl ?_
    refine code_seq ?_
    refine code_region ?_
    refine op_v (v_assign rfl) rfl ?_
    refine ops_nil ?_
    refine post_next ?_
    refine code_ret ?_
    refine post_ret_then ?_
    refine post_ret (rs := [.tmp 6]) rfl (List.Perm.refl _) (.cons (.tmp rfl) .nil) (List.nil_sublist _) ?_
    exact ⟨⟨[], RepE.nil, by simp, fun b hb => (by cases hb), fun θ => ⟨fun h => absurd h.2.1 hk, fun ⟨b, hb, _⟩ => (by cases hb)⟩⟩, rfl⟩
end Go.Proofs.Ytdbadicpbmndbaa
/- The rules of the logic: arrays as values. No condition. -/
set_option linter.unusedVariables false
set_option linter.unusedSimpArgs false
namespace Go.Proofs.Ytdbadicpbmndbaa.Lg
open Go Go.RowKit

variable {C : Ctx} {Q : Exit → Act → World → Prop} {σ : Env} {ds : List Nat} {I : Imm} {δ : List Ent} {ops : Array Oper} {rest : List Oper}
variable {d : Nat} {ty : TypeId} {pos : String} {after : Array Edge}

/-- an array out of its parts; what the instruction yields is computed -/
theorem v_buildK {t : TypeId} {parts : List (Nat × Operand)} {vs : List (Nat × Value)} {v : Value} (hx : evP σ parts = some vs) (h : ∀ w, (Instr.build t vs.toArray).run C.P w = .ok v w) :
    ValJ C σ ds I δ (.build t parts.toArray) v :=
  fun _ _ _ _ _ a w he _ => by
    have hmap : parts.toArray.map (fun (x : Nat × Operand) => match x with | (i, x) => (i, a.eval x)) = vs.toArray := by
      rw [← evP_ok he hx]; simp
    simp only [execOp, hmap, Sem.run_bind, h, Result.andThen]; rfl
end Go.Proofs.Ytdbadicpbmndbaa.Lg
/- The rules of the logic: maps against nil, a map in an interface, a map's clone. No condition. -/
set_option linter.unusedVariables false
set_option linter.unusedSimpArgs false
namespace Go.Proofs.Ytdbadicpbmndbaa.Lg
open Go Go.RowKit

variable {C : Ctx} {Q : Exit → Act → World → Prop} {σ : Env} {ds : List Nat} {I : Imm} {δ : List Ent} {ops : Array Oper} {rest : List Oper}
variable {d : Nat} {ty : TypeId} {pos : String} {after : Array Edge}

def cmpM : BinOp → Option Nat → Option Bool
  | .eql, a => some a.isNone
  | .neq, a => some a.isSome
  | _, _ => none
theorem v_mapq {op : BinOp} {t kt e : TypeId} {t' : TypeId} {x y : Operand} {p : Option Nat} {z : Bool} (ht : C.P.underlying t = some (.map kt e))
    (hx : evS σ x = some (.map p)) (hy : evS σ y = some (.map none)) (hz : cmpM op p = some z) : ValJ C σ ds I δ (.binOp op t x y t') (.bool z) :=
  v_bin hx hy (fun w => by unfold eqGuard; cases op <;> rfl) (fun w => by
    have hu : (underlying t).run C.P w = .ok (.map kt e) w := by simp [underlying, program, Sem.run, ht]
    have he : (Op.equal t (.map p) (.map none)).run C.P w = .ok p.isNone w := by
      show (Op.equalIn (9999 + 1) t (.map p) (.map none)).run C.P w = _
      rw [Op.equalIn]
      simp only [Sem.run_bind, hu, Result.andThen]
      cases p <;> rfl
    have h2 : ∀ f : Bool → Bool, (do pure (Value.bool (f (← Op.equal t (.map p) (.map none)))) : Sem Value).run C.P w = .ok (.bool (f p.isNone)) w := fun f => by simp only [Sem.run_bind, he, Result.andThen]; rfl
    cases op <;> simp only [cmpM, Option.some.injEq, reduceCtorEq] at hz
    · subst hz; exact h2 id
    · subst hz; have := h2 not; cases p <;> exact this)
theorem v_ifaceM {t kt e : TypeId} {x : Operand} {v : Value} (ht : C.P.underlying t = some (.map kt e)) (hx : evS σ x = some v) : ValJ C σ ds I δ (.makeInterface t x) (.iface t v) :=
  fun _ _ _ _ _ a w he _ => by
    have hu : (underlying t).run C.P w = .ok (.map kt e) w := by simp [underlying, program, Sem.run, ht]
    simp [execOp, he.ev hx, Instr.makeInterface, hu, Result.andThen]
theorem v_assertM {t xT kt e : TypeId} {x : Operand} {v : Value} (ht : C.P.underlying t = some (.map kt e)) (hx : evS σ x = some (.iface t v)) : ValJ C σ ds I δ (.typeAssert x xT t false) v :=
  fun _ _ _ _ _ a w he _ => by
    have hu : (underlying t).run C.P w = .ok (.map kt e) w := by simp [underlying, program, Sem.run, ht]
    simp [execOp, he.ev hx, Instr.typeAssert, hu, Result.andThen]
theorem v_indexArr {C : Ctx} {σ : Env} {ds : List Nat} {I : Imm} {δ : List Ent} {t e : TypeId} {x y : Operand} {b n i size : Nat} (ht : C.P.underlying t = some (.array n e)) (hsz : (C.P.info? e).map (·.size) = some size)
    (hx : evS σ x = some (.pointer (some ⟨b, 0, none⟩))) (hy : evS σ y = some (.int .i64 (i : Int))) (hi : i < n) : ValJ C σ ds I δ (.indexAddr t x y) (.pointer (some ⟨b, i * size, none⟩)) :=
  fun _ _ _ _ _ => (fun a w he _ => by
    have hu : (underlying t).run C.P w = .ok (.array n e) w := by simp [underlying, program, Sem.run, ht]
    cases hq : C.P.info? e with
    | none => simp [hq] at hsz
    | some inf =>
      simp [hq] at hsz
      simp [execOp, he.ev hx, he.ev hy, Instr.indexAt, asIntOf, hu, Instr.sureAddr, sizeOf, typeInfo, program, Sem.run, hq, hsz, Addr.add]
      split
      · simp; intro q; exact q.symm
      · omega)
theorem o_mapsClone {f : FuncId} {fn : Func} {t : TypeId} {x : Operand} {tys : Array TypeId} {b : Nat} {xs : Mp}
    (hf : C.P.funcs[f]? = some fn) (hname : (fn.name == "runtime.NumGoroutine") = false) (hb : fn.body.isNone = true) (hn : Extern.findNext fn = none) (he : Extern.find fn = some Extern.MapsClone.clone)
    (hd : Nat.blt d C.n = true) (hx : evS σ x = some (.iface t (.map (some b)))) (hh : Has δ (.map b xs))
    (k : ∀ b', OpsJ C ops Q rest ((d, .iface t (.map (some b'))) :: σ) ds I (.map b' xs :: δ)) :
    OpsJ C ops Q ({ dst := some d, op := .call { callee := .value (.func f), args := #[x], argTypes := tys }, type := ty, pos := pos, after := after, guard := none } :: rest) σ ds I δ :=
  op_step rfl rfl hd (by intro c hc; cases hc) (fun a w he' hs => by
    obtain ⟨es, clock, hb', hm⟩ := hs.ents _ hh.mem
    obtain ⟨s', t'⟩ := hs.alloc (.map w.heap.size xs) (.map es clock) rfl ⟨es, clock, heap_alloc_new w _, hm⟩
    refine ⟨_, _, _, _, ?_, s', t', k w.heap.size⟩
    have e1 : Extern.MapsClone.clone #[.iface t (.map (some b))] = (getObj b >>= fun o => match o with
      | .map entries clock => (newObj (.map entries clock) >>= fun n => pure (.iface t (.map (some n))))
      | _ => stuck "maps.clone: a map expected") := rfl
    have e2 : (Extern.MapsClone.clone #[.iface t (.map (some b))]).run C.P w = .ok (.iface t (.map (some w.heap.size))) (w.alloc (.map es clock)) := by
      rw [e1]; simp [MapKept.run_getObj_map hb', Result.andThen, newObj, Sem.run]
    have e3 : (callFunc f #[.iface t (.map (some b))]).run C.P w = .ok (.value (.iface t (.map (some w.heap.size)))) (w.alloc (.map es clock)) := by
      rw [run_callFunc_extern hf hname hb hn he, e2]; rfl
    have e4 : (execOp a.eval { dst := some d, op := .call { callee := .value (.func f), args := #[x], argTypes := tys }, type := ty, pos := pos, after := after, guard := none }).run C.P w = (callFunc f #[.iface t (.map (some b))]).run C.P w := by
      have hev : a.eval (.func f) = .func (.func f) #[] #[] := rfl
      simp only [execOp, resolve, Sem.run_bind, Sem.run_pure, Result.andThen]
      simp [he'.ev hx, hev, Deferred.ofValue, invoke, Result.andThen]
    rw [e4, e3])
end Go.Proofs.Ytdbadicpbmndbaa.Lg
