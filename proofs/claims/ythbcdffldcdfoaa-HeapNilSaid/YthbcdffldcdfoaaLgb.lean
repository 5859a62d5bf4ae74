/- The judgements of the logic: code, operations, contracts of functions and of function values. No condition. -/
import Derived.Test.YthbcdffldcdfoaaLga
namespace Go.Proofs.Ythbcdffldcdfoaa.Lg
open Go Go.RowKit

structure Ctx where
  P : Program
  r : Option Nat
  n : Nat
  w0 : World
  I0 : Imm
  δ0 : List Ent

def Ctx.F (C : Ctx) : Fence := { Fence.wide with round := C.r }
theorem Ctx.fn (C : Ctx) (f : FuncId) : C.F.fn f := trivial

def CodeJ (C : Ctx) (c : Code) (Q : Exit → Act → World → Prop) (σ : Env) (ds : List Nat) (I : Imm) (δ : List Ent) : Prop :=
  ∀ a w, EnvOK C.n σ ds a → Sat w I δ → Tr C.w0 C.I0 C.δ0 w I δ → c.wpIn C.F 0 C.P Q a w
def OpsJ (C : Ctx) (ops : Array Oper) (Q : Exit → Act → World → Prop) (rest : List Oper) (σ : Env) (ds : List Nat) (I : Imm) (δ : List Ent) : Prop :=
  ∀ a w, EnvOK C.n σ ds a → Sat w I δ → Tr C.w0 C.I0 C.δ0 w I δ → wpListIn C.F 0 C.P ops Q rest a w
def PostJ (C : Ctx) (Q : Exit → Act → World → Prop) (e : Exit) (σ : Env) (ds : List Nat) (I : Imm) (δ : List Ent) : Prop :=
  ∀ a w, EnvOK C.n σ ds a → Sat w I δ → Tr C.w0 C.I0 C.δ0 w I δ → Q e a w

variable {C : Ctx} {Q : Exit → Act → World → Prop} {σ : Env} {ds : List Nat} {I : Imm} {δ : List Ent} {ops : Array Oper} {rest : List Oper}

theorem code_region {id : Nat} {l : List Oper} (h : OpsJ C l.toArray Q l σ ds I δ) : CodeJ C (.region id l.toArray false) Q σ ds I δ :=
  fun a w he hs ht => wpIn_region_lit (h a w he hs ht)
theorem code_seq {x y : Code} (h : CodeJ C x (Exit.then (y.wpIn C.F 0 C.P Q) Q) σ ds I δ) : CodeJ C (.seq x y) Q σ ds I δ :=
  fun a w he hs ht => wpIn_seq (h a w he hs ht)
theorem code_block {id : Nat} {c : Code} (h : CodeJ C c (Exit.inBlock id Q) σ ds I δ) : CodeJ C (.block id c) Q σ ds I δ :=
  fun a w he hs ht => wpIn_block (h a w he hs ht)
theorem code_skip (h : PostJ C Q .normal σ ds I δ) : CodeJ C .skip Q σ ds I δ := fun a w he hs ht => wpIn_skip (h a w he hs ht)
theorem code_label {l : Nat} (h : PostJ C Q .normal σ ds I δ) : CodeJ C (.label l) Q σ ds I δ := fun a w he hs ht => wpIn_label (h a w he hs ht)
theorem code_ret (h : PostJ C Q .ret σ ds I δ) : CodeJ C .ret Q σ ds I δ := fun a w he hs ht => wpIn_ret (h a w he hs ht)
theorem code_exit {id : Nat} (h : PostJ C Q (.exit id) σ ds I δ) : CodeJ C (.exit id) Q σ ds I δ := fun a w he hs ht => wpIn_exit (h a w he hs ht)
theorem code_goto {l : Nat} (h : PostJ C Q (.goto l) σ ds I δ) : CodeJ C (.goto l) Q σ ds I δ := fun a w he hs ht => wpIn_goto (h a w he hs ht)
theorem code_cond {x y : Code} {o : Operand} {t : Bool} (hc : evS σ o = some (.bool t)) (ht : t = true → CodeJ C x Q σ ds I δ) (hf : t = false → CodeJ C y Q σ ds I δ) :
    CodeJ C (.cond o x y) Q σ ds I δ :=
  fun a w he hs htr => wpIn_cond_split (he.ev hc) (fun h => ht h a w he hs htr) (fun h => hf h a w he hs htr)
theorem code_cond_t {x y : Code} {o : Operand} (hc : evS σ o = some (.bool true)) (ht : CodeJ C x Q σ ds I δ) : CodeJ C (.cond o x y) Q σ ds I δ :=
  fun a w he hs htr => wpIn_cond_true (he.ev hc) (ht a w he hs htr)
theorem code_cond_f {x y : Code} {o : Operand} (hc : evS σ o = some (.bool false)) (ht : CodeJ C y Q σ ds I δ) : CodeJ C (.cond o x y) Q σ ds I δ :=
  fun a w he hs htr => wpIn_cond_false (he.ev hc) (ht a w he hs htr)

theorem ops_nil (h : PostJ C Q .normal σ ds I δ) : OpsJ C ops Q [] σ ds I δ := fun a w he hs ht => wpListIn_nil (h a w he hs ht)
/-- What follows in sequence. -/
theorem post_next {y : Code} (h : CodeJ C y Q σ ds I δ) : PostJ C (Exit.then (y.wpIn C.F 0 C.P Q) Q) .normal σ ds I δ := h
theorem post_out {id : Nat} (h : PostJ C Q .normal σ ds I δ) : PostJ C (Exit.inBlock id Q) .normal σ ds I δ := h
theorem post_exit {id : Nat} (h : PostJ C Q .normal σ ds I δ) : PostJ C (Exit.inBlock id Q) (.exit id) σ ds I δ :=
  fun a w he hs ht => by simp only [Exit.inBlock, if_true]; exact h a w he hs ht
theorem post_exit_ne {id id' : Nat} (hne : Nat.beq id' id = false) (h : PostJ C Q (.exit id') σ ds I δ) : PostJ C (Exit.inBlock id Q) (.exit id') σ ds I δ :=
  fun a w he hs ht => by
    have : ¬ id' = id := fun e => by subst e; simp at hne
    simp only [Exit.inBlock, if_neg this]
    exact h a w he hs ht
theorem post_ret_then {K : Act → World → Prop} (h : PostJ C Q .ret σ ds I δ) : PostJ C (Exit.then K Q) .ret σ ds I δ := h
theorem post_ret_block {id : Nat} (h : PostJ C Q .ret σ ds I δ) : PostJ C (Exit.inBlock id Q) .ret σ ds I δ := h
theorem post_exit_then {K : Act → World → Prop} {id : Nat} (h : PostJ C Q (.exit id) σ ds I δ) : PostJ C (Exit.then K Q) (.exit id) σ ds I δ := h

/-! ### weaker states -/
theorem CodeJ.sub {c : Code} {σ' : Env} (h : CodeJ C c Q σ' ds I δ) (hs : SubEnv σ' σ) : CodeJ C c Q σ ds I δ := fun a w he hsat ht => h a w (he.sub hs) hsat ht
theorem PostJ.sub {e : Exit} {σ' : Env} (h : PostJ C Q e σ' ds I δ) (hs : SubEnv σ' σ) : PostJ C Q e σ ds I δ := fun a w he hsat ht => h a w (he.sub hs) hsat ht
theorem OpsJ.sub {σ' : Env} (h : OpsJ C ops Q rest σ' ds I δ) (hs : SubEnv σ' σ) : OpsJ C ops Q rest σ ds I δ := fun a w he hsat ht => h a w (he.sub hs) hsat ht

/-- A change of the view of the heap that costs no step. -/
def View (I : Imm) (δ : List Ent) (I' : Imm) (δ' : List Ent) : Prop := ∀ w, Sat w I δ → Sat w I' δ' ∧ Tr w I δ w I' δ'
theorem OpsJ.view {I' : Imm} {δ' : List Ent} (hv : View I δ I' δ') (h : OpsJ C ops Q rest σ ds I' δ') : OpsJ C ops Q rest σ ds I δ :=
  fun a w he hs ht => h a w he (hv w hs).1 (ht.trans (hv w hs).2)
theorem CodeJ.view {c : Code} {I' : Imm} {δ' : List Ent} (hv : View I δ I' δ') (h : CodeJ C c Q σ ds I' δ') : CodeJ C c Q σ ds I δ :=
  fun a w he hs ht => h a w he (hv w hs).1 (ht.trans (hv w hs).2)
theorem PostJ.view {e : Exit} {I' : Imm} {δ' : List Ent} (hv : View I δ I' δ') (h : PostJ C Q e σ ds I' δ') : PostJ C Q e σ ds I δ :=
  fun a w he hs ht => h a w he (hv w hs).1 (ht.trans (hv w hs).2)
theorem View.perm {δ' : List Ent} (hp : δ.Perm δ') : View I δ I δ' := fun w h => ⟨h.perm hp, (Tr.refl w I δ).permR hp⟩
theorem View.drop {x : Ent} {δ' : List Ent} (hd : Del δ x δ') : View I δ I δ' := fun w h =>
  let h1 := h.perm hd.perm
  ⟨h1.drop.1, ((Tr.refl w I δ).permR hd.perm).trans h1.drop.2⟩
theorem View.trans {I1 I2 : Imm} {δ1 δ2 : List Ent} (h : View I δ I1 δ1) (k : View I1 δ1 I2 δ2) : View I δ I2 δ2 := fun w hs =>
  ⟨(k w (h w hs).1).1, (h w hs).2.trans (k w (h w hs).1).2⟩
theorem Sat.sub {w : World} {δ' : List Ent} (h : Sat w I δ) (hs : δ'.Sublist δ) : Sat w I δ' ∧ Tr w I δ w I δ' :=
  have hb : (blks δ').Sublist (blks δ) := hs.filterMap _
  ⟨⟨h.imm, fun x hx => h.ents x (hs.subset hx), h.nodup.sublist hb, fun b hm => h.apart b (hb.subset hm)⟩,
    ⟨rfl, rfl, rfl, Nat.le_refl _, fun _ _ _ => rfl, Imm.le_refl _, fun b o h1 h2 => (by rw [h1] at h2; cases h2), fun b hm => .inl (hb.subset hm)⟩⟩
theorem View.sub {δ' : List Ent} (hs : δ'.Sublist δ) : View I δ I δ' := fun _ h => h.sub hs
theorem View.nil : View I δ I [] := View.sub (List.nil_sublist _)
/-- A box becomes immutable. -/
theorem View.freezeBox {b : Nat} {e : TypeId} {cs : List Value} {δ' : List Ent} (hd : Del δ (.box b e cs) δ') : View I δ (I.ins b (.cells cs.toArray e (0, 0))) δ' := fun w h =>
  let h1 := h.perm hd.perm
  let h2 := h1.freeze (b := b) rfl (h1.ents _ (List.mem_cons_self ..))
  ⟨h2.1, ((Tr.refl w I δ).permR hd.perm).trans h2.2.1⟩

/-- An immutable row of cells at a slice's address. -/
def Cells (I : Imm) (ad : Option Addr) (xs : List Value) : Prop := ∀ j v, xs[j]? = some v → I.cellO (ad.map (·.add j)) = some v
theorem Cells.mono {J : Imm} {ad : Option Addr} {xs : List Value} (h : Cells I ad xs) (hl : I.le J) : Cells J ad xs := fun j v hj => Imm.le_cellO hl (h j v hj)

/-- An owned row becomes immutable. -/
theorem OpsJ.freezeRow {v : Value} {e : TypeId} {size n : Nat} {xs : List Value} {δ' : List Ent} (hd : Del δ (.row v e size n xs) δ')
    (h : ∀ I' ad cap, I.le I' → v = .slice ad n cap → n ≤ cap → xs.length = n * size → Cells I' ad xs → OpsJ C ops Q rest σ ds I' δ') : OpsJ C ops Q rest σ ds I δ := by
  intro a w he hs ht
  have h1 := hs.perm hd.perm
  have t1 := ht.permR hd.perm
  obtain ⟨hl, hx⟩ : w.ownsRow 0 e size v n xs := h1.ents _ (List.mem_cons_self ..)
  rcases hx with ⟨rfl, rfl⟩ | ⟨g, cap, cur, rfl, _, hh, hnc, _, hcs, htk⟩
  · obtain ⟨s2, t2⟩ := h1.drop
    have hnil : xs = [] := List.eq_nil_of_length_eq_zero (by omega)
    subst hnil
    exact h I none 0 (Imm.le_refl _) rfl (Nat.le_refl _) hl (fun j v hj => by simp at hj) a w he s2 (t1.trans t2)
  · obtain ⟨s2, t2, hle⟩ := h1.freeze (b := g) rfl hh
    refine h (I.ins g _) (some ⟨g, 0, none⟩) cap hle rfl hnc hl (fun j v hj => ?_) a w he s2 (t1.trans t2)
    have hadd : (⟨g, 0, none⟩ : Addr).add j = ⟨g, j, none⟩ := by unfold Addr.add; split <;> simp_all
    have hjn : j < n * size := by rw [← hl]; exact (List.getElem?_eq_some_iff.1 hj).1
    rw [← htk] at hj
    rw [List.getElem?_take_of_lt hjn] at hj
    simp only [Option.map_some, Imm.cellO, Imm.cell, hadd, Imm.ins, if_true]
    simpa using hj

/-! ### contracts -/
def Ret (w0 : World) (I : Imm) (δ : List Ent) (R : Value → Imm → List Ent → Prop) : Ending → World → Prop := fun e w' =>
  ∃ v I' δ', e = .returned v ∧ Sat w' I' δ' ∧ Tr w0 I δ w' I' δ' ∧ R v I' δ'

def Does (P : Program) (f : FuncId) (args : List Value) (I : Imm) (δ : List Ent) (R : Value → Imm → List Ent → Prop) : Prop :=
  ∀ w, Sat w I δ → Calls P f args.toArray w (Ret w I δ R)

theorem Does.mono {P : Program} {f : FuncId} {args : List Value} {R R' : Value → Imm → List Ent → Prop} (h : Does P f args I δ R) (hr : ∀ v I' δ', I.le I' → R v I' δ' → R' v I' δ') : Does P f args I δ R' :=
  fun w hs => (h w hs).mono fun _ _ ⟨v, I', δ', h1, h2, h3, h4⟩ => ⟨v, I', δ', h1, h2, h3, hr _ _ _ h3.imm h4⟩

/-- A call of a function value: it comes to a function of the program, or to a round of a loop. -/
def FRun (P : Program) (fv : Value) (args : Array Value) (w : World) (R : Ending → World → Prop) : Prop :=
  ∃ d, (Deferred.ofValue fv args).run P w = .ok d w ∧
    ((∃ f ars, (invoke d.target d.args).run P w = .ok (.enter f ars) w ∧ Calls P f ars w R) ∨
     (∃ l f tmps ars body, (invoke d.target d.args).run P w = .ok (.round l f tmps ars body) w ∧ RoundIn Fence.wide 0 P l f tmps ars body w R))

def FDoes (P : Program) (fv : Value) (args : List Value) (I : Imm) (δ : List Ent) (R : Value → Imm → List Ent → Prop) : Prop :=
  ∀ w, Sat w I δ → FRun P fv args.toArray w (Ret w I δ R)

theorem FDoes.mono {P : Program} {fv : Value} {args : List Value} {R R' : Value → Imm → List Ent → Prop} (h : FDoes P fv args I δ R) (hr : ∀ v I' δ', I.le I' → R v I' δ' → R' v I' δ') : FDoes P fv args I δ R' := by
  intro w hs
  have hm : ∀ e w', Ret w I δ R e w' → Ret w I δ R' e w' := fun _ _ ⟨v, I', δ', h1, h2, h3, h4⟩ => ⟨v, I', δ', h1, h2, h3, hr _ _ _ h3.imm h4⟩
  obtain ⟨d, hd, h⟩ := h w hs
  refine ⟨d, hd, ?_⟩
  rcases h with ⟨f, ars, h1, h2⟩ | ⟨l, f, tmps, ars, body, h1, h2⟩
  · exact .inl ⟨f, ars, h1, h2.mono hm⟩
  · exact .inr ⟨l, f, tmps, ars, body, h1, h2.mono hm⟩

/-- A function of the program with a body, not the one that the model counts goroutines by. -/
def Plainf (P : Program) (f : FuncId) : Bool :=
  match P.funcs[f]? with
  | some fn => !(fn.name == "runtime.NumGoroutine") && fn.body.isSome
  | none => false

theorem run_callFunc {P : Program} {f : FuncId} (h : Plainf P f = true) (args : Array Value) (w : World) : (callFunc f args).run P w = .ok (.enter f args) w := by
  unfold Plainf at h
  cases hf : P.funcs[f]? with
  | none => simp [hf] at h
  | some fn =>
    simp only [hf, Bool.and_eq_true, Bool.not_eq_true'] at h
    obtain ⟨h1, h2⟩ := h
    have h3 : fn.body.isNone = false := by cases hb : fn.body <;> simp_all
    simp only [callFunc, Sem.run_bind, program, Sem.run, Result.andThen, hf, h1, h3, Bool.false_eq_true, if_false]
    rfl

theorem FDoes.ofFunc {P : Program} {f : FuncId} {caps args : List Value} {R : Value → Imm → List Ent → Prop} (hp : Plainf P f = true) (h : Does P f (args ++ caps) I δ R) :
    FDoes P (.func (.func f) #[] caps.toArray) args I δ R := by
  intro w hs
  refine ⟨{ target := .fn (.func f) caps.toArray, args := args.toArray }, by simp [Deferred.ofValue], .inl ⟨f, (args ++ caps).toArray, ?_, h w hs⟩⟩
  simp only [invoke]
  rw [run_callFunc hp]
  simp

theorem Does.toF {P : Program} {f : FuncId} {args : List Value} {R : Value → Imm → List Ent → Prop} (hp : Plainf P f = true) (h : Does P f args I δ R) :
    FDoes P (.func (.func f) #[] #[]) args I δ R := FDoes.ofFunc (caps := []) hp (by simpa using h)

/-- What is asked of the rest of the heap. -/
def Parts (δ δc δr : List Ent) : Prop := δ.Perm (δc ++ δr)
theorem Parts.none : Parts δ [] δ := List.Perm.refl _
theorem Parts.one {x : Ent} {δ' : List Ent} (h : Del δ x δ') : Parts δ [x] δ' := h.perm
theorem Parts.two {x y : Ent} {δ' δ'' : List Ent} (h : Del δ x δ') (k : Del δ' y δ'') : Parts δ [x, y] δ'' := h.perm.trans (List.Perm.cons _ k.perm)
theorem Parts.all : Parts δ δ [] := by simp [Parts]

theorem wideRound {C : Ctx} {l : Nat} (h : C.r = some l) : C.F = Fence.wide.inRound l := by simp [Ctx.F, Fence.inRound, h]
theorem wideNone {C : Ctx} (h : C.r = none) : C.F = Fence.wide := by simp [Ctx.F, h]; rfl

theorem callsC {n : Nat} {f : FuncId} {args : Array Value} {w : World} {R : Ending → World → Prop} (h : Calls C.P f args w R) : CallsIn C.F n C.P f args w R := by
  have h' := (callsIn_wide (n := n)).2 h
  cases hr : C.r with
  | none => rw [wideNone hr]; exact h'
  | some l => rw [wideRound hr]; exact h'.inRound l
theorem roundC {l : Nat} {f : FuncId} {tmps : Array Value} {ars body : Code} {w : World} {R : Ending → World → Prop} (h : RoundIn Fence.wide 0 C.P l f tmps ars body w R) : RoundIn C.F 0 C.P l f tmps ars body w R := by
  cases hr : C.r with
  | none => rw [wideNone hr]; exact h
  | some l' => rw [wideRound hr]; exact h

theorem semAt_eq (r : Option Nat) (ρ : Operand → Value) (o : Oper) (h : ∀ c, o.op ≠ .defer c) : Oper.semAt r ρ o = execOp ρ o := by
  cases r with
  | none => rfl
  | some l => exact Oper.semAt_some l ρ o h

/-- A call of a function value, or of a function. -/
theorem op_fcall {d : Nat} {x : Operand} {xs : List Operand} {tys : Array TypeId} {ty : TypeId} {pos : String} {after : Array Edge} {fv : Value} {vs : List Value} {δc δr : List Ent} {R : Value → Imm → List Ent → Prop}
    (hx : evS σ x = some fv) (hxs : evL σ xs = some vs) (hd : Nat.blt d C.n = true) (hs : FDoes C.P fv vs I δc R) (hp : Parts δ δc δr)
    (k : ∀ v I' δ', I.le I' → R v I' δ' → OpsJ C ops Q rest ((d, v) :: σ) ds I' (δ' ++ δr)) :
    OpsJ C ops Q ({ dst := some d, op := .call { callee := .value x, args := xs.toArray, argTypes := tys }, type := ty, pos := pos, after := after, guard := none } :: rest) σ ds I δ := by
  intro a w he hsat ht
  have hsat1 := hsat.perm hp
  have ht1 := ht.permR hp
  have hcs : Sat w I δc := by
    have hb : blks (δc ++ δr) = blks δc ++ blks δr := List.filterMap_append
    have hnd := hsat1.nodup
    rw [hb, List.nodup_append] at hnd
    exact ⟨hsat1.imm, fun y hy => hsat1.ents y (List.mem_append_left _ hy), hnd.1, fun b hb1 => hsat1.apart b (by rw [hb]; exact List.mem_append_left _ hb1)⟩
  obtain ⟨dd, hdd, hrun⟩ := hs w hcs
  have hargs : xs.toArray.map a.eval = vs.toArray := by simp [he.evs hxs]
  have hres : (resolve a.eval { callee := .value x, args := xs.toArray, argTypes := tys } ty).run C.P w = .ok dd w := by
    simp only [resolve, hargs, he.ev hx]
    exact hdd
  refine wpListIn_plain rfl fun K hK => ?_
  unfold Oper.wpIn
  refine ⟨fun _ _ => trivial, ?_⟩
  rw [semAt_eq _ _ _ (by intro c hc; cases hc)]
  have hk : ∀ v w'', Ret w I δc R (.returned v) w'' → K (a.put (some d) v) w'' := by
    rintro v w'' ⟨v', I', δ', h1, h2, h3, h4⟩
    cases h1
    obtain ⟨f1, f2⟩ := frame hsat1 h2 h3
    exact hK _ _ (k v I' δ' h3.imm h4 _ _ (he.put hd v) f1 (ht1.trans f2))
  have hex : (execOp a.eval { dst := some d, op := .call { callee := .value x, args := xs.toArray, argTypes := tys }, type := ty, pos := pos, after := after, guard := none }).run C.P w = (invoke dd.target dd.args).run C.P w := by
    simp only [execOp, Sem.run_bind, hres, Result.andThen]
  rw [hex]
  rcases hrun with ⟨f, ars, h1, h2⟩ | ⟨l, f, tmps, ars, body, h1, h2⟩
  · rw [h1, Oper.uponIn_enter]
    refine ⟨fun h => (by simp [Ctx.F, Fence.wide] at h), (callsC h2).mono fun e w'' hr => ?_⟩
    obtain ⟨v, I', δ', rfl, h4⟩ := hr
    exact hk v w'' ⟨v, I', δ', rfl, h4⟩
  · rw [h1, Oper.uponIn_round]
    refine ⟨fun h => (by simp [Ctx.F, Fence.wide] at h), (roundC h2).mono fun e w'' hr => ?_⟩
    obtain ⟨v, I', δ', rfl, h4⟩ := hr
    exact hk v w'' ⟨v, I', δ', rfl, h4⟩

/-- A call of a function by its number. -/
theorem op_call {d : Nat} {f : FuncId} {xs : List Operand} {tys : Array TypeId} {ty : TypeId} {pos : String} {after : Array Edge} {vs : List Value} {δc δr : List Ent} {R : Value → Imm → List Ent → Prop}
    (hpl : Plainf C.P f = true) (hxs : evL σ xs = some vs) (hd : Nat.blt d C.n = true) (hs : Does C.P f vs I δc R) (hp : Parts δ δc δr)
    (k : ∀ v I' δ', I.le I' → R v I' δ' → OpsJ C ops Q rest ((d, v) :: σ) ds I' (δ' ++ δr)) :
    OpsJ C ops Q ({ dst := some d, op := .call { callee := .value (.func f), args := xs.toArray, argTypes := tys }, type := ty, pos := pos, after := after, guard := none } :: rest) σ ds I δ :=
  op_fcall rfl hxs hd (hs.toF hpl) hp k

/-! ### a value without a step on the heap -/
theorem op_val {o : Oper} {d : Nat} {v : Value} (hg : o.guard = none) (hdst : o.dst = some d) (hd : Nat.blt d C.n = true) (hnd : ∀ c, o.op ≠ .defer c)
    (hrun : ∀ a w, EnvOK C.n σ ds a → Sat w I δ → (execOp a.eval o).run C.P w = .ok (.value v) w) (k : OpsJ C ops Q rest ((d, v) :: σ) ds I δ) : OpsJ C ops Q (o :: rest) σ ds I δ := by
  intro a w he hs ht
  refine wpListIn_plain hg fun K hK => ?_
  unfold Oper.wpIn
  refine ⟨fun _ _ => trivial, ?_⟩
  rw [semAt_eq _ _ _ hnd, hrun a w he hs, Oper.uponIn_value]
  refine hK _ _ ?_
  rw [hdst]
  exact k _ _ (he.put hd v) hs ht

/-- A step on the heap that yields a value. -/
theorem op_step {o : Oper} {d : Nat} (hg : o.guard = none) (hdst : o.dst = some d) (hd : Nat.blt d C.n = true) (hnd : ∀ c, o.op ≠ .defer c)
    (hrun : ∀ a w, EnvOK C.n σ ds a → Sat w I δ → ∃ v w' I' δ', (execOp a.eval o).run C.P w = .ok (.value v) w' ∧ Sat w' I' δ' ∧ Tr w I δ w' I' δ' ∧ OpsJ C ops Q rest ((d, v) :: σ) ds I' δ') : OpsJ C ops Q (o :: rest) σ ds I δ := by
  intro a w he hs ht
  obtain ⟨v, w', I', δ', hr, s', t', k⟩ := hrun a w he hs
  refine wpListIn_plain hg fun K hK => ?_
  unfold Oper.wpIn
  refine ⟨fun _ _ => trivial, ?_⟩
  rw [semAt_eq _ _ _ hnd, hr, Oper.uponIn_value]
  refine hK _ _ ?_
  rw [hdst]
  exact k _ _ (he.put hd v) s' (ht.trans t')

/-- A step on the heap alone. -/
theorem op_act {o : Oper} (hg : o.guard = none) (hdst : o.dst = none) (hnd : ∀ c, o.op ≠ .defer c)
    (hrun : ∀ a w, EnvOK C.n σ ds a → Sat w I δ → ∃ w' I' δ', (execOp a.eval o).run C.P w = .ok .skip w' ∧ Sat w' I' δ' ∧ Tr w I δ w' I' δ' ∧ OpsJ C ops Q rest σ ds I' δ') : OpsJ C ops Q (o :: rest) σ ds I δ := by
  intro a w he hs ht
  obtain ⟨w', I', δ', hr, s', t', k⟩ := hrun a w he hs
  refine wpListIn_plain hg fun K hK => ?_
  unfold Oper.wpIn
  refine ⟨fun _ _ => trivial, ?_⟩
  rw [semAt_eq _ _ _ hnd, hr, Oper.uponIn_skip]
  refine hK _ _ ?_
  exact k _ _ (he.put' hdst _) s' (ht.trans t')

/-! ### guards -/
theorem op_want {dst : Option Nat} {op : Op} {ty : TypeId} {pos : String} {after : Array Edge} {j t : Nat} {b : Bool} (hj : (ops[j]?).bind (·.dst) = some t) (hv : look t σ = some (.bool b))
    (h : OpsJ C ops Q ({ dst := dst, op := op, type := ty, pos := pos, after := after, guard := none } :: rest) σ ds I δ) :
    OpsJ C ops Q ({ dst := dst, op := op, type := ty, pos := pos, after := after, guard := some (j, b) } :: rest) σ ds I δ := by
  intro a w he hs ht
  have h1 := h a w he hs ht
  have hy : yielded ops a.tmps j = some b := by simp [yielded, hj, he.val t _ hv]
  rw [wpListIn, if_pos (by simp [Region.wanted])] at h1
  rw [wpListIn, if_pos (by simp [Region.wanted, hy])]
  exact h1

theorem op_skip {d : Nat} {op : Op} {ty : TypeId} {pos : String} {after : Array Edge} {j t : Nat} {b : Bool} {u : Value} (hj : (ops[j]?).bind (·.dst) = some t) (hv : look t σ = some u) (hne : u ≠ .bool b) (hd : Nat.blt d C.n = true)
    (h : OpsJ C ops Q rest ((d, undef) :: σ) ds I δ) :
    OpsJ C ops Q ({ dst := some d, op := op, type := ty, pos := pos, after := after, guard := some (j, b) } :: rest) σ ds I δ := by
  intro a w he hs ht
  have hy : (yielded ops a.tmps j == some b) = false := by
    simp only [yielded, hj, Option.bind_some, he.val t _ hv]
    cases u <;> simp_all
  rw [wpListIn, if_neg (by simp [Region.wanted, hy])]
  exact ⟨fun _ _ => trivial, h _ _ (he.put hd _) hs ht⟩

theorem op_skip_ {op : Op} {ty : TypeId} {pos : String} {after : Array Edge} {j t : Nat} {b : Bool} {u : Value} (hj : (ops[j]?).bind (·.dst) = some t) (hv : look t σ = some u) (hne : u ≠ .bool b)
    (h : OpsJ C ops Q rest σ ds I δ) :
    OpsJ C ops Q ({ dst := none, op := op, type := ty, pos := pos, after := after, guard := some (j, b) } :: rest) σ ds I δ := by
  intro a w he hs ht
  have hy : (yielded ops a.tmps j == some b) = false := by
    simp only [yielded, hj, Option.bind_some, he.val t _ hv]
    cases u <;> simp_all
  rw [wpListIn, if_neg (by simp [Region.wanted, hy])]
  exact ⟨fun _ _ => trivial, h _ _ he hs ht⟩

/-! ### loops -/
theorem least {p : Nat → Prop} (h : ∃ m, p m) : ∃ m, p m ∧ ∀ k, p k → m ≤ k := by
  obtain ⟨m, hm⟩ := h
  induction m using Nat.strongRecOn with
  | _ m ih =>
    by_cases hk : ∃ k, k < m ∧ p k
    · obtain ⟨k, hk, hp⟩ := hk; exact ih k hk hp
    · exact ⟨m, hm, fun k hp => Nat.le_of_not_lt fun hlt => hk ⟨k, hlt, hp⟩⟩

/-- Behind a round: the invariant again, at a lesser measure. -/
def Again (C : Ctx) (ds : List Nat) (Inv : Nat → Env → Imm → List Ent → Prop) (m : Nat) : Act → World → Prop := fun a w =>
  ∃ m' σ' I' δ', m' < m ∧ Inv m' σ' I' δ' ∧ EnvOK C.n σ' ds a ∧ Sat w I' δ' ∧ Tr C.w0 C.I0 C.δ0 w I' δ'

theorem code_loop {c : Code} (Inv : Nat → Env → Imm → List Ent → Prop) (m0 : Nat) (σ0 : Env) (h0 : Inv m0 σ0 I δ) (hsub : SubEnv σ0 σ)
    (round : ∀ m σ' I' δ', Inv m σ' I' δ' → CodeJ C c (Exit.then (Again C ds Inv m) Q) σ' ds I' δ') : CodeJ C (.loop c) Q σ ds I δ := by
  intro a w he hs ht
  let J : Nat → Act → World → Prop := fun m a w => ∃ σ' I' δ', Inv m σ' I' δ' ∧ EnvOK C.n σ' ds a ∧ Sat w I' δ' ∧ Tr C.w0 C.I0 C.δ0 w I' δ'
  have key : ∀ m a w, J m a w → (Code.loop c).wpIn C.F 0 C.P Q a w := by
    classical
    intro m a w hJ
    refine wpIn_loop (fun a w => ∃ m, J m a w) (fun a w => if h : ∃ m, J m a w then (least h).choose else 0) ⟨m, hJ⟩ ?_
    intro a1 w1 hex
    obtain ⟨σ', I', δ', hi, he', hs', ht'⟩ := (least hex).choose_spec.1
    refine wpIn_mono (round _ σ' I' δ' hi a1 w1 he' hs' ht') ?_
    intro e a2 w2 hq
    cases e with
    | normal =>
      obtain ⟨m', σ2, I2, δ2, hlt, hi2, he2, hs2, ht2⟩ := hq
      have hex2 : ∃ m, J m a2 w2 := ⟨m', σ2, I2, δ2, hi2, he2, hs2, ht2⟩
      refine ⟨hex2, ?_⟩
      simp only [dif_pos hex, dif_pos hex2]
      exact Nat.lt_of_le_of_lt ((least hex2).choose_spec.2 _ ⟨σ2, I2, δ2, hi2, he2, hs2, ht2⟩) hlt
    | exit id => exact hq
    | goto l => exact hq
    | ret => exact hq
    | panic ch => exact hq
    | outgrown => exact hq
  exact key m0 a w ⟨σ0, I, δ, h0, he.sub hsub, hs, ht⟩

theorem post_again {Inv : Nat → Env → Imm → List Ent → Prop} {m : Nat} (m' : Nat) (σ' : Env) (hlt : m' < m) (hi : Inv m' σ' I δ) (hsub : SubEnv σ' σ) :
    PostJ C (Exit.then (Again C ds Inv m) Q) .normal σ ds I δ :=
  fun _ _ he hs ht => ⟨m', σ', I, δ, hlt, hi, he.sub hsub, hs, ht⟩

/-- Ways that meet again: what follows is proved once, from what holds where they meet. -/
def Meet (C : Ctx) (ds : List Nat) (M : Env → Imm → List Ent → Prop) : Act → World → Prop := fun a w =>
  ∃ σ' I' δ', M σ' I' δ' ∧ EnvOK C.n σ' ds a ∧ Sat w I' δ' ∧ Tr C.w0 C.I0 C.δ0 w I' δ'
theorem code_seq_meet {x y : Code} (M : Env → Imm → List Ent → Prop) (hx : CodeJ C x (Exit.then (Meet C ds M) Q) σ ds I δ) (hy : ∀ σ' I' δ', M σ' I' δ' → CodeJ C y Q σ' ds I' δ') :
    CodeJ C (.seq x y) Q σ ds I δ := by
  intro a w he hs ht
  refine wpIn_seq (wpIn_mono (hx a w he hs ht) ?_)
  intro e a2 w2 hq
  cases e with
  | normal => obtain ⟨σ', I', δ', hm, he', hs', ht'⟩ := hq; exact hy _ _ _ hm _ _ he' hs' ht'
  | exit id => exact hq
  | goto l => exact hq
  | ret => exact hq
  | panic ch => exact hq
  | outgrown => exact hq
theorem post_meet {M : Env → Imm → List Ent → Prop} (σ' : Env) (hm : M σ' I δ) (hsub : SubEnv σ' σ) : PostJ C (Exit.then (Meet C ds M) Q) .normal σ ds I δ :=
  fun _ _ he hs ht => ⟨σ', I, δ, hm, he.sub hsub, hs, ht⟩
end Go.Proofs.Ythbcdffldcdfoaa.Lg
