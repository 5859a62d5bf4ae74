/- The rules of the logic for a range over a function. No condition. -/
import Derived.Test.YthbcdffldcdfoaaLge
set_option linter.unusedVariables false
set_option linter.unusedSimpArgs false
namespace Go.Proofs.Ythbcdffldcdfoaa.Lg
open Go Go.RowKit

/-! ### iterators -/
/-- A function that, called with yield, calls yield once for each element in turn, and then returns. -/
def Iter (P : Program) (f : FuncId) (caps : List Value) (I : Imm) (δi : List Ent) {α : Type} (enc : Imm → α → List Value → Prop) (xs : List α) : Prop :=
  ∀ (yv : Value) (J : List α → Imm → List Ent → Prop) (δ : List Ent), (∀ l I1 I2 δ, I1.le I2 → J l I1 δ → J l I2 δ) → J [] I δ →
    (∀ pre x post I' δ' vs, xs = pre ++ x :: post → I.le I' → J pre I' δ' → enc I' x vs → FDoes P yv vs I' δ' (fun v I'' δ'' => v = .bool true ∧ J (pre ++ [x]) I'' δ'')) →
    Does P f (yv :: caps) I (δi ++ δ) (fun _ I' δ' => ∃ δ1, J xs I' δ1 ∧ δ' = δi ++ δ1)

def bindP : List Nat → List Value → Env → Env
  | p :: ps, v :: vs, σ => bindP ps vs ((p, v) :: σ)
  | _, _, σ => σ
theorem bindP_ok {n : Nat} : ∀ (ps : List Nat) (vs : List Value) (σ : Env) (tmps : Array Value), ps.all (fun p => Nat.blt p n) = true → tmps.size = n → (∀ d v, look d σ = some v → tmps[d]? = some v) →
    ((ps.zip vs).foldl (fun (ts : Array Value) (x : Nat × Value) => ts.setIfInBounds x.1 x.2) tmps).size = n ∧ ∀ d v, look d (bindP ps vs σ) = some v → ((ps.zip vs).foldl (fun (ts : Array Value) (x : Nat × Value) => ts.setIfInBounds x.1 x.2) tmps)[d]? = some v
  | [], _, σ, tmps, _, hs, h => ⟨by simpa using hs, fun d v hd => by simpa [bindP] using h d v (by simpa [bindP] using hd)⟩
  | p :: ps, [], σ, tmps, _, hs, h => ⟨by simpa using hs, fun d v hd => by simpa using h d v (by simpa [bindP] using hd)⟩
  | p :: ps, v :: vs, σ, tmps, hp, hs, h => by
    simp only [List.all_cons, Bool.and_eq_true, Nat.blt_eq] at hp
    simp only [List.zip_cons_cons, List.foldl_cons, bindP]
    refine bindP_ok ps vs ((p, v) :: σ) (tmps.setIfInBounds p v) hp.2 (by simp [hs]) (fun d u hd => ?_)
    rw [look_cons] at hd
    by_cases e : p = d
    · subst e
      simp at hd
      subst hd
      simp [hs, hp.1]
    · simp [e] at hd
      rw [Array.getElem?_setIfInBounds_ne e]
      exact h d u hd

/-- Behind the assignments of a round: the record is busy; the body. -/
def Begun (C : Ctx) (l : Nat) (body : Code) (R : Ending → World → Prop) : Exit → Act → World → Prop :=
  Exit.then (fun a₁ w₁ => ∃ w₂, (Instr.beginRound l).run C.P w₁ = .ok () w₂ ∧ body.wpIn C.F 0 C.P (roundPost C.P l R) a₁ w₂) (fun _ _ _ => False)

variable {C : Ctx} {Q : Exit → Act → World → Prop} {σ : Env} {ds : List Nat} {I : Imm} {δ δ' : List Ent}

theorem post_begin {l : Nat} {body : Code} {R : Ending → World → Prop} {r : Loop} (hr : r.state = .ready) (hs : Swap δ (.obj l (.loop r)) δ' (.obj l (.loop { r with state := .busy })))
    (h : CodeJ C body (roundPost C.P l R) σ ds I δ') : PostJ C (Begun C l body R) .normal σ ds I δ := by
  intro a w he hsat ht
  obtain ⟨x, y, h1, h2⟩ := hs.split
  have hw : w.heap[l]? = some (.loop r) := hsat.ents (.obj l (.loop r)) (by rw [h1]; simp)
  have hlt : l < w.heap.size := (Array.getElem?_eq_some_iff.1 hw).1
  obtain ⟨s', t'⟩ := hsat.swap (w' := w.putObj l (.loop { r with state := .busy })) hs rfl rfl rfl (by simp [World.putObj])
    (fun b _ hb => World.putObj_heap_other (fun e => hb (by rw [e]; rfl))) (show (w.putObj l (.loop { r with state := .busy })).heap[l]? = some (.loop { r with state := .busy }) by simp [World.putObj, hlt]) (fun b hb => .inl hb)
  exact ⟨_, run_beginRound hw hr, h _ _ he s' (ht.trans t')⟩

/-- The end of a round's body. -/
theorem post_round {l : Nat} {r : Loop} {w0 : World} {I0 : Imm} {δ0 : List Ent} {R : Value → Imm → List Ent → Prop} (hs : Swap δ (.obj l (.loop { r with state := .busy })) δ' (.obj l (.loop r))) (hr : r.state = .ready) (hp : r.pending = none) (hR : R (.bool true) I δ') (h0 : C.w0 = w0 ∧ C.I0 = I0 ∧ C.δ0 = δ0 := by exact ⟨rfl, rfl, rfl⟩) :
    PostJ C (roundPost C.P l (Ret w0 I0 δ0 R)) .normal σ ds I δ := by
  intro a w he hsat ht
  obtain ⟨rfl, rfl, rfl⟩ := h0
  obtain ⟨x, y, h1, h2⟩ := hs.split
  have hw : w.heap[l]? = some (.loop { r with state := .busy }) := hsat.ents (.obj l (.loop { r with state := .busy })) (by rw [h1]; simp)
  have hlt : l < w.heap.size := (Array.getElem?_eq_some_iff.1 hw).1
  have hrr : ({ { r with state := LoopState.busy } with state := if (none : Option Code).isNone then .ready else .done, pending := none } : Loop) = r := by
    cases r; simp at hr hp; subst hr; subst hp; rfl
  have hend := run_endRound (P := C.P) none hw
  rw [hrr] at hend
  obtain ⟨s', t'⟩ := hsat.swap (w' := w.putObj l (.loop r)) hs rfl rfl rfl (by simp [World.putObj])
    (fun b _ hb => World.putObj_heap_other (fun e => hb (by rw [e]; rfl))) (show (w.putObj l (.loop r)).heap[l]? = some (.loop r) by simp [World.putObj, hlt]) (fun b hb => .inl hb)
  exact ⟨_, _, hend, .bool true, I, δ', rfl, s', ht.trans t', hR⟩

/-- yield, out of a round's walk. -/
theorem yield_does {P : Program} {n l : Nat} {r : Loop} {ps : List Nat} {vs : List Value} {σ : Env} {R : Value → Imm → List Ent → Prop} (hps : r.params = ps.toArray) (hall : ps.all (fun p => Nat.blt p n) = true) (hlen : vs.length = ps.length)
    (hsz : r.tmps.size = n) (hσ : ∀ d v, look d σ = some v → r.tmps[d]? = some v) (hm : Has δ (.obj l (.loop r)))
    (h : ∀ w0, CodeJ ⟨P, some l, n, w0, I, δ⟩ r.assign (Begun ⟨P, some l, n, w0, I, δ⟩ l r.body (Ret w0 I δ R)) (bindP ps vs σ) [] I δ) : FDoes P (.func (.yield l) #[] #[]) vs I δ R := by
  intro w hs
  have hw : w.heap[l]? = some (.loop r) := hs.ents (.obj l (.loop r)) hm.mem
  have hy := run_yield (P := P) (args := vs.toArray) hw (by simp [hps, hlen])
  obtain ⟨h1, h2⟩ := bindP_ok ps vs σ r.tmps hall hsz hσ
  have hfold : (r.params.zip vs.toArray).foldl (fun (tmps : Array Value) (x : Nat × Value) => match x with | (t, a) => tmps.setIfInBounds t a) r.tmps = (ps.zip vs).foldl (fun (ts : Array Value) (x : Nat × Value) => ts.setIfInBounds x.1 x.2) r.tmps := by
    rw [hps]; simp
  rw [← hfold] at h1 h2
  generalize hT : (r.params.zip vs.toArray).foldl (fun (tmps : Array Value) (x : Nat × Value) => match x with | (t, a) => tmps.setIfInBounds t a) r.tmps = ts at hy h1 h2
  refine ⟨{ target := .fn (.yield l) #[], args := vs.toArray }, by simp [Deferred.ofValue], .inr ⟨l, r.fn, ts, r.assign, r.body, hy, ?_⟩⟩
  exact roundIn_of_wpIn trivial (h w { tmps := ts, defers := [] } w ⟨h1, h2, rfl⟩ hs (Tr.refl _ _ _))

/-- The statement. -/
theorem code_range {α : Type} {g : Operand} {ps : List Nat} {assign body : Code} {f : FuncId} {caps : List Value} {enc : Imm → α → List Value → Prop} {xs : List α} {δb δi δr : List Ent} (B : List α → Imm → List Ent → Prop)
    (hr : C.r = none) (hg : evS σ g = some (.func (.func f) #[] caps.toArray)) (hpl : Plainf C.P f = true) (hall : ps.all (fun p => Nat.blt p C.n) = true) (hit : Iter C.P f caps I δi enc xs) (hp : Parts δ (δi ++ δb) δr) (h0 : B [] I δb)
    (hlen : ∀ I x vs, enc I x vs → vs.length = ps.length) (hB : ∀ l I1 I2 δ, I1.le I2 → B l I1 δ → B l I2 δ)
    (round : ∀ (l : Nat) (r : Loop) (w0 : World) pre x post I' δ' vs, r.state = .ready → r.pending = none → xs = pre ++ x :: post → I.le I' → B pre I' δ' → enc I' x vs →
      CodeJ ⟨C.P, some l, C.n, w0, I', .obj l (.loop r) :: δ'⟩ assign (Begun ⟨C.P, some l, C.n, w0, I', .obj l (.loop r) :: δ'⟩ l body (Ret w0 I' (.obj l (.loop r) :: δ') (fun v I'' δ'' => v = .bool true ∧ ∃ δ2, δ'' = .obj l (.loop r) :: δ2 ∧ B (pre ++ [x]) I'' δ2))) (bindP ps vs σ) [] I' (.obj l (.loop r) :: δ'))
    (k : ∀ blk I' δ', I.le I' → B xs I' δ' → PostJ C Q .normal σ (blk :: ds) I' (.obj blk (.deferred (some [])) :: ((δi ++ δ') ++ δr))) :
    CodeJ C (.rangeFunc g ps.toArray assign body) Q σ ds I δ := by
  intro a w he hs ht
  have hF : C.F = Fence.wide := wideNone hr
  rw [hF]
  refine wpIn_rangeFunc fun fn _ => ?_
  have hs1 := hs.perm hp
  have ht1 := ht.permR hp
  let r : Loop := { state := .ready, pending := none, fn := fn, tmps := a.tmps, params := ps.toArray, assign := assign, body := body, defers := w.heap.size }
  obtain ⟨s1, t1⟩ := hs1.alloc (.obj w.heap.size (.deferred (some []))) (.deferred (some [])) rfl (heap_alloc_new w _)
  obtain ⟨s2, t2⟩ := s1.alloc (.obj (w.alloc (.deferred (some []))).heap.size (.loop r)) (.loop r) rfl (heap_alloc_new _ _)
  have hl : (w.alloc (.deferred (some []))).heap.size = w.heap.size + 1 := by simp
  rw [hl] at s2 t2
  have ht2 := (ht1.trans t1).trans t2
  have hperm : (Ent.obj (w.heap.size + 1) (.loop r) :: Ent.obj w.heap.size (.deferred (some [])) :: ((δi ++ δb) ++ δr)).Perm ((δi ++ (.obj (w.heap.size + 1) (.loop r) :: δb)) ++ (.obj w.heap.size (.deferred (some [])) :: δr)) := by
    refine List.Perm.trans (List.Perm.cons _ List.perm_middle.symm) ?_
    rw [← List.cons_append]
    exact List.Perm.append_right _ List.perm_middle.symm
  have s3 := s2.perm hperm
  have ht3 := ht2.permR hperm
  let yv : Value := .func (.yield (w.heap.size + 1)) #[] #[]
  have hsub : Sat ((w.alloc (.deferred (some []))).alloc (.loop r)) I (δi ++ (.obj (w.heap.size + 1) (.loop r) :: δb)) := by
    have hb : blks ((δi ++ (.obj (w.heap.size + 1) (.loop r) :: δb)) ++ (.obj w.heap.size (.deferred (some [])) :: δr)) = blks (δi ++ (.obj (w.heap.size + 1) (.loop r) :: δb)) ++ blks (.obj w.heap.size (.deferred (some [])) :: δr) := List.filterMap_append
    have hnd := s3.nodup
    rw [hb, List.nodup_append] at hnd
    exact ⟨s3.imm, fun y hy => s3.ents y (List.mem_append_left _ hy), hnd.1, fun b hb1 => s3.apart b (by rw [hb]; exact List.mem_append_left _ hb1)⟩
  have hcall := hit yv (fun pre I' δ' => ∃ δ2, δ' = .obj (w.heap.size + 1) (.loop r) :: δ2 ∧ B pre I' δ2) (.obj (w.heap.size + 1) (.loop r) :: δb) (fun l I1 I2 δ hle ⟨δ2, h1, h2⟩ => ⟨δ2, h1, hB l I1 I2 δ2 hle h2⟩) ⟨δb, rfl, h0⟩ (fun pre x post I' δ' vs hx hI hB hv => by
    obtain ⟨δ2, rfl, hB⟩ := hB
    exact yield_does (r := r) rfl hall (hlen _ _ _ hv) he.size he.val Has.here (fun w0 => round _ r w0 pre x post I' δ2 vs rfl rfl hx hI hB hv))
  refine ⟨w.heap.size + 1, [{ target := .collected w.heap.size, args := #[] }], (w.alloc (.deferred (some []))).alloc (.loop r), { target := .fn (.func f) caps.toArray, args := #[yv] }, (w.alloc (.deferred (some []))).alloc (.loop r), f, (yv :: caps).toArray, (w.alloc (.deferred (some []))).alloc (.loop r), run_enterLoop_outer fn a.tmps ps.toArray assign body, ?_, fun _ _ => trivial, ?_, fun h => (by simp [Fence.wide] at h), ?_⟩
  · have hev := he.ev hg
    have hc : a.eval (.const (.func (.yield (w.heap.size + 1)) #[] #[])) = yv := rfl
    simp [resolve, hev, hc, Deferred.ofValue]
  · simp only [invoke]
    rw [run_callFunc hpl]
    simp
  · refine CallsIn.mono ((callsIn_wide (n := 0 - 1)).2 (hcall _ hsub)) ?_
    rintro e w3 ⟨v, I', δ', rfl, hs3, ht3', δ1, ⟨δ2, rfl, hB⟩, rfl⟩
    obtain ⟨f1, f2⟩ := frame s3 hs3 ht3'
    have hw3 : w3.heap[w.heap.size + 1]? = some (.loop r) := f1.ents (.obj (w.heap.size + 1) (.loop r)) (by simp)
    refine ⟨none, w3.putObj (w.heap.size + 1) (.loop { r with state := .exhausted }), run_endLoop hw3 (by simp [r]), ?_⟩
    have hlt : w.heap.size + 1 < w3.heap.size := (Array.getElem?_eq_some_iff.1 hw3).1
    have hperm1 : ((δi ++ (Ent.obj (w.heap.size + 1) (.loop r) :: δ2)) ++ (Ent.obj w.heap.size (.deferred (some [])) :: δr)).Perm (.obj (w.heap.size + 1) (.loop r) :: ((δi ++ δ2) ++ (.obj w.heap.size (.deferred (some [])) :: δr))) := by
      rw [← List.cons_append]
      exact List.Perm.append_right _ List.perm_middle
    replace f1 := f1.perm hperm1
    replace f2 := f2.permR hperm1
    obtain ⟨s4, t4⟩ := f1.swap (w' := w3.putObj (w.heap.size + 1) (.loop { r with state := .exhausted })) (x' := .obj (w.heap.size + 1) (.loop { r with state := .exhausted })) .here rfl rfl rfl (by simp [World.putObj])
      (fun b _ hb => World.putObj_heap_other (fun e => hb (by rw [e]; rfl))) (show (w3.putObj (w.heap.size + 1) (.loop { r with state := .exhausted })).heap[w.heap.size + 1]? = some (.loop { r with state := .exhausted }) by simp [World.putObj, hlt]) (fun b hb => .inl hb)
    have ht5 := ((ht3.trans f2).trans t4).trans s4.drop.2
    have hs5 := s4.drop.1
    have hperm2 : ((δi ++ δ2) ++ (Ent.obj w.heap.size (.deferred (some [])) :: δr)).Perm (.obj w.heap.size (.deferred (some [])) :: ((δi ++ δ2) ++ δr)) := List.perm_middle
    exact k w.heap.size I' δ2 f2.imm hB _ _ ⟨he.size, he.val, by simp [he.defers, marksOf]⟩ (hs5.perm hperm2) (ht5.permR hperm2)

/-! ### loops whose rounds leave marks -/
def AgainD (C : Ctx) (Inv : Nat → Env → List Nat → Imm → List Ent → Prop) (m : Nat) : Act → World → Prop := fun a w =>
  ∃ m' σ' ds' I' δ', m' < m ∧ Inv m' σ' ds' I' δ' ∧ EnvOK C.n σ' ds' a ∧ Sat w I' δ' ∧ Tr C.w0 C.I0 C.δ0 w I' δ'
theorem code_loopD {c : Code} (Inv : Nat → Env → List Nat → Imm → List Ent → Prop) (m0 : Nat) (σ0 : Env) (h0 : Inv m0 σ0 ds I δ) (hsub : SubEnv σ0 σ)
    (round : ∀ m σ' ds' I' δ', Inv m σ' ds' I' δ' → CodeJ C c (Exit.then (AgainD C Inv m) Q) σ' ds' I' δ') : CodeJ C (.loop c) Q σ ds I δ := by
  intro a w he hs ht
  let J : Nat → Act → World → Prop := fun m a w => ∃ σ' ds' I' δ', Inv m σ' ds' I' δ' ∧ EnvOK C.n σ' ds' a ∧ Sat w I' δ' ∧ Tr C.w0 C.I0 C.δ0 w I' δ'
  have key : ∀ m a w, J m a w → (Code.loop c).wpIn C.F 0 C.P Q a w := by
    classical
    intro m a w hJ
    refine wpIn_loop (fun a w => ∃ m, J m a w) (fun a w => if h : ∃ m, J m a w then (least h).choose else 0) ⟨m, hJ⟩ ?_
    intro a1 w1 hex
    obtain ⟨σ', ds', I', δ', hi, he', hs', ht'⟩ := (least hex).choose_spec.1
    refine wpIn_mono (round _ σ' ds' I' δ' hi a1 w1 he' hs' ht') ?_
    intro e a2 w2 hq
    cases e with
    | normal =>
      obtain ⟨m', σ2, ds2, I2, δ2, hlt, hi2, he2, hs2, ht2⟩ := hq
      have hex2 : ∃ m, J m a2 w2 := ⟨m', σ2, ds2, I2, δ2, hi2, he2, hs2, ht2⟩
      refine ⟨hex2, ?_⟩
      simp only [dif_pos hex, dif_pos hex2]
      exact Nat.lt_of_le_of_lt ((least hex2).choose_spec.2 _ ⟨σ2, ds2, I2, δ2, hi2, he2, hs2, ht2⟩) hlt
    | exit id => exact hq
    | goto l => exact hq
    | ret => exact hq
    | panic ch => exact hq
    | outgrown => exact hq
  exact key m0 a w ⟨σ0, ds, I, δ, h0, he.sub hsub, hs, ht⟩
theorem post_againD {Inv : Nat → Env → List Nat → Imm → List Ent → Prop} {m : Nat} (m' : Nat) (σ' : Env) (hlt : m' < m) (hi : Inv m' σ' ds I δ) (hsub : SubEnv σ' σ) :
    PostJ C (Exit.then (AgainD C Inv m) Q) .normal σ ds I δ :=
  fun _ _ he hs ht => ⟨m', σ', ds, I, δ, hlt, hi, he.sub hsub, hs, ht⟩

/-! ### rows of one's own: read, and made shorter -/
theorem v_loadRow {t e : TypeId} {x : Operand} {A : Option Addr} {m c size n k i : Nat} {agg : Bool} {xs : List Value} {v : Value} (ht : Ty C.P t agg k) (hx : evS σ x = some (pa A i)) (hh : Has δ (.row (.slice A m c) e size n xs)) (hA : A.isSome = true)
    (hv : ld agg k (xs.drop i) = some v) : ValJ C σ ds I δ (.load t x) v :=
  fun _ _ _ _ _ => (fun a w he hs => by
    obtain ⟨a0, rfl⟩ := Option.isSome_iff_exists.1 hA
    have hr : w.ownsRow 0 e size (.slice (some a0) m c) n xs := hs.ents _ hh.mem
    obtain ⟨g, rfl⟩ : ∃ g, a0 = ⟨g, 0, none⟩ := by
      rcases hr.2 with ⟨he, _⟩ | ⟨g, cap, cur, he, _⟩
      · cases he
      · exact ⟨g, by injection he with he; injection he⟩
    obtain ⟨us, hl, rfl, hu⟩ := ld_spec hv ht.one
    have hadd : (⟨g, 0, none⟩ : Addr).add i = ⟨g, i, none⟩ := by rw [add_plain]; simp
    have := run_loadAt ht (w := w) (a := ⟨g, i, none⟩) hl (fun j v hj => by
      have h1 := hu j v hj
      rw [List.getElem?_drop] at h1
      have h2 := hr.cells (g := g) rfl (i + j) v h1
      rw [add_plain]
      rw [add_plain] at h2
      simpa using h2)
    simp [execOp, he.ev hx, pa, hadd, this])
theorem View.short {e : TypeId} {size n h c : Nat} {A : Option Addr} {xs : List Value} (δ' : List Ent) (hd : Swap δ (.row (.slice A n c) e size n xs) δ' (.row (.slice A h c) e size h (xs.take (h * size)))) (hh : h ≤ n) : View I δ I δ' := fun w hs => by
  obtain ⟨l, r, rfl, rfl⟩ := hd.split
  have hrow : w.ownsRow 0 e size (.slice A n c) n xs := hs.ents (.row (.slice A n c) e size n xs) (by simp)
  have hb : blks (l ++ .row (.slice A n c) e size n xs :: r) = blks (l ++ .row (.slice A h c) e size h (xs.take (h * size)) :: r) := by
    simp only [blks, List.filterMap_append, List.filterMap_cons]
    cases A <;> rfl
  have hnew : w.ownsRow 0 e size (.slice A h c) h (xs.take (h * size)) := by
    obtain ⟨hl, hx⟩ := hrow
    have hle : h * size ≤ n * size := Nat.mul_le_mul_right _ hh
    refine ⟨by rw [List.length_take, hl]; omega, ?_⟩
    rcases hx with ⟨he, hn⟩ | ⟨g, cap, cur, he, h1, h2, h3, h4, h5, h6⟩
    · cases he
      exact .inl ⟨by have : h = 0 := by omega
                     rw [this], by omega⟩
    · cases he
      exact .inr ⟨g, c, cur, rfl, h1, h2, by omega, h4, h5, by rw [← h6, List.take_take, Nat.min_eq_left hle]⟩
  refine ⟨⟨hs.imm, fun y hy => ?_, hb ▸ hs.nodup, hb ▸ hs.apart⟩, ⟨rfl, rfl, rfl, Nat.le_refl _, fun _ _ _ => rfl, Imm.le_refl _, fun b o h1 h2 => (by rw [h1] at h2; cases h2), fun b hb1 => .inl (hb ▸ hb1)⟩⟩
  rcases List.mem_append.1 hy with hy | hy
  · exact hs.ents y (List.mem_append_left _ hy)
  · rcases List.mem_cons.1 hy with rfl | hy
    · exact hnew
    · exact hs.ents y (List.mem_append_right _ (List.mem_cons_of_mem _ hy))
end Go.Proofs.Ythbcdffldcdfoaa.Lg
