/- Own texts, one behind the other: rules of a small program logic, walks through the program's functions, plain facts. No condition. -/
import Derived.Test.YtdbadicpbmndbaaZ3
/- The order of terms and places, and what is put: plain facts. No condition. -/
set_option linter.unusedVariables false
set_option linter.unusedSimpArgs false
namespace Go.Proofs.Ytdbadicpbmndbaa

/-! ### counts -/
def cnV (l : List (Bool × T)) (k : Int) : Nat := (l.map (·.2.head)).count k
theorem cnV_app (a b : List (Bool × T)) (k : Int) : cnV (a ++ b) k = cnV a k + cnV b k := by simp [cnV, List.count_append]
theorem cnV_T (b : Bool) (t : T) (k : Int) : cnV (visT b t) k = cn t k := by
  show ((visT b t).map (·.2.head)).count k = ((visT true t).map (·.2.head)).count k
  rw [visT_eq, visT_eq]; rfl
theorem cn_eq (t : T) (k : Int) : cn t k = (if t.head = k then 1 else 0) + cnV (visL t.args) k := by
  show ((visT true t).map (·.2.head)).count k = _
  rw [visT_eq, List.map_cons, List.count_cons]
  unfold cnV
  by_cases h : t.head = k
  · simp [h]; omega
  · simp [h]
theorem cnV_split (us : List T) (i : Nat) (hi : i < us.length) (k : Int) : cnV (visL us) k = cnV (visL (us.take i)) k + (cn us[i] k + cnV (visL (us.drop (i + 1))) k) := by
  rw [visL_split us i hi, cnV_app, cnV_app, cnV_T]
theorem vle_child {t : T} (i : Nat) (hi : i < t.args.length) : vleB t t.args[i] = true := vleB_iff.2 fun k _ => by
  rw [cn_eq t, cnV_split t.args i hi]; omega
theorem vle_at : ∀ (p : List Int) {t u : T}, atT t p = some u → vleB t u = true
  | [], t, u, h => by simp [atT] at h; subst h; exact vle_self _
  | x :: r, t, u, h => by
    rw [atT_c] at h
    split at h
    · rename_i hx; exact vle_trans (vle_child x.toNat hx.2) (vle_at r h)
    · cases h
/-- a part that is not the term itself is less -/
theorem stT_part {gs : List Sy} {t u : T} {p : List Int} (h : OkG gs t) (hp : p ≠ []) (hu : atT t p = some u) : stT gs t u = 1 := by
  rw [stT_one]
  refine ⟨vle_at p hu, .inl ?_⟩
  rcases (h.at p hu).2 with h | h
  · exact absurd h hp
  · exact h

/-! ### the same around both -/
theorem sideG_same {a b a' b' : T} {n : Int} (h1 : vleB a' b' = vleB a b) (h2 : vleB b' a' = vleB b a) : sideG a' b' n = sideG a b n := by unfold sideG; rw [h1, h2]
theorem set_drop {us : List T} {i : Nat} (hi : i < us.length) (a : T) : us.set i a = us.take i ++ a :: us.drop (i + 1) := by
  rw [List.set_eq_take_append_cons_drop, if_pos hi]
theorem cn_set (h : Int) {us : List T} {i : Nat} (hi : i < us.length) (a : T) (k : Int) : cn (.mk h (us.set i a)) k = (if h = k then 1 else 0) + (cnV (visL (us.take i)) k + (cn a k + cnV (visL (us.drop (i + 1))) k)) := by
  rw [cn_eq]
  show (if h = k then 1 else 0) + cnV (visL (us.set i a)) k = _
  rw [set_drop hi, visL_app, cnV_app]
  simp only [visL, cnV_app, cnV_T]
theorem wgt_set (gs : List Sy) (h : Int) {us : List T} {i : Nat} (hi : i < us.length) (a : T) : wgtG gs (.mk h (us.set i a)) = wB gs h + (sumV gs (visL (us.take i)) + (wgtG gs a + sumV gs (visL (us.drop (i + 1))))) := by
  rw [wgtG_eq]
  show wB gs h + sumV gs (visL (us.set i a)) = _
  rw [set_drop hi, visL_app, sumV_app]
  simp only [visL, sumV_app, sumV_T]
theorem stL_set (gs : List Sy) (a b : T) (hab : stT gs a b ≠ 0) : ∀ (us : List T) (i : Nat), i < us.length → stL gs (us.set i a) (us.set i b) = stT gs a b
  | x :: r, 0, _ => by simp [stL, hab]
  | x :: r, i + 1, h => by
    simp only [List.set_cons_succ, stL, stT_self]
    rw [if_neg (by omega)]
    exact stL_set gs a b hab r i (by simpa using h)
theorem stT_ctx {gs : List Sy} {h : Int} {us : List T} {i : Nat} {a b : T} (hi : i < us.length) (ha : OkG gs (.mk h (us.set i a))) (hb : OkG gs (.mk h (us.set i b))) : stT gs (.mk h (us.set i a)) (.mk h (us.set i b)) = stT gs a b := by
  have ha' : OkG gs a := by
    have := (ha.child i (by show i < (us.set i a).length; simpa using hi)).1
    change OkG gs ((us.set i a)[i]'(by simpa using hi)) at this
    simpa using this
  have hb' : OkG gs b := by
    have := (hb.child i (by show i < (us.set i b).length; simpa using hi)).1
    change OkG gs ((us.set i b)[i]'(by simpa using hi)) at this
    simpa using this
  by_cases hab : a = b
  · subst hab; rw [stT_self, stT_self]
  · have hz : stT gs a b ≠ 0 := fun e => hab (stT_zero ha' hb' e)
    have hne : T.mk h (us.set i a) ≠ T.mk h (us.set i b) := fun e => hab (by
      injection e with _ e
      have := congrArg (·[i]?) e
      simpa [hi] using this)
    have v1 : vleB (.mk h (us.set i a)) (.mk h (us.set i b)) = vleB a b := by
      rw [Bool.eq_iff_iff, vleB_iff, vleB_iff]
      constructor
      · intro q k hk; have := q k hk; rw [cn_set h hi, cn_set h hi] at this; omega
      · intro q k hk; have := q k hk; rw [cn_set h hi, cn_set h hi]; omega
    have v2 : vleB (.mk h (us.set i b)) (.mk h (us.set i a)) = vleB b a := by
      rw [Bool.eq_iff_iff, vleB_iff, vleB_iff]
      constructor
      · intro q k hk; have := q k hk; rw [cn_set h hi, cn_set h hi] at this; omega
      · intro q k hk; have := q k hk; rw [cn_set h hi, cn_set h hi]; omega
    have hw : wgtG gs (.mk h (us.set i a)) - wgtG gs (.mk h (us.set i b)) = wgtG gs a - wgtG gs b := by rw [wgt_set gs h hi, wgt_set gs h hi]; omega
    rw [stT_eq gs (.mk h (us.set i a)), if_neg hne]
    by_cases h2 : wgtG gs a = wgtG gs b
    · have h0 : ¬ h < 0 := fun hn => by
        have := ha.leaf hn
        change us.set i a = [] at this
        have hl := congrArg List.length this
        simp at hl; subst hl; simp at hi
      rw [if_neg (by omega)]
      rw [if_neg (by show ¬ (h < 0 ∨ h < 0); omega), if_neg (by show ¬ (h ≠ h); simp)]
      show (if stL gs (us.set i a) (us.set i b) = 0 then 0 else if stL gs (us.set i a) (us.set i b) = 2 then 2 else sideG _ _ (stL gs (us.set i a) (us.set i b))) = _
      rw [stL_set gs a b hz us i hi, if_neg hz]
      have hone := (stT_one gs a b)
      have hneg := (stT_one gs b a)
      rw [stT_neg gs a b] at hneg
      rcases stT_vals gs a b with q | q | q | q
      · exact absurd q hz
      · rw [q, if_neg (by omega)]
        unfold sideG
        rw [v1, (hone.1 q).1]; simp
      · rw [q, if_neg (by omega)]
        have hq : ngS (stT gs a b) = 1 := by rw [q]; rfl
        unfold sideG
        rw [v2, (hneg.1 hq).1]; simp
      · rw [q, if_pos rfl]
    · rw [if_pos (by omega), sideG_same v1 v2, hw, stT_eq gs a b, if_neg hab, if_pos h2]
theorem stT_put {gs : List Sy} : ∀ (p : List Int) {t a b : T}, (atT t p).isSome = true → OkG gs (putT t p a) → OkG gs (putT t p b) → stT gs (putT t p a) (putT t p b) = stT gs a b
  | [], t, a, b, _, _, _ => by simp [putT]
  | x :: r, t, a, b, hs, ha, hb => by
    obtain ⟨i, rfl, hi, hs'⟩ := atT_cons hs
    rw [putT_c t a i r hi] at ha ⊢
    rw [putT_c t b i r hi] at hb ⊢
    rw [stT_ctx hi ha hb]
    have h1 := (ha.child i (by show i < (t.args.set i _).length; simpa using hi)).1
    have h2 := (hb.child i (by show i < (t.args.set i _).length; simpa using hi)).1
    change OkG gs ((t.args.set i (putT t.args[i] r a))[i]'(by simpa using hi)) at h1
    change OkG gs ((t.args.set i (putT t.args[i] r b))[i]'(by simpa using hi)) at h2
    rw [List.getElem_set_self] at h1 h2
    exact stT_put r hs' h1 h2

/-! ### what is put -/
theorem accF_le {F : Int → Int} {la lb : List Int} : ∀ n : Nat, (∀ v : Nat, v < n → ((lb.count (-1 - (v : Int)) : Nat) : Int) * F (-1 - (v : Int)) ≤ ((la.count (-1 - (v : Int)) : Nat) : Int) * F (-1 - (v : Int))) → accF F lb n ≤ accF F la n
  | 0, _ => Int.le_refl _
  | n + 1, h => by
    simp only [accF]
    have h1 := accF_le n (fun v hv => h v (by omega))
    have h2 := h n (by omega)
    omega
theorem accF_diff {F : Int → Int} {la lb : List Int} (n : Nat) (h : ∀ v : Nat, v < n → ((lb.count (-1 - (v : Int)) : Nat) : Int) * F (-1 - (v : Int)) ≤ ((la.count (-1 - (v : Int)) : Nat) : Int) * F (-1 - (v : Int))) : accF F lb n ≤ accF F la n := accF_le n h
mutual
theorem cn_rb (f : T → T) (k : Int) (hk : k < 0) : ∀ (t : T), (∀ x ∈ visT true t, x.2.head < 0 → x.2.args = []) → ((cn (rbT f t) k : Nat) : Int) = ((visT true t).map fun x => if x.2.head < 0 then ((cn (f (.mk x.2.head [])) k : Nat) : Int) else 0).sum
  | .mk h us, hx => by
    have h0 := hx (true, .mk h us) (by simp [visT])
    have e0 : (T.mk h us).head = h := rfl
    have e1 : (T.mk h us).args = us := rfl
    simp only [e0, e1] at h0
    simp only [rbT, visT, List.map_cons, List.sum_cons, e0]
    by_cases hn : h < 0
    · have := h0 hn
      subst this
      rw [if_pos hn, if_pos hn]; simp [visL]
    · rw [if_neg hn, if_neg hn, cn_eq]
      show (((if h = k then 1 else 0) + cnV (visL (rbL f us)) k : Nat) : Int) = _
      rw [if_neg (by omega), ← cn_rbL f k hk us (fun x hx' => hx x (by simp [visT, hx']))]
      simp
theorem cn_rbL (f : T → T) (k : Int) (hk : k < 0) : ∀ (us : List T), (∀ x ∈ visL us, x.2.head < 0 → x.2.args = []) → ((cnV (visL (rbL f us)) k : Nat) : Int) = ((visL us).map fun x => if x.2.head < 0 then ((cn (f (.mk x.2.head [])) k : Nat) : Int) else 0).sum
  | [], _ => by simp [rbL, visL, cnV]
  | t :: r, hx => by
    simp only [rbL, visL, cnV_app, cnV_T, List.map_append, List.sum_append, Int.natCast_add]
    rw [cn_rbL f k hk r (fun x hx' => hx x (by simp [visL, hx']))]
    have e : ∀ x ∈ visT true t, x.2.head < 0 → x.2.args = [] := fun x hx' => by
      rw [visT_eq] at hx'
      rcases List.mem_cons.1 hx' with rfl | hx'
      · exact hx (false, t) (by simp [visL, visT_eq])
      · exact hx x (by simp [visL, visT_eq, hx'])
    rw [cn_rb f k hk t e]
    congr 1
    rw [visT_eq true, visT_eq false]; rfl
end
theorem cn_sb {gs : List Sy} {bs : List Bi} {t : T} (h : OkG gs t) {k : Int} (hk : k < 0) : ((cn (sbT bs t) k : Nat) : Int) = accF (fun j => ((cn (ofT bs (.mk j [])) k : Nat) : Int)) (hds t) 256 := by
  have hv := chk_vis h.chk
  rw [accF_sum _ _ (fun j hj => by obtain ⟨x, hx, rfl⟩ := List.mem_map.1 hj; exact (hv x hx).2)]
  unfold sbT
  rw [cn_rb (ofT bs) k hk t (fun x hx => (hv x hx).1)]
  unfold hds
  rw [List.map_map]; rfl
theorem wgt_sb {gs : List Sy} {bs : List Bi} {t : T} (h : OkG gs t) : wgtG gs (sbT bs t) = wgtG gs t + accF (moreF gs bs) (hds t) 256 := by
  have hv := chk_vis h.chk
  rw [accF_sum _ _ (fun k hk => by obtain ⟨x, hx, rfl⟩ := List.mem_map.1 hk; exact (hv x hx).2)]
  unfold sbT
  rw [wgt_rb gs (ofT bs) t (fun x hx => (hv x hx).1)]
  unfold wgtG hds
  rw [List.map_map, List.map_map]
  generalize visT true t = l
  induction l with
  | nil => rfl
  | cons x r ih =>
    simp only [List.map_cons, List.sum_cons, ih, Function.comp]
    by_cases hn : x.2.head < 0
    · simp only [if_pos hn, wB, moreF, wgtG, hds]; omega
    · simp only [if_neg hn, wB]; omega
theorem more_nonneg {gs : List Sy} {bs : List Bi} {t : T} (h : OkG gs t) (hU : OkG gs (sbT bs t)) {k : Int} (hk : k < 0) (hc : 0 < cn t k) : 0 ≤ moreF gs bs k := by
  have hv := chk_vis h.chk
  obtain ⟨x, hx, hxh⟩ := List.mem_map.1 (List.count_pos_iff.1 hc)
  have hneg : x.2.head < 0 := by omega
  have h1 := vis_ok (ofT bs) t.size t (Nat.le_refl _) true (fun y hy => (hv y hy).1) hU x hx hneg
  have ha := (hv x hx).1 hneg
  have e : x.2 = .mk k [] := by
    obtain ⟨b, h, us⟩ := x
    change h = _ at hxh
    change us = [] at ha
    subst hxh; subst ha; rfl
  rw [e] at h1
  have h2 := wgtG_range h1
  have h3 := (ofT bs (.mk k [])).size_pos
  unfold moreF; omega
theorem vle_sb {gs : List Sy} {bs : List Bi} {a b : T} (ha : OkG gs a) (hb : OkG gs b) (h : vleB a b = true) : vleB (sbT bs a) (sbT bs b) = true := vleB_iff.2 fun k hk => by
  have h1 := vleB_iff.1 h
  have := accF_le (F := fun j => ((cn (ofT bs (.mk j [])) k : Nat) : Int)) (la := hds a) (lb := hds b) 256 (fun v _ => Int.mul_le_mul_of_nonneg_right (by have h2 : (hds b).count (-1 - (v : Int)) ≤ (hds a).count (-1 - (v : Int)) := h1 (-1 - (v : Int)) (by omega); omega) (by omega))
  rw [← cn_sb ha hk, ← cn_sb hb hk] at this
  omega
theorem wgt_sb_le {gs : List Sy} {bs : List Bi} {a b : T} (ha : OkG gs a) (hb : OkG gs b) (hUa : OkG gs (sbT bs a)) (h : vleB a b = true) : wgtG gs a - wgtG gs b ≤ wgtG gs (sbT bs a) - wgtG gs (sbT bs b) := by
  have h1 := vleB_iff.1 h
  have := accF_le (F := moreF gs bs) (la := hds a) (lb := hds b) 256 (fun v _ => by
    have h2 : (hds b).count (-1 - (v : Int)) ≤ (hds a).count (-1 - (v : Int)) := h1 (-1 - (v : Int)) (by omega)
    by_cases hc : (hds a).count (-1 - (v : Int)) = 0
    · have e2 : (hds b).count (-1 - (v : Int)) = 0 := by omega
      rw [hc, e2]; exact Int.le_refl _
    · have hpos : 0 < cn a (-1 - (v : Int)) := by show 0 < (hds a).count (-1 - (v : Int)); omega
      exact Int.mul_le_mul_of_nonneg_right (by omega) (more_nonneg ha hUa (by omega) hpos))
  rw [wgt_sb ha, wgt_sb hb]; omega
theorem sbT_head {bs : List Bi} {t : T} (h : 0 ≤ t.head) : (sbT bs t).head = t.head ∧ (sbT bs t).args = t.args.map (sbT bs) := by
  obtain ⟨k, us⟩ := t
  change 0 ≤ k at h
  have : sbT bs (.mk k us) = .mk k (rbL (ofT bs) us) := by unfold sbT; simp only [rbT]; rw [if_neg (by omega)]
  rw [this]
  exact ⟨rfl, rbL_map _ _⟩
theorem stT_sb {gs : List Sy} {bs : List Bi} : ∀ (n : Nat) (a b : T), a.size ≤ n → OkG gs a → OkG gs b → OkG gs (sbT bs a) → OkG gs (sbT bs b) → stT gs a b = 1 → stT gs (sbT bs a) (sbT bs b) = 1 := by
  intro n
  induction n with
  | zero => intro a b h; have := a.size_pos; omega
  | succ n ih =>
    intro a b hn ha hb hUa hUb h1
    rw [stT_one] at h1 ⊢
    obtain ⟨v1, h1⟩ := h1
    have hw := wgt_sb_le ha hb hUa v1
    refine ⟨vle_sb ha hb v1, ?_⟩
    rcases h1 with h1 | ⟨e1, p1, q1, h1⟩
    · left; omega
    · by_cases hlt : wgtG gs (sbT bs b) < wgtG gs (sbT bs a)
      · exact .inl hlt
      · right
        obtain ⟨s1, s2⟩ := sbT_head (bs := bs) p1
        obtain ⟨r1, r2⟩ := sbT_head (bs := bs) q1
        refine ⟨by omega, by omega, by omega, ?_⟩
        rcases h1 with h1 | ⟨f1, h1⟩
        · left; omega
        · right
          refine ⟨by omega, ?_⟩
          rw [s2, r2]
          have key : ∀ (l m : List T), (∀ x ∈ l, x.size ≤ n ∧ OkG gs x ∧ OkG gs (sbT bs x)) → (∀ x ∈ m, OkG gs x ∧ OkG gs (sbT bs x)) → stL gs l m = 1 → stL gs (l.map (sbT bs)) (m.map (sbT bs)) = 1 := by
            intro l
            induction l with
            | nil => intro m _ _ h; cases m <;> simp [stL] at h
            | cons x l ihl =>
              intro m hl hm g
              cases m with
              | nil => simp [stL] at g
              | cons y m =>
                simp only [stL, List.map_cons] at g ⊢
                obtain ⟨x1, x2, x3⟩ := hl x (List.mem_cons_self ..)
                obtain ⟨y2, y3⟩ := hm y (List.mem_cons_self ..)
                by_cases c1 : stT gs x y = 0
                · rw [if_neg (by omega)] at g
                  have exy := stT_zero x2 y2 c1
                  subst exy
                  rw [stT_self, if_neg (by omega)]
                  exact ihl m (fun w hw => hl w (List.mem_cons_of_mem _ hw)) (fun w hw => hm w (List.mem_cons_of_mem _ hw)) g
                · rw [if_pos c1] at g
                  rw [ih x y x1 x2 y2 x3 y3 g]; simp
          have hUa' : ∀ x ∈ a.args, OkG gs (sbT bs x) := fun x hx => hUa.args _ (by rw [s2]; exact List.mem_map_of_mem hx)
          have hUb' : ∀ x ∈ b.args, OkG gs (sbT bs x) := fun x hx => hUb.args _ (by rw [r2]; exact List.mem_map_of_mem hx)
          refine key a.args b.args (fun x hx => ⟨?_, ha.args x hx, hUa' x hx⟩) (fun x hx => ⟨hb.args x hx, hUb' x hx⟩) h1
          obtain ⟨i, hi, rfl⟩ := List.getElem_of_mem hx
          have := sizeL_mem a.args i hi
          have := size_eqT a
          omega
theorem stT_puts {gs : List Sy} {bs : List Bi} {a b : T} (ha : OkG gs a) (hb : OkG gs b) (hUa : OkG gs (sbT bs a)) (hUb : OkG gs (sbT bs b)) (h : stT gs a b ≠ 2) : stT gs (sbT bs a) (sbT bs b) = stT gs a b := by
  rcases stT_vals gs a b with q | q | q | q
  · have := stT_zero ha hb q; subst this; rw [stT_self, stT_self]
  · rw [q]; exact stT_sb a.size a b (Nat.le_refl _) ha hb hUa hUb q
  · rw [q]
    have h1 : stT gs b a = 1 := by rw [stT_neg gs a b, q]; rfl
    have h2 := stT_sb b.size b a (Nat.le_refl _) hb ha hUb hUa h1
    rw [stT_neg gs (sbT bs b), h2]; rfl
  · exact absurd q h
end Go.Proofs.Ytdbadicpbmndbaa
/- Rows of terms: plain facts. No condition. -/
set_option linter.unusedVariables false
set_option linter.unusedSimpArgs false
namespace Go.Proofs.Ytdbadicpbmndbaa

/-- a row without what another one has, as often -/
def rsL : List T → List T → List T
  | [], _ => []
  | t :: r, left => if t ∈ left then rsL r (left.erase t) else t :: rsL r left
theorem rsL_count (x : T) : ∀ (l m : List T), (rsL l m).count x = l.count x - m.count x
  | [], m => by simp [rsL]
  | t :: r, m => by
    simp only [rsL]
    by_cases h : t ∈ m
    · rw [if_pos h, rsL_count x r, List.count_cons, List.count_erase]
      have hp := List.count_pos_iff.2 h
      by_cases e : t = x
      · subst e; simp; omega
      · have e2 : (t == x) = false := by simp [e]
        have e3 : (x == t) = false := by simp [Ne.symm e]
        simp [e2, e3]
    · rw [if_neg h, List.count_cons, List.count_cons, rsL_count x r]
      by_cases e : t = x
      · subst e
        have : m.count t = 0 := List.count_eq_zero.2 h
        simp; omega
      · have e2 : (t == x) = false := by simp [e]
        simp [e2]
theorem rsL_perm {l m l' m' : List T} (h : ∀ x, l.count x - m.count x = l'.count x - m'.count x) : (rsL l m).Perm (rsL l' m') :=
  List.perm_iff_count.2 fun x => by rw [rsL_count, rsL_count]; exact h x
theorem rsL_mem {l m : List T} {x : T} (h : x ∈ rsL l m) : x ∈ l := by
  have := List.count_pos_iff.2 h
  rw [rsL_count] at this
  exact List.count_pos_iff.1 (by omega)
theorem rsL_len : ∀ (l m : List T), (rsL l m).length ≤ l.length
  | [], m => by simp [rsL]
  | t :: r, m => by
    simp only [rsL]
    split
    · have := rsL_len r (m.erase t); simp; omega
    · have := rsL_len r m; simp; omega
def overL (gs : List Sy) (a b : List T) : Bool := decide (0 < a.length) && b.all fun u => a.any fun t => decide (stT gs t u = 1)
theorem overL_perm {gs : List Sy} {a b a' b' : List T} (h : a.Perm a') (k : b.Perm b') : overL gs a b = overL gs a' b' := by
  unfold overL
  rw [h.length_eq]
  congr 1
  rw [Bool.eq_iff_iff, List.all_eq_true, List.all_eq_true]
  constructor
  · intro q u hu
    have := q u (k.mem_iff.2 hu)
    rw [List.any_eq_true] at this ⊢
    obtain ⟨t, ht, h2⟩ := this
    exact ⟨t, h.mem_iff.1 ht, h2⟩
  · intro q u hu
    have := q u (k.mem_iff.1 hu)
    rw [List.any_eq_true] at this ⊢
    obtain ⟨t, ht, h2⟩ := this
    exact ⟨t, h.mem_iff.2 ht, h2⟩
def mulG (gs : List Sy) (a b : List T) : Int :=
  if (rsL a b).length + (rsL b a).length = 0 then 0 else if overL gs (rsL a b) (rsL b a) = true then 1 else if overL gs (rsL b a) (rsL a b) = true then -1 else 2
theorem mulG_perm {gs : List Sy} {a b a' b' : List T} (h : (rsL a b).Perm (rsL a' b')) (k : (rsL b a).Perm (rsL b' a')) : mulG gs a b = mulG gs a' b' := by
  unfold mulG
  rw [h.length_eq, k.length_eq, overL_perm h k, overL_perm k h]
/-- what both have plays no part -/
theorem mulG_both (gs : List Sy) (a b : List T) (t : T) : mulG gs (t :: a) (b ++ [t]) = mulG gs a b := by
  refine mulG_perm (rsL_perm fun x => ?_) (rsL_perm fun x => ?_)
  · simp [List.count_cons, List.count_append]; omega
  · simp [List.count_cons, List.count_append]; omega
/-- one more is greater -/
theorem mulG_more (gs : List Sy) (a : List T) (t : T) : mulG gs (t :: a) a = 1 := by
  have h1 : rsL a (t :: a) = [] := by
    have : ∀ x, (rsL a (t :: a)).count x = 0 := fun x => by rw [rsL_count, List.count_cons]; omega
    cases hq : rsL a (t :: a) with
    | nil => rfl
    | cons y r => have := this y; rw [hq] at this; simp at this
  have h2 : 0 < (rsL (t :: a) a).length := by
    have : 0 < (rsL (t :: a) a).count t := by rw [rsL_count, List.count_cons]; simp
    exact List.length_pos_of_mem (List.count_pos_iff.1 this)
  unfold mulG
  rw [h1, if_neg (by omega)]
  have : overL gs (rsL (t :: a) a) [] = true := by simp [overL, h2]
  rw [if_pos this]
theorem mulG_one {gs : List Sy} {a b : T} (ha : OkG gs a) (hb : OkG gs b) : mulG gs [a] [b] = stT gs a b := by
  unfold mulG
  by_cases h : a = b
  · subst h; simp [rsL, stT_self]
  · have h' : ¬ b = a := fun e => h e.symm
    have e1 : rsL [a] [b] = [a] := by simp [rsL, h]
    have e2 : rsL [b] [a] = [b] := by simp [rsL, h']
    rw [e1, e2, if_neg (by simp)]
    have o1 : overL gs [a] [b] = decide (stT gs a b = 1) := by simp [overL]
    have o2 : overL gs [b] [a] = decide (stT gs b a = 1) := by simp [overL]
    rw [o1, o2, stT_neg gs a b]
    rcases stT_vals gs a b with q | q | q | q
    · exact absurd (stT_zero ha hb q) h
    · simp [q]
    · simp [q, ngS]
    · simp [q, ngS]
/-- the first error of some -/
def wrongG (gs : List Sy) : List T → Int
  | [] => 0
  | t :: r => if termG gs t ≠ 0 then termG gs t else wrongG gs r
theorem wrongG_ok {gs : List Sy} : ∀ {l : List T}, wrongG gs l = 0 ↔ ∀ t ∈ l, OkG gs t
  | [] => by simp [wrongG]
  | t :: r => by
    simp only [wrongG]
    by_cases h : termG gs t = 0
    · rw [if_neg (by omega), wrongG_ok]
      simp [termG_ok.1 h]
    · rw [if_pos h]
      constructor
      · intro e; exact absurd e h
      · intro e; exact absurd (termG_ok.2 (e t (List.mem_cons_self ..))) h
theorem wrongG_take {gs : List Sy} {l : List T} {k : Nat} (hk : k < l.length) (h : ∀ t ∈ l.take k, termG gs t = 0) (hn : termG gs l[k] ≠ 0) : wrongG gs l = termG gs l[k] := by
  induction l generalizing k with
  | nil => simp at hk
  | cons t r ih =>
    cases k with
    | zero => simp only [List.getElem_cons_zero] at hn ⊢; simp only [wrongG]; rw [if_pos hn]
    | succ k =>
      simp only [List.getElem_cons_succ] at hn ⊢
      have h0 := h t (by simp)
      simp only [wrongG]
      rw [if_neg (by omega)]
      exact ih (by simpa using hk) (fun x hx => h x (by simp [hx])) hn
theorem wrongG_all {gs : List Sy} {l : List T} (h : ∀ t ∈ l, termG gs t = 0) : wrongG gs l = 0 := wrongG_ok.2 fun t ht => termG_ok.1 (h t ht)
end Go.Proofs.Ytdbadicpbmndbaa
/- Walks: how two terms stand to one another. -/
set_option linter.unusedVariables false
set_option linter.unusedSimpArgs false
/- short -/
namespace Go.Proofs.Ytdbadicpbmndbaa
open Go Lg

/-- a map holds whole numbers -/
def VM (xs : Mp) (D : Int → Int) : Prop := (xs.map (·.1)).Nodup ∧ ∀ k, (mget xs k).getD (.int .i64 0) = .int .i64 (D k)
theorem VM.nil : VM [] (fun _ => 0) := ⟨by simp, fun k => rfl⟩
theorem VM.put {xs : Mp} {D : Int → Int} (h : VM xs D) (k c : Int) : VM (mput xs k (.int .i64 (D k + c))) (fun j => if k = j then D j + c else D j) := by
  refine ⟨mput_nodup h.1, fun j => ?_⟩
  rw [mget_mput]
  by_cases e : k = j
  · subst e; simp
  · rw [if_neg e, h.2 j]; simp only [if_neg e]
theorem VM.entry {xs : Mp} {D : Int → Int} (h : VM xs D) {p : Int × Value} (hp : p ∈ xs) : p.2 = .int .i64 (D p.1) := by
  have h1 := (mget_mem h.1 (k := p.1) (v := p.2)).1 hp
  have h2 := h.2 p.1
  rw [h1] at h2; exact h2
theorem VM.some {xs : Mp} {D : Int → Int} (h : VM xs D) {k : Int} (hk : D k ≠ 0) : ∃ p ∈ xs, p.1 = k ∧ p.2 = .int .i64 (D k) := by
  have h2 := h.2 k
  cases hm : mget xs k with
  | none => rw [hm] at h2; simp at h2; exact absurd h2.symm hk
  | some u => rw [hm] at h2; simp at h2; subst h2; exact ⟨(k, .int .i64 (D k)), (mget_mem h.1).2 hm, rfl, rfl⟩
theorem VM.congr {xs : Mp} {D E : Int → Int} (h : VM xs D) (e : ∀ k, D k = E k) : VM xs E := ⟨h.1, fun k => by rw [h.2 k, e k]⟩
def cv (t : T) (k : Int) : Int := if k < 0 then (cn t k : Int) else 0
def cvV (l : List (Bool × T)) (k : Int) : Int := if k < 0 then (cnV l k : Int) else 0
theorem tm_bound {s x m : Int} (hs : s = 1 ∨ s = -1) (h0 : 0 ≤ x) (hm : x ≤ m) : -m ≤ s * x ∧ s * x ≤ m := by
  rcases hs with rfl | rfl <;> omega
theorem cvV_range (l : List (Bool × T)) (k : Int) : 0 ≤ cvV l k ∧ cvV l k ≤ l.length := by
  unfold cvV cnV
  have : (l.map (·.2.head)).count k ≤ (l.map (·.2.head)).length := List.count_le_length
  rw [List.length_map] at this
  split <;> omega
theorem cvV_app (a b : List (Bool × T)) (k : Int) : cvV (a ++ b) k = cvV a k + cvV b k := by
  unfold cvV; split
  · rw [cnV_app]; simp
  · rfl
theorem cvV_T (b : Bool) (t : T) (k : Int) : cvV (visT b t) k = cv t k := by unfold cvV cv; rw [cnV_T]
abbrev LoadE (b m : Nat) (w : Int) (xs : Mp) : List Ent := [.box b 197 [.int .i64 w, .map (some m)], .map m xs]

theorem add_does {gs : List Sy} {b m : Nat} {vg : Value} {s : Int} (hs : s = 1 ∨ s = -1) : ∀ (n : Nat) (t : T), t.size ≤ n → ∀ (I : Imm) (v : Value) (w : Int) (xs : Mp) (D : Int → Int), RepG I vg gs → RepT I v t → OkG gs t → VM xs D →
    (-1000000000000000 + 1000000 * (t.size : Int) ≤ w ∧ w ≤ 1000000000000000 - 1000000 * (t.size : Int)) → (∀ k, -1000000000000000 + 1000000 * (t.size : Int) ≤ D k ∧ D k ≤ 1000000000000000 - 1000000 * (t.size : Int)) →
    Does Try.prog 180 [.pointer (some ⟨b, 0, none⟩), vg, v, .int .i64 s] I (LoadE b m w xs) (fun _ _ δ' => ∃ xs', δ' = LoadE b m (w + s * wgtG gs t) xs' ∧ VM xs' (fun k => D k + s * cv t k)) := by
  intro n
  induction n with
  | zero => intro t h; have := t.size_pos; omega
  | succ n ih =>
    intro t hn I v w xs D hg hv hO hD hw hDb
    obtain ⟨ad, c, rfl⟩ := hg.shape
    obtain ⟨_, hc, hb, hat, hok⟩ := hg.open
    obtain ⟨a0, c0, rfl, hr0⟩ := hv.shape
    obtain ⟨_, _, _, hc0, hb0, ss, hatT, hsub⟩ := hv.open
    have hsz := size_eqT t
    have hsp := t.size_pos
    have h4 := chkT_size hO.chk
    have hheads := hO.heads
    have hhd := hheads (true, t) (by rw [visT_eq]; exact List.mem_cons_self ..)
    have hwB := wB_range hO.right hhd
    simp only at hhd hwB
    have hsw := tm_bound hs (show 0 ≤ wB gs t.head by omega) hwB.2
    have htot := wgtG_range hO
    have hpart : ∀ k, k ≤ t.args.length → 0 ≤ sumV gs (visL (t.args.take k)) ∧ sumV gs (visL (t.args.take k)) ≤ 400000 := fun k hk => by
      have e : sumV gs (visL t.args) = sumV gs (visL (t.args.take k)) + sumV gs (visL (t.args.drop k)) := by rw [← sumV_app, ← visL_app, List.take_append_drop]
      have hin : ∀ x ∈ visL t.args, x.2.head < 0 ∨ (0 ≤ x.2.head ∧ x.2.head < gs.length) := fun x hx => hheads x (by rw [visT_eq]; exact List.mem_cons_of_mem _ hx)
      have e2 : visL t.args = visL (t.args.take k) ++ visL (t.args.drop k) := by rw [← visL_app, List.take_append_drop]
      have h5 := sumV_nonneg hO.right (visL (t.args.take k)) (fun x hx => hin x (by rw [e2]; exact List.mem_append_left _ hx))
      have h6 := sumV_nonneg hO.right (visL (t.args.drop k)) (fun x hx => hin x (by rw [e2]; exact List.mem_append_right _ hx))
      have h7 := wgtG_eq gs t
      omega
    refine Does.intro Try.func180 rfl Try.ntmps180 rfl fun w0 => ?_
    refine code_seq ?_
    refine code_region ?_
    refine o_box rfl rfl rfl (fun b6 => ?_)
    refine ops_nil ?_
    refine post_next ?_
    refine code_seq ?_
    refine code_seq ?_
    refine code_region ?_
    first | refine op_v (v_fieldB 0 Try.underlying47 rfl rfl fz3 rfl) rfl ?_ | refine op_v (v_fieldI 0 Try.underlying47 rfl rfl fz3 rfl (by assumption)) rfl ?_ | refine op_v (v_field Try.underlying47 rfl fz3 rfl rfl) rfl ?_
    refine op_v (v_loadA ty3 rfl rfl) rfl ?_
    by_cases h12 : t.head < 0
    · have hleaf := hO.leaf h12
      have hw1 : wgtG gs t = 1 := by rw [wgtG_eq, hleaf]; simp [wB, h12, visL, sumV]
      have hcv : ∀ k, cv t k = if t.head = k then 1 else 0 := fun k => by
        unfold cv
        rw [cn_eq, hleaf]
        by_cases e : t.head = k
        · subst e; simp [h12, visL, cnV]
        · simp [e, visL, cnV]
      have hDk := hDb t.head
      first | refine op_v (v_cmptA rfl rfl rfl) rfl ?_ | refine op_v (v_cmpfA rfl rfl rfl) rfl ?_ | refine op_v (v_cmp rfl rfl rfl) rfl ?_
      refine ops_nil ?_
      refine post_next ?_
      refine code_cond_t rfl ?_
      refine code_seq ?_
      refine code_region ?_
      refine op_v (v_move rfl) rfl ?_
      refine op_v (v_nilCheck rfl) rfl ?_
      first | refine op_v (v_fieldB 0 Try.underlying197 rfl rfl fz3 rfl) rfl ?_ | refine op_v (v_fieldI 0 Try.underlying197 rfl rfl fz3 rfl (by assumption)) rfl ?_ | refine op_v (v_field Try.underlying197 rfl fz3 rfl rfl) rfl ?_
      refine op_v (v_loadA ty3 rfl rfl) rfl ?_
      refine op_v (v_move rfl) rfl ?_
      first | refine op_v (v_addb rfl rfl rfl (by omega)) rfl ?_ | refine op_v (v_add rfl rfl) rfl ?_
      refine op_v (v_nilCheck rfl) rfl ?_
      first | refine op_v (v_fieldB 0 Try.underlying197 rfl rfl fz3 rfl) rfl ?_ | refine op_v (v_fieldI 0 Try.underlying197 rfl rfl fz3 rfl (by assumption)) rfl ?_ | refine op_v (v_field Try.underlying197 rfl fz3 rfl rfl) rfl ?_
      refine o_store ty3 rfl rfl rfl rfl rfl (by repeat (first | exact Swap.here | apply Swap.there)) rfl ?_
      refine ops_nil ?_
      refine post_next ?_
      refine code_seq ?_
      refine code_draw (.fl 0 (.fl 1 (.fl 2 (.fl 3 (.fl 4 (.fl 5 (.fl 7 (.ef 6 (.fl 8 (.ef 9 .done)))))))))) (fun _ => _) mixed (by kernel_rfl) (by kernel_rfl) (fun _ => (List.Sublist.refl _)) ?_
      refine e_fl rfl rfl (fun hs_ => PF.mk rfl (v_move rfl) hs_) ?_
      refine e_fl rfl rfl (fun hs_ => PF.mk rfl (v_nilCheck rfl) hs_) ?_
      first | refine e_fl rfl rfl (fun hs_ => PF.mk rfl (v_fieldB 1 Try.underlying197 rfl rfl fz139 rfl) hs_) ?_ | refine e_fl rfl rfl (fun hs_ => PF.mk rfl (v_fieldI 1 Try.underlying197 rfl rfl fz139 rfl (by assumption)) hs_) ?_ | refine e_fl rfl rfl (fun hs_ => PF.mk rfl (v_field Try.underlying197 rfl fz139 rfl rfl) hs_) ?_
      refine e_fl rfl rfl (fun hs_ => PF.mk rfl (v_loadA ty139 rfl rfl) hs_) ?_
      first | refine e_fl rfl rfl (fun hs_ => PF.mk rfl (v_fieldB 0 Try.underlying47 rfl rfl fz3 rfl) hs_) ?_ | refine e_fl rfl rfl (fun hs_ => PF.mk rfl (v_fieldI 0 Try.underlying47 rfl rfl fz3 rfl (by assumption)) hs_) ?_ | refine e_fl rfl rfl (fun hs_ => PF.mk rfl (v_field Try.underlying47 rfl fz3 rfl rfl) hs_) ?_
      refine e_fl rfl rfl (fun hs_ => PF.mk rfl (v_loadA ty3 rfl rfl) hs_) ?_
      refine e_fl rfl rfl (fun hs_ => PF.mk rfl (v_move rfl) hs_) ?_
      refine e_eff rfl (by intro cs b hc; cases hc) (by intro c hc; cases hc) ?_
      refine op_v (v_mlook Try.underlying139 Try.underlying3 z3 rfl rfl (by repeat (first | exact Has.here | apply Has.there)) (hD.2 t.head)) rfl ?_
      refine ops_nil ?_
      refine e_next rfl side_allA ?_
      first | refine e_fl rfl rfl (fun hs_ => PF.mk rfl (v_addb rfl rfl rfl (by omega)) hs_) ?_ | refine e_fl rfl rfl (fun hs_ => PF.mk rfl (v_add rfl rfl) hs_) ?_
      refine e_eff rfl (by intro cs b hc; cases hc) (by intro c hc; cases hc) ?_
      refine o_mapUpdate Try.underlying139 Try.underlying3 rfl rfl rfl rfl (by repeat (first | exact Swap.here | apply Swap.there)) ?_
      refine ops_nil ?_
      refine e_next_ (side_nil (by kernel_rfl)) ?_
      refine e_done ?_
      refine post_next ?_
      refine code_ret ?_
      refine post_ret_then ?_
      exact post_ret (rs := []) rfl (List.Perm.refl _) .nil (List.sublist_cons_self _ _) ⟨_, by rw [hw1, Int.mul_one], (hD.put t.head s).congr (fun k => by rw [hcv k]; show (if t.head = k then D k + s else D k) = _; split <;> simp)⟩
    · have hlt : t.head.toNat < gs.length := by omega
      have hs1 := (hat _ hlt).isSome
      have hwq : wB gs t.head = (gs[t.head.toNat]'hlt).wt := by rw [wB, if_neg h12, wtG_at (by omega) (by omega)]
      rw [hwq] at hsw
      obtain ⟨q, hq⟩ : ∃ q : Int, q = s * (gs[t.head.toNat]'hlt).wt := ⟨_, rfl⟩
      rw [← hq] at hsw
      first | refine op_v (v_cmptA rfl rfl rfl) rfl ?_ | refine op_v (v_cmpfA rfl rfl rfl) rfl ?_ | refine op_v (v_cmp rfl rfl rfl) rfl ?_
      refine ops_nil ?_
      refine post_next ?_
      refine code_cond_f rfl ?_
      refine code_skip ?_
      refine post_next ?_
      refine code_seq ?_
      refine code_draw (.fl 0 (.fl 1 (.fl 2 (.fl 3 (.fl 4 (.fl 5 (.fl 6 (.fl 7 (.fl 8 (.fl 9 (.fl 10 (.fl 11 (.fl 12 (.fl 13 (.fl 14 (.ef 15 .done)))))))))))))))) (two 13 [.box b6 47 [.int .i64 t.head, .slice a0 t.args.length c0], .box b 197 [.int .i64 w, .map (some m)], .map m xs] []) mixed (by kernel_rfl) (by kernel_rfl) (two_sub (List.Sublist.refl _) (List.nil_sublist _)) ?_
      refine e_float rfl rfl (fun hs_ => PF.mk rfl (v_move rfl) hs_) Imm.leA (by intro x hx; first | exact hx | (change x ∈ [] at hx; cases hx)) ?_
      refine e_float rfl rfl (fun hs_ => PF.mk rfl (v_nilCheck rfl) hs_) Imm.leA (by intro x hx; first | exact hx | (change x ∈ [] at hx; cases hx)) ?_
      first | refine e_float rfl rfl (fun hs_ => PF.mk rfl (v_fieldB 0 Try.underlying197 rfl rfl fz3 rfl) hs_) Imm.leA (by intro x hx; first | exact hx | (change x ∈ [] at hx; cases hx)) ?_ | refine e_float rfl rfl (fun hs_ => PF.mk rfl (v_fieldI 0 Try.underlying197 rfl rfl fz3 rfl (by assumption)) hs_) Imm.leA (by intro x hx; first | exact hx | (change x ∈ [] at hx; cases hx)) ?_ | refine e_float rfl rfl (fun hs_ => PF.mk rfl (v_field Try.underlying197 rfl fz3 rfl rfl) hs_) Imm.leA (by intro x hx; first | exact hx | (change x ∈ [] at hx; cases hx)) ?_
      refine e_float rfl rfl (fun hs_ => PF.mk rfl (v_loadA ty3 rfl rfl) hs_) Imm.leA (by intro x hx; first | exact hx | (change x ∈ [] at hx; cases hx)) ?_
      refine e_float rfl rfl (fun hs_ => PF.mk rfl (v_move rfl) hs_) Imm.leA (by intro x hx; first | exact hx | (change x ∈ [] at hx; cases hx)) ?_
      refine e_float rfl rfl (fun hs_ => PF.mk rfl (v_move rfl) hs_) Imm.leA (by intro x hx; first | exact hx | (change x ∈ [] at hx; cases hx)) ?_
      first | refine e_float rfl rfl (fun hs_ => PF.mk rfl (v_fieldB 0 Try.underlying47 rfl rfl fz3 rfl) hs_) Imm.leA (by intro x hx; first | exact hx | (change x ∈ [] at hx; cases hx)) ?_ | refine e_float rfl rfl (fun hs_ => PF.mk rfl (v_fieldI 0 Try.underlying47 rfl rfl fz3 rfl (by assumption)) hs_) Imm.leA (by intro x hx; first | exact hx | (change x ∈ [] at hx; cases hx)) ?_ | refine e_float rfl rfl (fun hs_ => PF.mk rfl (v_field Try.underlying47 rfl fz3 rfl rfl) hs_) Imm.leA (by intro x hx; first | exact hx | (change x ∈ [] at hx; cases hx)) ?_
      refine e_float rfl rfl (fun hs_ => PF.mk rfl (v_loadA ty3 rfl rfl) hs_) Imm.leA (by intro x hx; first | exact hx | (change x ∈ [] at hx; cases hx)) ?_
      first | refine e_float rfl rfl (fun hs_ => PF.mk rfl (v_indexA Try.underlying22 sz79 rfl rfl) hs_) Imm.leA (by intro x hx; first | exact hx | (change x ∈ [] at hx; cases hx)) ?_ | refine e_float rfl rfl (fun hs_ => PF.mk rfl (v_indexIA Try.underlying22 sz79 rfl rfl) hs_) Imm.leA (by intro x hx; first | exact hx | (change x ∈ [] at hx; cases hx)) ?_
      first | refine e_float rfl rfl (fun hs_ => PF.mk rfl (v_fieldB 2 Try.underlying79 rfl rfl fz3 rfl) hs_) Imm.leA (by intro x hx; first | exact hx | (change x ∈ [] at hx; cases hx)) ?_ | refine e_float rfl rfl (fun hs_ => PF.mk rfl (v_fieldI 2 Try.underlying79 rfl rfl fz3 rfl (by assumption)) hs_) Imm.leA (by intro x hx; first | exact hx | (change x ∈ [] at hx; cases hx)) ?_ | refine e_float rfl rfl (fun hs_ => PF.mk rfl (v_field Try.underlying79 rfl fz3 rfl rfl) hs_) Imm.leA (by intro x hx; first | exact hx | (change x ∈ [] at hx; cases hx)) ?_
      first | refine e_float rfl rfl (fun hs_ => PF.mk rfl (v_loadI0 ty3 ((hat _ hlt)) rfl rfl rfl) hs_) Imm.leA (by intro x hx; first | exact hx | (change x ∈ [] at hx; cases hx)) ?_ | refine e_float rfl rfl (fun hs_ => PF.mk rfl (v_loadI ty3 ((hat _ hlt)) rfl rfl rfl) hs_) Imm.leA (by intro x hx; first | exact hx | (change x ∈ [] at hx; cases hx)) ?_
      refine e_float rfl rfl (fun hs_ => PF.mk rfl (v_mulb (c := q) rfl rfl hq.symm ⟨by omega, by omega⟩) hs_) Imm.leA (by intro x hx; first | exact hx | (change x ∈ [] at hx; cases hx)) ?_
      first | refine e_float rfl rfl (fun hs_ => PF.mk rfl (v_addb rfl rfl rfl (by omega)) hs_) Imm.leA (by intro x hx; first | exact hx | (change x ∈ [] at hx; cases hx)) ?_ | refine e_float rfl rfl (fun hs_ => PF.mk rfl (v_add rfl rfl) hs_) Imm.leA (by intro x hx; first | exact hx | (change x ∈ [] at hx; cases hx)) ?_
      refine e_float rfl rfl (fun hs_ => PF.mk rfl (v_nilCheck rfl) hs_) Imm.leA (by intro x hx; first | exact hx | (change x ∈ [] at hx; cases hx)) ?_
      first | refine e_float rfl rfl (fun hs_ => PF.mk rfl (v_fieldB 0 Try.underlying197 rfl rfl fz3 rfl) hs_) Imm.leA (by intro x hx; first | exact hx | (change x ∈ [] at hx; cases hx)) ?_ | refine e_float rfl rfl (fun hs_ => PF.mk rfl (v_fieldI 0 Try.underlying197 rfl rfl fz3 rfl (by assumption)) hs_) Imm.leA (by intro x hx; first | exact hx | (change x ∈ [] at hx; cases hx)) ?_ | refine e_float rfl rfl (fun hs_ => PF.mk rfl (v_field Try.underlying197 rfl fz3 rfl rfl) hs_) Imm.leA (by intro x hx; first | exact hx | (change x ∈ [] at hx; cases hx)) ?_
      refine e_eff rfl (by intro cs b hc; cases hc) (by intro c hc; cases hc) ?_
      refine o_store ty3 rfl rfl rfl rfl rfl (by repeat (first | exact Swap.here | apply Swap.there)) rfl ?_
      refine ops_nil ?_
      refine e_next_ (side_two (by kernel_rfl) (Imm.le_refl _) (by intro x hx; cases hx)) ?_
      refine e_done ?_
      refine post_next ?_
      refine code_seq ?_
      refine code_region ?_
      first | refine op_v (v_fieldB 1 Try.underlying47 rfl rfl fz45 rfl) rfl ?_ | refine op_v (v_fieldI 1 Try.underlying47 rfl rfl fz45 rfl (by assumption)) rfl ?_ | refine op_v (v_field Try.underlying47 rfl fz45 rfl rfl) rfl ?_
      refine op_v (v_loadA ty45 rfl rfl) rfl ?_
      refine op_v (v_len Try.underlying45 rfl) rfl ?_
      refine op_v (v_move rfl) rfl ?_
      refine ops_nil ?_
      refine post_next ?_
      refine code_block ?_
      refine code_loop (fun m' σ' I' δ' => ∃ (k : Nat) (xs' : Mp), m' = t.args.length - k ∧ k ≤ t.args.length ∧ σ' = [(0, .pointer (some ⟨b, 0, none⟩)), (1, .slice ad gs.length c), (3, .int .i64 s), (46, .slice a0 t.args.length c0), (47, .int .i64 t.args.length), (48, .int .i64 k)] ∧ I.le I' ∧ δ' = .box b6 47 [.int .i64 t.head, .slice a0 t.args.length c0] :: LoadE b m (w + s * (wB gs t.head + sumV gs (visL (t.args.take k)))) xs' ∧ VM xs' (fun j => D j + s * cvV (visL (t.args.take k)) j)) t.args.length [(0, .pointer (some ⟨b, 0, none⟩)), (1, .slice ad gs.length c), (3, .int .i64 s), (46, .slice a0 t.args.length c0), (47, .int .i64 t.args.length), (48, .int .i64 (0 : Nat))] ⟨0, xs, rfl, Nat.zero_le _, rfl, Imm.le_refl _, (by simp only [LoadE, List.take_zero, visL, hwq, sumV, List.map_nil, List.sum_nil, Int.add_zero, ← hq]; rfl), hD.congr (fun j => by simp [visL, cvV, cnV])⟩ ⟨rfl, rfl, rfl, rfl, rfl, rfl, trivial⟩ ?_
      rintro m' _ I1 _ ⟨k, xs', rfl, hk, rfl, hI1, rfl, hV⟩
      have hpk := hpart k hk
      refine code_seq ?_
      refine code_region ?_
      first | refine op_v (v_cmptA rfl rfl rfl) rfl ?_ | refine op_v (v_cmpfA rfl rfl rfl) rfl ?_ | refine op_v (v_cmp rfl rfl rfl) rfl ?_
      refine ops_nil ?_
      refine post_next ?_
      refine code_seq ?_
      refine code_cond rfl (fun hc1 => ?_) (fun hc1 => ?_)
      · have hlt2 : k < t.args.length := by simpa using hc1
        have hs2 := (hatT k hlt2).isSome
        have hm := sizeL_mem t.args k hlt2
        have hch := (hO.child k hlt2).1
        have hb1 := tm_bound hs (show 0 ≤ wB gs t.head + sumV gs (visL (t.args.take k)) by omega) (show _ ≤ 401000 by omega)
        refine code_skip ?_
        refine post_next ?_
        refine code_seq ?_
        refine code_block ?_
        refine code_seq ?_
        refine code_region ?_
        first | refine op_v (v_indexA Try.underlying45 sz47 rfl rfl) rfl ?_ | refine op_v (v_indexIA Try.underlying45 sz47 rfl rfl) rfl ?_
        first | refine op_v (v_loadI0 ty47 ((hatT k hlt2).mono hI1) rfl rfl rfl) rfl ?_ | refine op_v (v_loadI ty47 ((hatT k hlt2).mono hI1) rfl rfl rfl) rfl ?_
        refine o_alloc z47 rfl rfl (fun b9 => ?_)
        refine o_store ty47 rfl rfl rfl rfl rfl (by repeat (first | exact Swap.here | apply Swap.there)) rfl ?_
        refine ops_nil ?_
        refine post_next ?_
        refine code_region ?_
        refine op_v (v_move rfl) rfl ?_
        refine op_v (v_move rfl) rfl ?_
        refine op_v (v_loadA ty47 rfl rfl) rfl ?_
        refine op_v (v_move rfl) rfl ?_
        refine op_call pl180 rfl rfl ((ih t.args[k] (by omega) _ _ _ _ _ (hg.mono hI1) ((hsub k hlt2).mono hI1) hch hV ⟨by omega, by omega⟩ (fun j => by have h8 := hDb j; have h9 := cvV_range (visL (t.args.take k)) j; have h10 := visL_length (t.args.take k); have h11 : sizeL (t.args.take k) ≤ sizeL t.args := by { have h3 := congrArg List.length (visL_app (t.args.take k) (t.args.drop k)); rw [List.take_append_drop, List.length_append, visL_length, visL_length, visL_length] at h3; omega }; have h12 := tm_bound hs h9.1 (show _ ≤ 400 by omega); constructor <;> omega))) (List.perm_append_comm (l₁ := [_, _])) ?_
        rintro v56 I56 _ hI56 ⟨xs2, rfl, hV2⟩
        refine OpsJ.view (View.perm (List.perm_append_comm (l₂ := [_, _]))) ?_
        refine ops_nil ?_
        refine post_out ?_
        refine post_next ?_
        refine code_region ?_
        first | refine op_v (v_addb rfl rfl rfl (by omega)) rfl ?_ | refine op_v (v_add rfl rfl) rfl ?_
        refine op_v (v_move rfl) rfl ?_
        refine ops_nil ?_
        refine PostJ.view (View.drop Del.here) ?_
        refine post_again (t.args.length - (k + 1)) [(0, .pointer (some ⟨b, 0, none⟩)), (1, .slice ad gs.length c), (3, .int .i64 s), (46, .slice a0 t.args.length c0), (47, .int .i64 t.args.length), (48, .int .i64 (k + 1 : Nat))] (by omega) ⟨k + 1, xs2, rfl, hlt2, rfl, Imm.leA, ?_, hV2.congr (fun j => ?_)⟩ ⟨rfl, rfl, rfl, rfl, rfl, rfl, trivial⟩
        · have e : w + s * (wB gs t.head + sumV gs (visL (t.args.take k))) + s * wgtG gs t.args[k] = w + s * (wB gs t.head + sumV gs (visL (t.args.take (k + 1)))) := by rw [visL_take t.args k hlt2, sumV_app, sumV_T, Int.add_assoc, ← Int.mul_add, Int.add_assoc]
          simp only [LoadE, ← e]; rfl
        · rw [visL_take t.args k hlt2, cvV_app, cvV_T, Int.mul_add]; omega
      · have hge : k = t.args.length := by simp at hc1; omega
        refine code_exit ?_
        refine post_exit_then ?_
        refine post_exit_then ?_
        refine post_exit ?_
        refine post_end (rs := []) rfl (List.Perm.refl _) .nil (List.sublist_cons_self _ _) ⟨xs', ?_, hV.congr (fun j => ?_)⟩
        · rw [hge, List.take_length, ← wgtG_eq]
        · rw [hge, List.take_length]
          have e1 : cv t j = cvV (visL t.args) j := by rw [← cvV_T true t, visT_eq]; unfold cvV cnV; split; (rw [List.map_cons, List.count_cons]; have e2 : (t.head == j) = false := by { simp; omega }; simp only [e2]; simp); rfl
          rw [e1]
end Go.Proofs.Ytdbadicpbmndbaa
/- Walks: how two terms stand to one another. -/
set_option linter.unusedVariables false
set_option linter.unusedSimpArgs false
/- short -/
namespace Go.Proofs.Ytdbadicpbmndbaa
open Go Lg

theorem signs_does {I : Imm} {b m : Nat} {w : Int} {xs : Mp} {D : Int → Int} (hV : VM xs D) :
    Does Try.prog 184 [.pointer (some ⟨b, 0, none⟩)] I (LoadE b m w xs) (fun v _ δ' => (∃ mo le : Bool, v = .tuple #[.bool mo, .bool le] ∧ (mo = true ↔ ∃ k, 0 < D k) ∧ (le = true ↔ ∃ k, D k < 0)) ∧ δ' = LoadE b m w xs) := by
  have hent : ∀ p ∈ xs, p.2 = .int .i64 (D p.1) := fun p hp => hV.entry hp
  have hmo : (∃ p ∈ xs, 0 < D p.1) ↔ ∃ k, 0 < D k := ⟨fun ⟨p, _, h⟩ => ⟨p.1, h⟩, fun ⟨k, h⟩ => let ⟨p, hp, h1, _⟩ := hV.some (k := k) (by omega); ⟨p, hp, by rw [h1]; exact h⟩⟩
  have hle : (∃ p ∈ xs, D p.1 < 0) ↔ ∃ k, D k < 0 := ⟨fun ⟨p, _, h⟩ => ⟨p.1, h⟩, fun ⟨k, h⟩ => let ⟨p, hp, h1, _⟩ := hV.some (k := k) (by omega); ⟨p, hp, by rw [h1]; exact h⟩⟩
  refine Does.intro Try.func184 rfl Try.ntmps184 rfl fun w0 => ?_
  refine code_seq ?_
  refine code_region ?_
  refine op_v (v_assign rfl) rfl ?_
  refine op_v (v_assign rfl) rfl ?_
  refine ops_nil ?_
  refine post_next ?_
  refine code_seq ?_
  refine code_region ?_
  refine op_v (v_assign rfl) rfl ?_
  refine op_v (v_assign rfl) rfl ?_
  refine ops_nil ?_
  refine post_next ?_
  refine code_seq ?_
  refine code_seq ?_
  refine code_region ?_
  refine op_v (v_move rfl) rfl ?_
  refine op_v (v_nilCheck rfl) rfl ?_
  first | refine op_v (v_fieldB 1 Try.underlying197 rfl rfl fz139 rfl) rfl ?_ | refine op_v (v_fieldI 1 Try.underlying197 rfl rfl fz139 rfl (by assumption)) rfl ?_ | refine op_v (v_field Try.underlying197 rfl fz139 rfl rfl) rfl ?_
  refine op_v (v_loadA ty139 rfl rfl) rfl ?_
  refine OpsJ.openMap (δ' := fun es ck => [.box b 197 [.int .i64 w, .map (some m)], .obj m (.map es ck)]) (fun _ _ => Swap.there Swap.here) ?_
  intro es ck hmi
  refine o_range Try.underlying139 rfl (Has.there Has.here) hmi rfl (fun r12 hL0 => ?_)
  refine ops_nil ?_
  refine post_next ?_
  refine code_block ?_
  refine code_loop (fun m' σ' I' δ' => ∃ (mo le : Bool) (left : Mp) (seen : Array Nat), m' = left.length ∧ σ' = [(12, .pointer (some ⟨r12, 0, none⟩)), (4, .bool mo), (5, .bool le)] ∧ I' = I ∧ δ' = [.obj r12 (.mapIter (some m) ck seen ck), .box b 197 [.int .i64 w, .map (some m)], .obj m (.map es ck)] ∧ LeftM es ck ck seen ck xs left ∧ (∀ p ∈ left, p ∈ xs) ∧ ((mo = true ∨ ∃ p ∈ left, 0 < D p.1) ↔ ∃ p ∈ xs, 0 < D p.1) ∧ ((le = true ∨ ∃ p ∈ left, D p.1 < 0) ↔ ∃ p ∈ xs, D p.1 < 0)) xs.length [(12, .pointer (some ⟨r12, 0, none⟩)), (4, .bool false), (5, .bool false)] ⟨false, false, xs, _, rfl, rfl, rfl, rfl, hL0, fun _ h => h, by simp, by simp⟩ ⟨rfl, rfl, rfl, trivial⟩ ?_
  rintro m' _ _ _ ⟨mo, le, left, seen, rfl, rfl, rfl, rfl, hL, hin, hm1, hl1⟩
  refine code_seq ?_
  refine code_region ?_
  by_cases hls : left = []
  · refine o_mnext0 hls hL rfl (Has.there (Has.there Has.here)) (fun _ => Swap.here) rfl ?_
    refine op_v (v_extract rfl rfl) rfl ?_
    refine ops_nil ?_
    refine post_next ?_
    refine code_seq ?_
    refine code_cond_f rfl ?_
    refine code_exit ?_
    refine post_exit_then ?_
    refine post_exit_then ?_
    refine post_exit ?_
    refine post_next ?_
    refine code_seq ?_
    refine code_region ?_
    subst hls
    refine OpsJ.view ((View.drop Del.here).trans (View.closeMap hmi (Swap.there Swap.here))) ?_
    refine op_v (v_move rfl) rfl ?_
    refine op_v (v_move rfl) rfl ?_
    refine op_v (v_assign rfl) rfl ?_
    refine op_v (v_assign rfl) rfl ?_
    refine ops_nil ?_
    refine post_next ?_
    refine code_ret ?_
    refine post_ret (rs := [.tmp 2, .tmp 3]) rfl (List.Perm.refl _) (.cons (.tmp rfl) (.cons (.tmp rfl) .nil)) (List.Sublist.refl _) ?_
    exact ⟨⟨mo, le, rfl, by rw [← hmo, ← hm1]; simp, by rw [← hle, ← hl1]; simp⟩, rfl⟩
  · refine o_mnext1 hls hL rfl (Has.there (Has.there Has.here)) (fun _ => Swap.here) rfl (fun l k u q seen' hl hL' hcur => ?_)
    subst hl
    have hu := hent (k, u) (hin _ (by simp))
    simp only at hu
    subst hu
    have hin' : ∀ p ∈ l ++ q, p ∈ xs := fun p hp => hin p (by rcases List.mem_append.1 hp with h | h; exact List.mem_append_left _ h; exact List.mem_append_right _ (List.mem_cons_of_mem _ h))
    have hmeas : (l ++ q).length < (l ++ (k, Value.int .i64 (D k)) :: q).length := by simp
    have hm2 : ((mo || decide (0 < D k)) = true ∨ ∃ p ∈ l ++ q, 0 < D p.1) ↔ ∃ p ∈ xs, 0 < D p.1 := by
      rw [← hm1]
      simp only [List.mem_append, List.mem_cons, Bool.or_eq_true, decide_eq_true_eq]
      constructor
      · rintro ((h | h) | ⟨p, h | h, h2⟩)
        · exact .inl h
        · exact .inr ⟨_, .inr (.inl rfl), h⟩
        · exact .inr ⟨p, .inl h, h2⟩
        · exact .inr ⟨p, .inr (.inr h), h2⟩
      · rintro (h | ⟨p, h | rfl | h, h2⟩)
        · exact .inl (.inl h)
        · exact .inr ⟨p, .inl h, h2⟩
        · exact .inl (.inr h2)
        · exact .inr ⟨p, .inr h, h2⟩
    have hl2 : ((le || decide (D k < 0)) = true ∨ ∃ p ∈ l ++ q, D p.1 < 0) ↔ ∃ p ∈ xs, D p.1 < 0 := by
      rw [← hl1]
      simp only [List.mem_append, List.mem_cons, Bool.or_eq_true, decide_eq_true_eq]
      constructor
      · rintro ((h | h) | ⟨p, h | h, h2⟩)
        · exact .inl h
        · exact .inr ⟨_, .inr (.inl rfl), h⟩
        · exact .inr ⟨p, .inl h, h2⟩
        · exact .inr ⟨p, .inr (.inr h), h2⟩
      · rintro (h | ⟨p, h | rfl | h, h2⟩)
        · exact .inl (.inl h)
        · exact .inr ⟨p, .inl h, h2⟩
        · exact .inl (.inr h2)
        · exact .inr ⟨p, .inr h, h2⟩
    refine op_v (v_extract rfl rfl) rfl ?_
    refine ops_nil ?_
    refine post_next ?_
    refine code_seq ?_
    refine code_cond_t rfl ?_
    refine code_skip ?_
    refine post_next ?_
    refine code_block ?_
    refine code_seq ?_
    refine code_region ?_
    refine op_v (v_entry hL' rfl hcur (Has.there (Has.there Has.here)) Has.here) rfl ?_
    refine op_v (v_extract rfl rfl) rfl ?_
    refine op_v (v_assign rfl) rfl ?_
    refine ops_nil ?_
    refine post_next ?_
    refine code_region ?_
    refine op_v (v_move rfl) rfl ?_
    by_cases hmo1 : mo = true
    · subst hmo1
      refine op_v (v_move rfl) rfl ?_
      first
        | (refine op_want rfl rfl ?_
           refine op_v (v_move rfl) rfl ?_)
        | (refine op_skip rfl rfl (by simp [undef]) rfl ?_)
      first
        | (refine op_want rfl rfl ?_
           refine op_v (v_cmp (z := decide (0 < D k)) rfl rfl rfl) rfl ?_)
        | (refine op_skip rfl rfl (by simp [undef]) rfl ?_)
      first | refine op_v (v_pickt rfl rfl) rfl ?_ | refine op_v (v_pickf rfl rfl) rfl ?_ | refine op_v (v_pickb rfl rfl rfl) rfl ?_
      refine op_v (v_move rfl) rfl ?_
      by_cases hle1 : le = true
      · subst hle1
        refine op_v (v_move rfl) rfl ?_
        first
          | (refine op_want rfl rfl ?_
             refine op_v (v_move rfl) rfl ?_)
          | (refine op_skip rfl rfl (by simp [undef]) rfl ?_)
        first
          | (refine op_want rfl rfl ?_
             refine op_v (v_cmp (z := decide (D k < 0)) rfl rfl rfl) rfl ?_)
          | (refine op_skip rfl rfl (by simp [undef]) rfl ?_)
        first | refine op_v (v_pickt rfl rfl) rfl ?_ | refine op_v (v_pickf rfl rfl) rfl ?_ | refine op_v (v_pickb rfl rfl rfl) rfl ?_
        refine op_v (v_assign rfl) rfl ?_
        refine op_v (v_assign rfl) rfl ?_
        refine ops_nil ?_
        refine post_out ?_
        refine post_again _ [(12, .pointer (some ⟨r12, 0, none⟩)), (4, .bool true), (5, .bool true)] hmeas ⟨_, _, l ++ q, seen', rfl, rfl, rfl, rfl, hL', hin', by simpa using hm2, by simpa using hl2⟩ ⟨rfl, rfl, rfl, trivial⟩
      · have hle2 : le = false := by simpa using hle1
        subst hle2
        refine op_v (v_move rfl) rfl ?_
        first
          | (refine op_want rfl rfl ?_
             refine op_v (v_move rfl) rfl ?_)
          | (refine op_skip rfl rfl (by simp [undef]) rfl ?_)
        first
          | (refine op_want rfl rfl ?_
             refine op_v (v_cmp (z := decide (D k < 0)) rfl rfl rfl) rfl ?_)
          | (refine op_skip rfl rfl (by simp [undef]) rfl ?_)
        first | refine op_v (v_pickt rfl rfl) rfl ?_ | refine op_v (v_pickf rfl rfl) rfl ?_ | refine op_v (v_pickb rfl rfl rfl) rfl ?_
        refine op_v (v_assign rfl) rfl ?_
        refine op_v (v_assign rfl) rfl ?_
        refine ops_nil ?_
        refine post_out ?_
        refine post_again _ [(12, .pointer (some ⟨r12, 0, none⟩)), (4, .bool true), (5, .bool (decide (D k < 0)))] hmeas ⟨_, _, l ++ q, seen', rfl, rfl, rfl, rfl, hL', hin', by simpa using hm2, by simpa using hl2⟩ ⟨rfl, rfl, rfl, trivial⟩
    · have hmo2 : mo = false := by simpa using hmo1
      subst hmo2
      refine op_v (v_move rfl) rfl ?_
      first
        | (refine op_want rfl rfl ?_
           refine op_v (v_move rfl) rfl ?_)
        | (refine op_skip rfl rfl (by simp [undef]) rfl ?_)
      first
        | (refine op_want rfl rfl ?_
           refine op_v (v_cmp (z := decide (0 < D k)) rfl rfl rfl) rfl ?_)
        | (refine op_skip rfl rfl (by simp [undef]) rfl ?_)
      first | refine op_v (v_pickt rfl rfl) rfl ?_ | refine op_v (v_pickf rfl rfl) rfl ?_ | refine op_v (v_pickb rfl rfl rfl) rfl ?_
      refine op_v (v_move rfl) rfl ?_
      skip
      refine op_v (v_move rfl) rfl ?_
      by_cases hle3 : le = true
      · subst hle3
        first
          | (refine op_want rfl rfl ?_
             refine op_v (v_move rfl) rfl ?_)
          | (refine op_skip rfl rfl (by simp [undef]) rfl ?_)
        first
          | (refine op_want rfl rfl ?_
             refine op_v (v_cmp (z := decide (D k < 0)) rfl rfl rfl) rfl ?_)
          | (refine op_skip rfl rfl (by simp [undef]) rfl ?_)
        first | refine op_v (v_pickt rfl rfl) rfl ?_ | refine op_v (v_pickf rfl rfl) rfl ?_ | refine op_v (v_pickb rfl rfl rfl) rfl ?_
        refine op_v (v_assign rfl) rfl ?_
        refine op_v (v_assign rfl) rfl ?_
        refine ops_nil ?_
        refine post_out ?_
        refine post_again _ [(12, .pointer (some ⟨r12, 0, none⟩)), (4, .bool (decide (0 < D k))), (5, .bool true)] hmeas ⟨_, _, l ++ q, seen', rfl, rfl, rfl, rfl, hL', hin', by simpa using hm2, by simpa using hl2⟩ ⟨rfl, rfl, rfl, trivial⟩
      · have hle2 : le = false := by simpa using hle3
        subst hle2
        first
          | (refine op_want rfl rfl ?_
             refine op_v (v_move rfl) rfl ?_)
          | (refine op_skip rfl rfl (by simp [undef]) rfl ?_)
        first
          | (refine op_want rfl rfl ?_
             refine op_v (v_cmp (z := decide (D k < 0)) rfl rfl rfl) rfl ?_)
          | (refine op_skip rfl rfl (by simp [undef]) rfl ?_)
        first | refine op_v (v_pickt rfl rfl) rfl ?_ | refine op_v (v_pickf rfl rfl) rfl ?_ | refine op_v (v_pickb rfl rfl rfl) rfl ?_
        refine op_v (v_assign rfl) rfl ?_
        refine op_v (v_assign rfl) rfl ?_
        refine ops_nil ?_
        refine post_out ?_
        refine post_again _ [(12, .pointer (some ⟨r12, 0, none⟩)), (4, .bool (decide (0 < D k))), (5, .bool (decide (D k < 0)))] hmeas ⟨_, _, l ++ q, seen', rfl, rfl, rfl, rfl, hL', hin', by simpa using hm2, by simpa using hl2⟩ ⟨rfl, rfl, rfl, trivial⟩
def DM (a b : T) (k : Int) : Int := if k < 0 then (cn a k : Int) - (cn b k : Int) else 0
theorem DM_pos (a b : T) : (∃ k, 0 < DM a b k) ↔ vleB b a = false := by
  rw [← Bool.not_eq_true, vleB_iff]
  unfold DM
  constructor
  · rintro ⟨k, h⟩ hv
    by_cases hk : k < 0
    · rw [if_pos hk] at h; have := hv k hk; omega
    · rw [if_neg hk] at h; omega
  · intro h
    rcases Classical.em (∃ k, 0 < DM a b k) with h1 | h1
    · exact h1
    · exfalso
      apply h
      intro k hk
      have : ¬ 0 < DM a b k := fun h2 => h1 ⟨k, h2⟩
      unfold DM at this
      rw [if_pos hk] at this; omega
theorem DM_neg (a b : T) : (∃ k, DM a b k < 0) ↔ vleB a b = false := by
  rw [← DM_pos b a]
  unfold DM
  constructor <;> (rintro ⟨k, h⟩; refine ⟨k, ?_⟩; split at h <;> rename_i hk <;> first | rw [if_pos hk]; omega | omega)
theorem side_does {I : Imm} {b m : Nat} {w n : Int} {xs : Mp} {s t : T} (hV : VM xs (DM s t)) :
    Does Try.prog 181 [.pointer (some ⟨b, 0, none⟩), .int .i64 n] I (LoadE b m w xs) (fun v _ δ' => v = .int .i64 (sideG s t n) ∧ δ' = LoadE b m w xs) := by
  refine Does.intro Try.func181 rfl Try.ntmps181 rfl fun w0 => ?_
  refine code_seq ?_
  refine code_region ?_
  refine op_v (v_assign rfl) rfl ?_
  refine ops_nil ?_
  refine post_next ?_
  refine code_seq ?_
  refine code_region ?_
  refine op_v (v_move rfl) rfl ?_
  refine op_call pl184 rfl rfl ((signs_does hV)) Parts.all ?_
  rintro v9 I9 _ hI9 ⟨⟨mo, le, rfl, hmo, hle⟩, rfl⟩
  rw [List.append_nil]
  rw [DM_pos] at hmo
  rw [DM_neg] at hle
  refine op_v (v_move rfl) rfl ?_
  refine op_v (v_extract rfl rfl) rfl ?_
  refine op_v (v_extract rfl rfl) rfl ?_
  refine op_v (v_assign rfl) rfl ?_
  refine op_v (v_assign rfl) rfl ?_
  refine ops_nil ?_
  refine post_next ?_
  refine code_seq ?_
  refine code_block ?_
  refine code_seq ?_
  refine code_region ?_
  refine op_v (v_move rfl) rfl ?_
  by_cases h14 : 0 < n
  · first | refine op_v (v_cmptA rfl rfl rfl) rfl ?_ | refine op_v (v_cmpfA rfl rfl rfl) rfl ?_ | refine op_v (v_cmp rfl rfl rfl) rfl ?_
    refine op_v (v_move rfl) rfl ?_
    first
      | (refine op_want rfl rfl ?_
         refine op_v (v_move rfl) rfl ?_)
      | (refine op_skip rfl rfl (by simp [undef]) rfl ?_)
    by_cases h17 : le = true
    · subst h17
      first
        | (refine op_want rfl rfl ?_
           refine op_v (v_not rfl) rfl ?_)
        | (refine op_skip rfl rfl (by simp [undef]) rfl ?_)
      first | refine op_v (v_pickt rfl rfl) rfl ?_ | refine op_v (v_pickf rfl rfl) rfl ?_ | refine op_v (v_pickb rfl rfl rfl) rfl ?_
      refine op_v (v_assign rfl) rfl ?_
      refine ops_nil ?_
      refine post_next ?_
      refine code_cond_f rfl ?_
      refine code_seq ?_
      refine code_region ?_
      refine op_v (v_move rfl) rfl ?_
      first | refine op_v (v_cmptA rfl rfl rfl) rfl ?_ | refine op_v (v_cmpfA rfl rfl rfl) rfl ?_ | refine op_v (v_cmp rfl rfl rfl) rfl ?_
      refine op_v (v_move rfl) rfl ?_
      first
        | (refine op_want rfl rfl ?_
           refine op_v (v_move rfl) rfl ?_)
        | (refine op_skip rfl rfl (by simp [undef]) rfl ?_)
      first
        | (refine op_want rfl rfl ?_
           refine op_v (v_not rfl) rfl ?_)
        | (refine op_skip rfl rfl (by simp [undef]) rfl ?_)
      first | refine op_v (v_pickt rfl rfl) rfl ?_ | refine op_v (v_pickf rfl rfl) rfl ?_ | refine op_v (v_pickb rfl rfl rfl) rfl ?_
      refine op_v (v_assign rfl) rfl ?_
      refine ops_nil ?_
      refine post_next ?_
      refine code_cond_f rfl ?_
      refine code_skip ?_
      refine post_out ?_
      refine post_next ?_
      refine code_seq ?_
      refine code_region ?_
      refine op_v (v_assign rfl) rfl ?_
      refine ops_nil ?_
      refine post_next ?_
      refine code_ret ?_
      refine post_ret (rs := [.tmp 4]) rfl (List.Perm.refl _) (.cons (.tmp rfl) .nil) (List.Sublist.refl _) ?_
      have hv : vleB s t = false := hle.1 rfl
      exact ⟨by simp [outV, sideG, hv]; omega, rfl⟩
    · have h17' : le = false := by simpa using h17
      subst h17'
      first
        | (refine op_want rfl rfl ?_
           refine op_v (v_not rfl) rfl ?_)
        | (refine op_skip rfl rfl (by simp [undef]) rfl ?_)
      first | refine op_v (v_pickt rfl rfl) rfl ?_ | refine op_v (v_pickf rfl rfl) rfl ?_ | refine op_v (v_pickb rfl rfl rfl) rfl ?_
      refine op_v (v_assign rfl) rfl ?_
      refine ops_nil ?_
      refine post_next ?_
      refine code_cond_t rfl ?_
      refine code_seq ?_
      refine code_region ?_
      refine op_v (v_assign rfl) rfl ?_
      refine ops_nil ?_
      refine post_next ?_
      refine code_ret ?_
      refine post_ret_block ?_
      refine post_ret_then ?_
      refine post_ret (rs := [.tmp 4]) rfl (List.Perm.refl _) (.cons (.tmp rfl) .nil) (List.Sublist.refl _) ?_
      have hv : vleB s t = true := by { cases h : vleB s t; exact absurd (hle.2 h) (by simp); rfl }
      exact ⟨by simp [outV, sideG, h14, hv], rfl⟩
  · first | refine op_v (v_cmptA rfl rfl rfl) rfl ?_ | refine op_v (v_cmpfA rfl rfl rfl) rfl ?_ | refine op_v (v_cmp rfl rfl rfl) rfl ?_
    refine op_v (v_move rfl) rfl ?_
    first
      | (refine op_want rfl rfl ?_
         refine op_v (v_move rfl) rfl ?_)
      | (refine op_skip rfl rfl (by simp [undef]) rfl ?_)
    first
      | (refine op_want rfl rfl ?_
         refine op_v (v_not rfl) rfl ?_)
      | (refine op_skip rfl rfl (by simp [undef]) rfl ?_)
    first | refine op_v (v_pickt rfl rfl) rfl ?_ | refine op_v (v_pickf rfl rfl) rfl ?_ | refine op_v (v_pickb rfl rfl rfl) rfl ?_
    refine op_v (v_assign rfl) rfl ?_
    refine ops_nil ?_
    refine post_next ?_
    refine code_cond_f rfl ?_
    refine code_seq ?_
    refine code_region ?_
    refine op_v (v_move rfl) rfl ?_
    by_cases h21 : n < 0
    · first | refine op_v (v_cmptA rfl rfl rfl) rfl ?_ | refine op_v (v_cmpfA rfl rfl rfl) rfl ?_ | refine op_v (v_cmp rfl rfl rfl) rfl ?_
      refine op_v (v_move rfl) rfl ?_
      first
        | (refine op_want rfl rfl ?_
           refine op_v (v_move rfl) rfl ?_)
        | (refine op_skip rfl rfl (by simp [undef]) rfl ?_)
      by_cases h24 : mo = true
      · subst h24
        first
          | (refine op_want rfl rfl ?_
             refine op_v (v_not rfl) rfl ?_)
          | (refine op_skip rfl rfl (by simp [undef]) rfl ?_)
        first | refine op_v (v_pickt rfl rfl) rfl ?_ | refine op_v (v_pickf rfl rfl) rfl ?_ | refine op_v (v_pickb rfl rfl rfl) rfl ?_
        refine op_v (v_assign rfl) rfl ?_
        refine ops_nil ?_
        refine post_next ?_
        refine code_cond_f rfl ?_
        refine code_skip ?_
        refine post_out ?_
        refine post_next ?_
        refine code_seq ?_
        refine code_region ?_
        refine op_v (v_assign rfl) rfl ?_
        refine ops_nil ?_
        refine post_next ?_
        refine code_ret ?_
        refine post_ret (rs := [.tmp 4]) rfl (List.Perm.refl _) (.cons (.tmp rfl) .nil) (List.Sublist.refl _) ?_
        have hv : vleB t s = false := hmo.1 rfl
        exact ⟨by simp [outV, sideG, hv, h14], rfl⟩
      · have h24' : mo = false := by simpa using h24
        subst h24'
        first
          | (refine op_want rfl rfl ?_
             refine op_v (v_not rfl) rfl ?_)
          | (refine op_skip rfl rfl (by simp [undef]) rfl ?_)
        first | refine op_v (v_pickt rfl rfl) rfl ?_ | refine op_v (v_pickf rfl rfl) rfl ?_ | refine op_v (v_pickb rfl rfl rfl) rfl ?_
        refine op_v (v_assign rfl) rfl ?_
        refine ops_nil ?_
        refine post_next ?_
        refine code_cond_t rfl ?_
        refine code_seq ?_
        refine code_region ?_
        refine op_v (v_assign rfl) rfl ?_
        refine ops_nil ?_
        refine post_next ?_
        refine code_ret ?_
        refine post_ret_block ?_
        refine post_ret_then ?_
        refine post_ret (rs := [.tmp 4]) rfl (List.Perm.refl _) (.cons (.tmp rfl) .nil) (List.Sublist.refl _) ?_
        have hv : vleB t s = true := by { cases h : vleB t s; exact absurd (hmo.2 h) (by simp); rfl }
        exact ⟨by simp [outV, sideG, hv, h14, h21], rfl⟩
    · first | refine op_v (v_cmptA rfl rfl rfl) rfl ?_ | refine op_v (v_cmpfA rfl rfl rfl) rfl ?_ | refine op_v (v_cmp rfl rfl rfl) rfl ?_
      refine op_v (v_move rfl) rfl ?_
      first
        | (refine op_want rfl rfl ?_
           refine op_v (v_move rfl) rfl ?_)
        | (refine op_skip rfl rfl (by simp [undef]) rfl ?_)
      first
        | (refine op_want rfl rfl ?_
           refine op_v (v_not rfl) rfl ?_)
        | (refine op_skip rfl rfl (by simp [undef]) rfl ?_)
      first | refine op_v (v_pickt rfl rfl) rfl ?_ | refine op_v (v_pickf rfl rfl) rfl ?_ | refine op_v (v_pickb rfl rfl rfl) rfl ?_
      refine op_v (v_assign rfl) rfl ?_
      refine ops_nil ?_
      refine post_next ?_
      refine code_cond_f rfl ?_
      refine code_skip ?_
      refine post_out ?_
      refine post_next ?_
      refine code_seq ?_
      refine code_region ?_
      refine op_v (v_assign rfl) rfl ?_
      refine ops_nil ?_
      refine post_next ?_
      refine code_ret ?_
      refine post_ret (rs := [.tmp 4]) rfl (List.Perm.refl _) (.cons (.tmp rfl) .nil) (List.Sublist.refl _) ?_
      exact ⟨by simp [outV, sideG, h14, h21], rfl⟩
theorem wrong_does {I : Imm} {vg v : Value} {gs : List Sy} {ts : List T} (hg : RepG I vg gs) (hv : RepS I v ts) (hbig : ∀ t ∈ ts, t.size ≤ 1000000000) :
    Does Try.prog 136 [vg, v] I [] (fun v _ δ' => v = .int .i64 (wrongG gs ts) ∧ δ' = []) := by
  obtain ⟨ad, c, ss, ts, hc, hb, hat, hr, hsub0⟩ := hv
  have hsub : ∀ i (h : i < ts.length), RepT I (.agg #[.int .i64 ts[i].head, .slice (ss i).1 ts[i].args.length (ss i).2]) ts[i] := fun i hi => RepT.mk _ _ (hr i hi) (hsub0 i hi)
  refine Does.intro Try.func136 rfl Try.ntmps136 rfl fun w0 => ?_
  refine code_seq ?_
  refine code_region ?_
  refine op_v (v_assign rfl) rfl ?_
  refine ops_nil ?_
  refine post_next ?_
  refine code_seq ?_
  refine code_seq ?_
  refine code_region ?_
  refine op_v (v_move rfl) rfl ?_
  refine op_v (v_len Try.underlying45 rfl) rfl ?_
  refine op_v (v_move rfl) rfl ?_
  refine ops_nil ?_
  refine post_next ?_
  refine code_block ?_
  refine code_loop (fun m σ' I' δ' => ∃ k : Nat, m = ts.length - k ∧ k ≤ ts.length ∧ σ' = [(0, vg), (8, .slice ad ts.length c), (9, .int .i64 ts.length), (10, .int .i64 k)] ∧ I.le I' ∧ δ' = [] ∧ ∀ t ∈ ts.take k, termG gs t = 0) ts.length [(0, vg), (8, .slice ad ts.length c), (9, .int .i64 ts.length), (10, .int .i64 (0 : Nat))] ⟨0, rfl, Nat.zero_le _, rfl, Imm.le_refl _, rfl, by simp⟩ ⟨rfl, rfl, rfl, rfl, trivial⟩ ?_
  rintro m _ I0 _ ⟨k, rfl, hk, rfl, hI0, rfl, hp⟩
  refine code_seq ?_
  refine code_region ?_
  first | refine op_v (v_cmptA rfl rfl rfl) rfl ?_ | refine op_v (v_cmpfA rfl rfl rfl) rfl ?_ | refine op_v (v_cmp rfl rfl rfl) rfl ?_
  refine ops_nil ?_
  refine post_next ?_
  refine code_seq ?_
  refine code_cond rfl (fun hc0 => ?_) (fun hc0 => ?_)
  · have hlt : k < ts.length := by simpa using hc0
    have hs1 := (hat k hlt).isSome
    refine code_skip ?_
    refine post_next ?_
    refine code_seq ?_
    refine code_block ?_
    refine code_seq ?_
    refine code_region ?_
    first | refine op_v (v_indexA Try.underlying45 sz47 rfl rfl) rfl ?_ | refine op_v (v_indexIA Try.underlying45 sz47 rfl rfl) rfl ?_
    first | refine op_v (v_loadI0 ty47 ((hat k hlt).mono hI0) rfl rfl rfl) rfl ?_ | refine op_v (v_loadI ty47 ((hat k hlt).mono hI0) rfl rfl rfl) rfl ?_
    refine o_alloc z47 rfl rfl (fun b6 => ?_)
    refine o_store ty47 rfl rfl rfl rfl rfl (by repeat (first | exact Swap.here | apply Swap.there)) rfl ?_
    refine ops_nil ?_
    refine post_next ?_
    refine code_seq ?_
    refine code_region ?_
    refine op_v (v_move rfl) rfl ?_
    refine op_v (v_loadA ty47 rfl rfl) rfl ?_
    refine op_call pl163 rfl rfl ((GTerm_does (hg.mono hI0) ((hsub k hlt).mono hI0) (hbig _ (List.getElem_mem _)))) Parts.none ?_
    rintro v16 I16 _ hI16 ⟨rfl, rfl⟩
    refine op_v (v_assign rfl) rfl ?_
    refine ops_nil ?_
    refine post_next ?_
    refine code_seq ?_
    refine code_region ?_
    refine op_v (v_move rfl) rfl ?_
    by_cases h18 : termG gs ts[k] ≠ 0
    · first | refine op_v (v_cmptA rfl rfl rfl) rfl ?_ | refine op_v (v_cmpfA rfl rfl rfl) rfl ?_ | refine op_v (v_cmp rfl rfl rfl) rfl ?_
      refine ops_nil ?_
      refine post_next ?_
      refine code_cond_t rfl ?_
      refine code_seq ?_
      refine code_region ?_
      refine op_v (v_move rfl) rfl ?_
      refine op_v (v_assign rfl) rfl ?_
      refine ops_nil ?_
      refine post_next ?_
      refine code_ret ?_
      refine post_ret_block ?_
      refine post_ret_then ?_
      refine post_ret_then ?_
      refine post_ret_block ?_
      refine post_ret_then ?_
      refine post_ret (rs := [.tmp 4]) rfl (List.Perm.refl _) (.cons (.tmp rfl) .nil) (List.nil_sublist _) ?_
      exact ⟨by rw [wrongG_take hlt hp h18]; rfl, rfl⟩
    · first | refine op_v (v_cmptA rfl rfl rfl) rfl ?_ | refine op_v (v_cmpfA rfl rfl rfl) rfl ?_ | refine op_v (v_cmp rfl rfl rfl) rfl ?_
      refine ops_nil ?_
      refine post_next ?_
      refine code_cond_f rfl ?_
      refine code_skip ?_
      refine post_out ?_
      refine post_next ?_
      refine code_region ?_
      first | refine op_v (v_addb rfl rfl rfl (by omega)) rfl ?_ | refine op_v (v_add rfl rfl) rfl ?_
      refine op_v (v_move rfl) rfl ?_
      refine ops_nil ?_
      refine PostJ.view View.nil ?_
      refine post_again (ts.length - (k + 1)) [(0, vg), (8, .slice ad ts.length c), (9, .int .i64 ts.length), (10, .int .i64 (k + 1 : Nat))] (by omega) ⟨k + 1, rfl, hlt, rfl, Imm.leA, rfl, fun t ht => ?_⟩ ⟨rfl, rfl, rfl, rfl, trivial⟩
      rw [List.take_succ_eq_append_getElem hlt, List.mem_append, List.mem_singleton] at ht
      rcases ht with ht | rfl
      · exact hp t ht
      · omega
  · have hge : k = ts.length := by simp at hc0; omega
    rw [hge, List.take_length] at hp
    refine code_exit ?_
    refine post_exit_then ?_
    refine post_exit_then ?_
    refine post_exit ?_
    refine post_next ?_
    refine code_seq ?_
    refine code_region ?_
    refine op_v (v_assign rfl) rfl ?_
    refine ops_nil ?_
    refine post_next ?_
    refine code_ret ?_
    refine post_ret (rs := [.tmp 4]) rfl (List.Perm.refl _) (.cons (.tmp rfl) .nil) (List.nil_sublist _) ?_
    exact ⟨by rw [wrongG_all hp]; rfl, rfl⟩
end Go.Proofs.Ytdbadicpbmndbaa
/- Walks: how two terms stand to one another. -/
set_option linter.unusedVariables false
set_option linter.unusedSimpArgs false
/- short -/
namespace Go.Proofs.Ytdbadicpbmndbaa
open Go Lg

theorem stL_drop (gs : List Sy) : ∀ (l m : List T) (k : Nat) (h : k < l.length) (h' : k < m.length), stL gs (l.drop k) (m.drop k) = if stT gs l[k] m[k] ≠ 0 then stT gs l[k] m[k] else stL gs (l.drop (k + 1)) (m.drop (k + 1)) := by
  intro l m k h h'
  rw [List.drop_eq_getElem_cons h, List.drop_eq_getElem_cons h', stL]
theorem stand_does {gs : List Sy} : ∀ (n : Nat) (a b : T), a.size ≤ n → ∀ (I : Imm) (vg va vb : Value), RepG I vg gs → RepT I va a → RepT I vb b → OkG gs a → OkG gs b →
    Does Try.prog 171 [vg, va, vb] I [] (fun v _ δ' => v = .int .i64 (stT gs a b) ∧ δ' = []) := by
  intro n
  induction n with
  | zero => intro a b h; have := a.size_pos; omega
  | succ n ih =>
    intro a b hn I vg va vb hg hva hvb hA hB
    obtain ⟨ad, c, rfl⟩ := hg.shape
    obtain ⟨a0, c0, rfl, ha0⟩ := hva.shape
    obtain ⟨b0, e0, rfl, hb0⟩ := hvb.shape
    obtain ⟨_, _, _, hca, hba, ssa, hata, hsuba⟩ := hva.open
    obtain ⟨_, _, _, hcb, hbb, ssb, hatb, hsubb⟩ := hvb.open
    have hsa := chkT_size hA.chk
    have hsb := chkT_size hB.chk
    have hwa := wgtG_range hA
    have hwb := wgtG_range hB
    have hsz := size_eqT a
    have hha := hA.heads (true, a) (by rw [visT_eq]; exact List.mem_cons_self ..)
    have hhb := hB.heads (true, b) (by rw [visT_eq]; exact List.mem_cons_self ..)
    simp only at hha hhb
    have hgl := (rightG_len hA.right).2
    have hva2 := (chk_vis hA.chk (true, a) (by rw [visT_eq]; exact List.mem_cons_self ..)).2
    have hvb2 := (chk_vis hB.chk (true, b) (by rw [visT_eq]; exact List.mem_cons_self ..)).2
    simp only at hva2 hvb2
    have hcr : ∀ k, 0 ≤ cv a k ∧ cv a k ≤ 400 := fun k => by have h1 := cvV_range (visT true a) k; rw [cvV_T, visT_length] at h1; omega
    refine Does.intro Try.func171 rfl Try.ntmps171 rfl fun w0 => ?_
    refine code_seq ?_
    refine code_region ?_
    refine o_box rfl rfl rfl (fun b4 => ?_)
    refine o_box rfl rfl rfl (fun b5 => ?_)
    refine op_v (v_assign rfl) rfl ?_
    refine ops_nil ?_
    refine post_next ?_
    refine code_seq ?_
    refine code_seq ?_
    refine code_region ?_
    refine op_v (v_loadA ty47 rfl rfl) rfl ?_
    refine op_v (v_loadA ty47 rfl rfl) rfl ?_
    refine op_call pl77 rfl rfl ((TSame_does hva hvb (by omega) (by omega))) Parts.none ?_
    rintro v12 I12 _ hI12 ⟨rfl, rfl⟩
    refine ops_nil ?_
    refine post_next ?_
    refine code_cond rfl (fun hc0 => ?_) (fun hc0 => ?_)
    · have hab : a = b := by simpa using hc0
      refine code_seq ?_
      refine code_region ?_
      refine op_v (v_assign rfl) rfl ?_
      refine ops_nil ?_
      refine post_next ?_
      refine code_ret ?_
      refine post_ret_then ?_
      refine post_ret (rs := [.tmp 6]) rfl (List.Perm.refl _) (.cons (.tmp rfl) .nil) (List.nil_sublist _) ?_
      exact ⟨by rw [stT_eq, if_pos hab]; rfl, rfl⟩
    · have hab : ¬ a = b := by simpa using hc0
      refine code_skip ?_
      refine post_next ?_
      refine code_seq ?_
      refine code_region ?_
      refine o_makeMap rfl (fun b13 => ?_)
      refine op_v (v_build bl197 rfl rfl) rfl ?_
      refine o_box rfl rfl rfl (fun b15 => ?_)
      refine op_v (v_assign rfl) rfl ?_
      refine ops_nil ?_
      refine post_next ?_
      refine code_seq ?_
      refine code_region ?_
      refine op_v (v_move rfl) rfl ?_
      refine op_v (v_move rfl) rfl ?_
      refine op_v (v_loadA ty47 rfl rfl) rfl ?_
      refine op_call pl180 rfl rfl ((add_does (.inl rfl) a.size a (Nat.le_refl _) _ _ 0 [] (fun _ => 0) (hg.mono Imm.leA) (hva.mono Imm.leA) hA VM.nil ⟨by omega, by omega⟩ (fun k => ⟨by omega, by omega⟩))) (List.Perm.refl _) ?_
      rintro v19 I19 _ hI19 ⟨xs1, rfl, hV1⟩
      refine ops_nil ?_
      refine post_next ?_
      refine code_seq ?_
      refine code_region ?_
      refine op_v (v_move rfl) rfl ?_
      refine op_v (v_move rfl) rfl ?_
      refine op_v (v_loadA ty47 rfl rfl) rfl ?_
      refine op_call pl180 rfl rfl ((add_does (.inr rfl) b.size b (Nat.le_refl _) _ _ _ xs1 _ (hg.mono Imm.leA) (hvb.mono Imm.leA) hB hV1 ⟨by omega, by omega⟩ (fun k => by have := hcr k; constructor <;> omega))) (List.Perm.refl _) ?_
      rintro v23 I23 _ hI23 ⟨xs2, rfl, hV2⟩
      have hV : VM xs2 (DM a b) := hV2.congr (fun k => by unfold DM cv; split <;> omega)
      have hW : (0 : Int) + 1 * wgtG gs a + -1 * wgtG gs b = wgtG gs a - wgtG gs b := by omega
      rw [hW]
      refine ops_nil ?_
      refine post_next ?_
      refine code_seq ?_
      refine code_block ?_
      refine code_seq ?_
      refine code_region ?_
      refine op_v (v_move rfl) rfl ?_
      refine op_v (v_nilCheck rfl) rfl ?_
      first | refine op_v (v_fieldB 0 Try.underlying197 rfl rfl fz3 rfl) rfl ?_ | refine op_v (v_fieldI 0 Try.underlying197 rfl rfl fz3 rfl (by assumption)) rfl ?_ | refine op_v (v_field Try.underlying197 rfl fz3 rfl rfl) rfl ?_
      refine op_v (v_loadA ty3 rfl rfl) rfl ?_
      by_cases h56 : wgtG gs a - wgtG gs b ≠ 0
      · first | refine op_v (v_cmptA rfl rfl rfl) rfl ?_ | refine op_v (v_cmpfA rfl rfl rfl) rfl ?_ | refine op_v (v_cmp rfl rfl rfl) rfl ?_
        refine op_v (v_assign rfl) rfl ?_
        refine ops_nil ?_
        refine post_next ?_
        refine code_cond_t rfl ?_
        refine code_seq ?_
        refine code_region ?_
        refine op_v (v_move rfl) rfl ?_
        refine op_v (v_move rfl) rfl ?_
        refine op_v (v_nilCheck rfl) rfl ?_
        first | refine op_v (v_fieldB 0 Try.underlying197 rfl rfl fz3 rfl) rfl ?_ | refine op_v (v_fieldI 0 Try.underlying197 rfl rfl fz3 rfl (by assumption)) rfl ?_ | refine op_v (v_field Try.underlying197 rfl fz3 rfl rfl) rfl ?_
        refine op_v (v_loadA ty3 rfl rfl) rfl ?_
        refine op_call pl181 rfl rfl ((side_does hV)) (List.Perm.refl _) ?_
        rintro v62 I62 _ hI62 ⟨rfl, rfl⟩
        refine op_v (v_assign rfl) rfl ?_
        refine ops_nil ?_
        refine post_next ?_
        refine code_ret ?_
        refine post_ret_block ?_
        refine post_ret_then ?_
        refine post_ret (rs := [.tmp 6]) rfl (List.Perm.refl _) (.cons (.tmp rfl) .nil) (List.nil_sublist _) ?_
        exact ⟨by rw [stT_eq gs a b, if_neg hab, if_pos (show wgtG gs a ≠ wgtG gs b by omega)]; rfl, rfl⟩
      · first | refine op_v (v_cmptA rfl rfl rfl) rfl ?_ | refine op_v (v_cmpfA rfl rfl rfl) rfl ?_ | refine op_v (v_cmp rfl rfl rfl) rfl ?_
        refine op_v (v_assign rfl) rfl ?_
        refine ops_nil ?_
        refine post_next ?_
        refine code_cond_f rfl ?_
        refine code_seq ?_
        refine code_region ?_
        first | refine op_v (v_fieldB 0 Try.underlying47 rfl rfl fz3 rfl) rfl ?_ | refine op_v (v_fieldI 0 Try.underlying47 rfl rfl fz3 rfl (by assumption)) rfl ?_ | refine op_v (v_field Try.underlying47 rfl fz3 rfl rfl) rfl ?_
        refine op_v (v_loadA ty3 rfl rfl) rfl ?_
        by_cases h66 : a.head < 0
        · first | refine op_v (v_cmptA rfl rfl rfl) rfl ?_ | refine op_v (v_cmpfA rfl rfl rfl) rfl ?_ | refine op_v (v_cmp rfl rfl rfl) rfl ?_
          refine op_v (v_move rfl) rfl ?_
          first
            | (refine op_want rfl rfl ?_
               first | refine op_v (v_fieldB 0 Try.underlying47 rfl rfl fz3 rfl) rfl ?_ | refine op_v (v_fieldI 0 Try.underlying47 rfl rfl fz3 rfl (by assumption)) rfl ?_ | refine op_v (v_field Try.underlying47 rfl fz3 rfl rfl) rfl ?_)
            | (refine op_skip rfl rfl (by simp [undef]) rfl ?_)
          first
            | (refine op_want rfl rfl ?_
               refine op_v (v_loadA ty3 rfl rfl) rfl ?_)
            | (refine op_skip rfl rfl (by simp [undef]) rfl ?_)
          first
            | (refine op_want rfl rfl ?_
               first | refine op_v (v_cmptA rfl rfl rfl) rfl ?_ | refine op_v (v_cmpfA rfl rfl rfl) rfl ?_ | refine op_v (v_cmp rfl rfl rfl) rfl ?_)
            | (refine op_skip rfl rfl (by simp [undef]) rfl ?_)
          first | refine op_v (v_pickt rfl rfl) rfl ?_ | refine op_v (v_pickf rfl rfl) rfl ?_ | refine op_v (v_pickb rfl rfl rfl) rfl ?_
          refine op_v (v_assign rfl) rfl ?_
          refine ops_nil ?_
          refine post_next ?_
          refine code_cond_t rfl ?_
          refine code_seq ?_
          refine code_region ?_
          refine op_v (v_assign rfl) rfl ?_
          refine ops_nil ?_
          refine post_next ?_
          refine code_ret ?_
          refine post_ret_block ?_
          refine post_ret_then ?_
          refine post_ret (rs := [.tmp 6]) rfl (List.Perm.refl _) (.cons (.tmp rfl) .nil) (List.nil_sublist _) ?_
          exact ⟨by rw [stT_eq gs a b, if_neg hab, if_neg (show ¬ (wgtG gs a ≠ wgtG gs b) by omega), if_pos (show a.head < 0 ∨ b.head < 0 by omega)]; rfl, rfl⟩
        · first | refine op_v (v_cmptA rfl rfl rfl) rfl ?_ | refine op_v (v_cmpfA rfl rfl rfl) rfl ?_ | refine op_v (v_cmp rfl rfl rfl) rfl ?_
          refine op_v (v_move rfl) rfl ?_
          first
            | (refine op_want rfl rfl ?_
               first | refine op_v (v_fieldB 0 Try.underlying47 rfl rfl fz3 rfl) rfl ?_ | refine op_v (v_fieldI 0 Try.underlying47 rfl rfl fz3 rfl (by assumption)) rfl ?_ | refine op_v (v_field Try.underlying47 rfl fz3 rfl rfl) rfl ?_)
            | (refine op_skip rfl rfl (by simp [undef]) rfl ?_)
          first
            | (refine op_want rfl rfl ?_
               refine op_v (v_loadA ty3 rfl rfl) rfl ?_)
            | (refine op_skip rfl rfl (by simp [undef]) rfl ?_)
          by_cases h70 : b.head < 0
          · first
              | (refine op_want rfl rfl ?_
                 first | refine op_v (v_cmptA rfl rfl rfl) rfl ?_ | refine op_v (v_cmpfA rfl rfl rfl) rfl ?_ | refine op_v (v_cmp rfl rfl rfl) rfl ?_)
              | (refine op_skip rfl rfl (by simp [undef]) rfl ?_)
            first | refine op_v (v_pickt rfl rfl) rfl ?_ | refine op_v (v_pickf rfl rfl) rfl ?_ | refine op_v (v_pickb rfl rfl rfl) rfl ?_
            refine op_v (v_assign rfl) rfl ?_
            refine ops_nil ?_
            refine post_next ?_
            refine code_cond_t rfl ?_
            refine code_seq ?_
            refine code_region ?_
            refine op_v (v_assign rfl) rfl ?_
            refine ops_nil ?_
            refine post_next ?_
            refine code_ret ?_
            refine post_ret_block ?_
            refine post_ret_then ?_
            refine post_ret (rs := [.tmp 6]) rfl (List.Perm.refl _) (.cons (.tmp rfl) .nil) (List.nil_sublist _) ?_
            exact ⟨by rw [stT_eq gs a b, if_neg hab, if_neg (show ¬ (wgtG gs a ≠ wgtG gs b) by omega), if_pos (show a.head < 0 ∨ b.head < 0 by omega)]; rfl, rfl⟩
          · first
              | (refine op_want rfl rfl ?_
                 first | refine op_v (v_cmptA rfl rfl rfl) rfl ?_ | refine op_v (v_cmpfA rfl rfl rfl) rfl ?_ | refine op_v (v_cmp rfl rfl rfl) rfl ?_)
              | (refine op_skip rfl rfl (by simp [undef]) rfl ?_)
            first | refine op_v (v_pickt rfl rfl) rfl ?_ | refine op_v (v_pickf rfl rfl) rfl ?_ | refine op_v (v_pickb rfl rfl rfl) rfl ?_
            refine op_v (v_assign rfl) rfl ?_
            refine ops_nil ?_
            refine post_next ?_
            refine code_cond_f rfl ?_
            refine code_seq ?_
            refine code_region ?_
            first | refine op_v (v_fieldB 0 Try.underlying47 rfl rfl fz3 rfl) rfl ?_ | refine op_v (v_fieldI 0 Try.underlying47 rfl rfl fz3 rfl (by assumption)) rfl ?_ | refine op_v (v_field Try.underlying47 rfl fz3 rfl rfl) rfl ?_
            refine op_v (v_loadA ty3 rfl rfl) rfl ?_
            first | refine op_v (v_fieldB 0 Try.underlying47 rfl rfl fz3 rfl) rfl ?_ | refine op_v (v_fieldI 0 Try.underlying47 rfl rfl fz3 rfl (by assumption)) rfl ?_ | refine op_v (v_field Try.underlying47 rfl fz3 rfl rfl) rfl ?_
            refine op_v (v_loadA ty3 rfl rfl) rfl ?_
            by_cases h77 : a.head ≠ b.head
            · first | refine op_v (v_cmptA rfl rfl rfl) rfl ?_ | refine op_v (v_cmpfA rfl rfl rfl) rfl ?_ | refine op_v (v_cmp rfl rfl rfl) rfl ?_
              refine op_v (v_assign rfl) rfl ?_
              refine ops_nil ?_
              refine post_next ?_
              refine code_cond_t rfl ?_
              refine code_seq ?_
              refine code_region ?_
              refine op_v (v_move rfl) rfl ?_
              first | refine op_v (v_fieldB 0 Try.underlying47 rfl rfl fz3 rfl) rfl ?_ | refine op_v (v_fieldI 0 Try.underlying47 rfl rfl fz3 rfl (by assumption)) rfl ?_ | refine op_v (v_field Try.underlying47 rfl fz3 rfl rfl) rfl ?_
              refine op_v (v_loadA ty3 rfl rfl) rfl ?_
              first | refine op_v (v_fieldB 0 Try.underlying47 rfl rfl fz3 rfl) rfl ?_ | refine op_v (v_fieldI 0 Try.underlying47 rfl rfl fz3 rfl (by assumption)) rfl ?_ | refine op_v (v_field Try.underlying47 rfl fz3 rfl rfl) rfl ?_
              refine op_v (v_loadA ty3 rfl rfl) rfl ?_
              first | refine op_v (v_subb rfl rfl rfl (by omega)) rfl ?_ | refine op_v (v_sub rfl rfl) rfl ?_
              refine op_call pl181 rfl rfl ((side_does hV)) (List.Perm.refl _) ?_
              rintro v84 I84 _ hI84 ⟨rfl, rfl⟩
              refine op_v (v_assign rfl) rfl ?_
              refine ops_nil ?_
              refine post_next ?_
              refine code_ret ?_
              refine post_ret_block ?_
              refine post_ret_then ?_
              refine post_ret (rs := [.tmp 6]) rfl (List.Perm.refl _) (.cons (.tmp rfl) .nil) (List.nil_sublist _) ?_
              exact ⟨by rw [stT_eq gs a b, if_neg hab, if_neg (show ¬ (wgtG gs a ≠ wgtG gs b) by omega), if_neg (show ¬ (a.head < 0 ∨ b.head < 0) by omega), if_pos h77]; rfl, rfl⟩
            · have hlen : (a.args.length : Int) = b.args.length := by rw [hA.arity (by omega), hB.arity (by omega), show a.head = b.head by omega]
              first | refine op_v (v_cmptA rfl rfl rfl) rfl ?_ | refine op_v (v_cmpfA rfl rfl rfl) rfl ?_ | refine op_v (v_cmp rfl rfl rfl) rfl ?_
              refine op_v (v_assign rfl) rfl ?_
              refine ops_nil ?_
              refine post_next ?_
              refine code_cond_f rfl ?_
              refine code_seq ?_
              refine code_region ?_
              first | refine op_v (v_fieldB 1 Try.underlying47 rfl rfl fz45 rfl) rfl ?_ | refine op_v (v_fieldI 1 Try.underlying47 rfl rfl fz45 rfl (by assumption)) rfl ?_ | refine op_v (v_field Try.underlying47 rfl fz45 rfl rfl) rfl ?_
              refine op_v (v_loadA ty45 rfl rfl) rfl ?_
              refine op_v (v_len Try.underlying45 rfl) rfl ?_
              refine op_v (v_move rfl) rfl ?_
              refine ops_nil ?_
              refine post_next ?_
              refine code_block ?_
              refine code_loop (fun m σ' I' δ' => ∃ k : Nat, m = a.args.length - k ∧ k ≤ a.args.length ∧ σ' = [(0, .slice ad gs.length c), (4, .pointer (some ⟨b4, 0, none⟩)), (5, .pointer (some ⟨b5, 0, none⟩)), (7, .pointer (some ⟨b15, 0, none⟩)), (26, .int .i64 a.args.length), (27, .int .i64 k)] ∧ I.le I' ∧ δ' = LoadE b15 b13 (wgtG gs a - wgtG gs b) xs2 ++ [.box b5 47 [.int .i64 b.head, .slice b0 b.args.length e0], .box b4 47 [.int .i64 a.head, .slice a0 a.args.length c0]] ∧ stL gs a.args b.args = stL gs (a.args.drop k) (b.args.drop k)) a.args.length [(0, .slice ad gs.length c), (4, .pointer (some ⟨b4, 0, none⟩)), (5, .pointer (some ⟨b5, 0, none⟩)), (7, .pointer (some ⟨b15, 0, none⟩)), (26, .int .i64 a.args.length), (27, .int .i64 (0 : Nat))] ⟨0, rfl, Nat.zero_le _, rfl, Imm.leA, rfl, rfl⟩ ⟨rfl, rfl, rfl, rfl, rfl, rfl, trivial⟩ ?_
              rintro m _ I0 _ ⟨k, rfl, hk, rfl, hI0, rfl, hst⟩
              refine code_seq ?_
              refine code_region ?_
              first | refine op_v (v_cmptA rfl rfl rfl) rfl ?_ | refine op_v (v_cmpfA rfl rfl rfl) rfl ?_ | refine op_v (v_cmp rfl rfl rfl) rfl ?_
              refine ops_nil ?_
              refine post_next ?_
              refine code_seq ?_
              refine code_cond rfl (fun hc4 => ?_) (fun hc4 => ?_)
              · have hlt : k < a.args.length := by simpa using hc4
                have hlt2 : k < b.args.length := by omega
                have hs1 := (hata k hlt).isSome
                have hs2 := (hatb k hlt2).isSome
                have hm := sizeL_mem a.args k hlt
                rw [stL_drop gs _ _ k hlt hlt2] at hst
                refine code_skip ?_
                refine post_next ?_
                refine code_seq ?_
                refine code_block ?_
                refine code_seq ?_
                refine code_region ?_
                refine op_v (v_move rfl) rfl ?_
                refine op_v (v_assign rfl) rfl ?_
                refine ops_nil ?_
                refine post_next ?_
                refine code_seq ?_
                refine code_draw (.fl 0 (.fl 1 (.fl 2 (.fl 3 (.fl 4 (.fl 5 (.fl 6 (.fl 7 (.fl 8 (.fl 9 (.fl 10 (.ef 11 (.ef 12 .done))))))))))))) (fun _ => _) mixed (by kernel_rfl) (by kernel_rfl) (fun _ => (List.Sublist.refl _)) ?_
                refine e_fl rfl rfl (fun hs_ => PF.mk rfl (v_move rfl) hs_) ?_
                first | refine e_fl rfl rfl (fun hs_ => PF.mk rfl (v_fieldB 1 Try.underlying47 rfl rfl fz45 rfl) hs_) ?_ | refine e_fl rfl rfl (fun hs_ => PF.mk rfl (v_fieldI 1 Try.underlying47 rfl rfl fz45 rfl (by assumption)) hs_) ?_ | refine e_fl rfl rfl (fun hs_ => PF.mk rfl (v_field Try.underlying47 rfl fz45 rfl rfl) hs_) ?_
                refine e_fl rfl rfl (fun hs_ => PF.mk rfl (v_loadA ty45 rfl rfl) hs_) ?_
                refine e_fl rfl rfl (fun hs_ => PF.mk rfl (v_move rfl) hs_) ?_
                first | refine e_fl rfl rfl (fun hs_ => PF.mk rfl (v_indexA Try.underlying45 sz47 rfl rfl) hs_) ?_ | refine e_fl rfl rfl (fun hs_ => PF.mk rfl (v_indexIA Try.underlying45 sz47 rfl rfl) hs_) ?_
                first | refine e_fl rfl rfl (fun hs_ => PF.mk rfl (v_loadI0 ty47 ((hata k hlt).mono hI0) rfl rfl rfl) hs_) ?_ | refine e_fl rfl rfl (fun hs_ => PF.mk rfl (v_loadI ty47 ((hata k hlt).mono hI0) rfl rfl rfl) hs_) ?_
                first | refine e_fl rfl rfl (fun hs_ => PF.mk rfl (v_fieldB 1 Try.underlying47 rfl rfl fz45 rfl) hs_) ?_ | refine e_fl rfl rfl (fun hs_ => PF.mk rfl (v_fieldI 1 Try.underlying47 rfl rfl fz45 rfl (by assumption)) hs_) ?_ | refine e_fl rfl rfl (fun hs_ => PF.mk rfl (v_field Try.underlying47 rfl fz45 rfl rfl) hs_) ?_
                refine e_fl rfl rfl (fun hs_ => PF.mk rfl (v_loadA ty45 rfl rfl) hs_) ?_
                refine e_fl rfl rfl (fun hs_ => PF.mk rfl (v_move rfl) hs_) ?_
                first | refine e_fl rfl rfl (fun hs_ => PF.mk rfl (v_indexA Try.underlying45 sz47 rfl rfl) hs_) ?_ | refine e_fl rfl rfl (fun hs_ => PF.mk rfl (v_indexIA Try.underlying45 sz47 rfl rfl) hs_) ?_
                first | refine e_fl rfl rfl (fun hs_ => PF.mk rfl (v_loadI0 ty47 ((hatb k hlt2).mono hI0) rfl rfl rfl) hs_) ?_ | refine e_fl rfl rfl (fun hs_ => PF.mk rfl (v_loadI ty47 ((hatb k hlt2).mono hI0) rfl rfl rfl) hs_) ?_
                refine e_eff rfl (by intro cs b hc; cases hc) (by intro c hc; cases hc) ?_
                refine op_call pl171 rfl rfl ((ih a.args[k] b.args[k] (by omega) _ _ _ _ (hg.mono Imm.leA) ((hsuba k hlt).mono Imm.leA) ((hsubb k hlt2).mono Imm.leA) (hA.child k hlt).1 (hB.child k hlt2).1)) Parts.none ?_
                rintro v41 I41 _ hI41 ⟨rfl, rfl⟩
                refine ops_nil ?_
                refine e_next rfl side_allA ?_
                refine e_eff rfl (by intro cs b hc; cases hc) (by intro c hc; cases hc) ?_
                refine op_v (v_assign rfl) rfl ?_
                refine ops_nil ?_
                refine e_next rfl (side_nil (by kernel_rfl)) ?_
                refine e_done ?_
                refine post_next ?_
                refine code_seq ?_
                refine code_region ?_
                refine op_v (v_move rfl) rfl ?_
                by_cases h43 : stT gs a.args[k] b.args[k] ≠ 0
                · first | refine op_v (v_cmptA rfl rfl rfl) rfl ?_ | refine op_v (v_cmpfA rfl rfl rfl) rfl ?_ | refine op_v (v_cmp rfl rfl rfl) rfl ?_
                  refine ops_nil ?_
                  refine post_next ?_
                  refine code_cond_t rfl ?_
                  refine code_seq ?_
                  refine code_seq ?_
                  refine code_region ?_
                  refine op_v (v_move rfl) rfl ?_
                  by_cases h45 : stT gs a.args[k] b.args[k] = 2
                  · first | refine op_v (v_cmptA rfl rfl rfl) rfl ?_ | refine op_v (v_cmpfA rfl rfl rfl) rfl ?_ | refine op_v (v_cmp rfl rfl rfl) rfl ?_
                    refine ops_nil ?_
                    refine post_next ?_
                    refine code_cond_t rfl ?_
                    refine code_seq ?_
                    refine code_region ?_
                    refine op_v (v_move rfl) rfl ?_
                    refine op_v (v_assign rfl) rfl ?_
                    refine ops_nil ?_
                    refine post_next ?_
                    refine code_ret ?_
                    refine post_ret_then ?_
                    refine post_ret_block ?_
                    refine post_ret_then ?_
                    refine post_ret_then ?_
                    refine post_ret_block ?_
                    refine post_ret_block ?_
                    refine post_ret_then ?_
                    refine post_ret (rs := [.tmp 6]) rfl (List.Perm.refl _) (.cons (.tmp rfl) .nil) (List.nil_sublist _) ?_
                    rw [if_pos h43] at hst
                    exact ⟨by rw [stT_eq gs a b, if_neg hab, if_neg (show ¬ (wgtG gs a ≠ wgtG gs b) by omega), if_neg (show ¬ (a.head < 0 ∨ b.head < 0) by omega), if_neg h77, hst, if_neg h43, if_pos h45, h45]; rfl, rfl⟩
                  · first | refine op_v (v_cmptA rfl rfl rfl) rfl ?_ | refine op_v (v_cmpfA rfl rfl rfl) rfl ?_ | refine op_v (v_cmp rfl rfl rfl) rfl ?_
                    refine ops_nil ?_
                    refine post_next ?_
                    refine code_cond_f rfl ?_
                    refine code_skip ?_
                    refine post_next ?_
                    refine code_seq ?_
                    refine code_region ?_
                    refine op_v (v_move rfl) rfl ?_
                    refine op_v (v_move rfl) rfl ?_
                    refine op_call pl181 rfl rfl ((side_does hV)) (List.Perm.refl _) ?_
                    rintro v49 I49 _ hI49 ⟨rfl, rfl⟩
                    refine op_v (v_assign rfl) rfl ?_
                    refine ops_nil ?_
                    refine post_next ?_
                    refine code_ret ?_
                    refine post_ret_block ?_
                    refine post_ret_then ?_
                    refine post_ret_then ?_
                    refine post_ret_block ?_
                    refine post_ret_block ?_
                    refine post_ret_then ?_
                    refine post_ret (rs := [.tmp 6]) rfl (List.Perm.refl _) (.cons (.tmp rfl) .nil) (List.nil_sublist _) ?_
                    rw [if_pos h43] at hst
                    exact ⟨by rw [stT_eq gs a b, if_neg hab, if_neg (show ¬ (wgtG gs a ≠ wgtG gs b) by omega), if_neg (show ¬ (a.head < 0 ∨ b.head < 0) by omega), if_neg h77, hst, if_neg h43, if_neg h45]; rfl, rfl⟩
                · first | refine op_v (v_cmptA rfl rfl rfl) rfl ?_ | refine op_v (v_cmpfA rfl rfl rfl) rfl ?_ | refine op_v (v_cmp rfl rfl rfl) rfl ?_
                  refine ops_nil ?_
                  refine post_next ?_
                  refine code_cond_f rfl ?_
                  refine code_skip ?_
                  refine post_out ?_
                  refine post_next ?_
                  refine code_region ?_
                  first | refine op_v (v_addb rfl rfl rfl (by omega)) rfl ?_ | refine op_v (v_add rfl rfl) rfl ?_
                  refine op_v (v_move rfl) rfl ?_
                  refine ops_nil ?_
                  refine post_again (a.args.length - (k + 1)) [(0, .slice ad gs.length c), (4, .pointer (some ⟨b4, 0, none⟩)), (5, .pointer (some ⟨b5, 0, none⟩)), (7, .pointer (some ⟨b15, 0, none⟩)), (26, .int .i64 a.args.length), (27, .int .i64 (k + 1 : Nat))] (by omega) ⟨k + 1, rfl, hlt, rfl, Imm.leA, rfl, by rw [hst, if_neg h43]⟩ ⟨rfl, rfl, rfl, rfl, rfl, rfl, trivial⟩
              · have hge : k = a.args.length := by simp at hc4; omega
                refine code_exit ?_
                refine post_exit_then ?_
                refine post_exit_then ?_
                refine post_exit ?_
                refine post_out ?_
                refine post_next ?_
                refine code_seq ?_
                refine code_region ?_
                refine op_v (v_assign rfl) rfl ?_
                refine ops_nil ?_
                refine post_next ?_
                refine code_ret ?_
                refine post_ret (rs := [.tmp 6]) rfl (List.Perm.refl _) (.cons (.tmp rfl) .nil) (List.nil_sublist _) ?_
                have hz : stL gs a.args b.args = 0 := by rw [hst, hge, List.drop_length]; cases b.args.drop a.args.length <;> rfl
                exact ⟨by rw [stT_eq gs a b, if_neg hab, if_neg (show ¬ (wgtG gs a ≠ wgtG gs b) by omega), if_neg (show ¬ (a.head < 0 ∨ b.head < 0) by omega), if_neg h77, if_pos hz]; rfl, rfl⟩
end Go.Proofs.Ytdbadicpbmndbaa
/- Walks: some term among others; rows without others. -/
set_option linter.unusedVariables false
set_option linter.unusedSimpArgs false
/- short -/
namespace Go.Proofs.Ytdbadicpbmndbaa
open Go Lg

def idxQ {α : Type} (p : α → Bool) : List α → Int
  | [] => -1
  | s :: r => if p s then 0 else if idxQ p r < 0 then -1 else idxQ p r + 1
theorem idxQ_none {α : Type} (p : α → Bool) : ∀ gs : List α, gs.any p = false → idxQ p gs = -1
  | [], _ => rfl
  | s :: r, h => by simp only [List.any_cons, Bool.or_eq_false_iff] at h; simp [idxQ, h.1, idxQ_none p r h.2]
theorem idxQ_hit {α : Type} (p : α → Bool) : ∀ (gs : List α) (k : Nat) (h : k < gs.length), (gs.take k).any p = false → p gs[k] = true → idxQ p gs = k
  | s :: r, 0, _, _, hk => by simp at hk; simp [idxQ, hk]
  | s :: r, k + 1, h, hp, hk => by
    simp only [List.take_succ_cons, List.any_cons, Bool.or_eq_false_iff] at hp
    have := idxQ_hit p r k (by simpa using h) hp.2 (by simpa using hk)
    simp only [idxQ, hp.1, Bool.false_eq_true, if_false, this]
    rw [if_neg (by omega)]; omega
theorem idxQ_any {α : Type} (p : α → Bool) : ∀ gs : List α, (0 ≤ idxQ p gs ↔ gs.any p = true) ∧ -1 ≤ idxQ p gs
  | [] => by simp [idxQ]
  | s :: r => by
    obtain ⟨h1, h2⟩ := idxQ_any p r
    simp only [idxQ, List.any_cons, Bool.or_eq_true, ← h1]
    by_cases h : p s = true
    · simp [h]
    · simp only [h, Bool.false_eq_true, if_false, false_or]; split <;> omega
theorem any_take_q {α : Type} {p : α → Bool} {gs : List α} {k : Nat} (h : k < gs.length) (hp : (gs.take k).any p = false) (hk : p gs[k] = false) : (gs.take (k + 1)).any p = false := by
  rw [List.take_succ_eq_append_getElem h, List.any_append, hp]; simp [hk]
theorem ld_pair {cs : List Value} {o : Nat} {x y : Value} (h : cs[o]? = some x) (k : cs[o + 1]? = some y) : ld true 2 (cs.drop o) = some (.agg #[x, y]) := by
  obtain ⟨hl, rfl⟩ := List.getElem?_eq_some_iff.1 h
  obtain ⟨hl2, rfl⟩ := List.getElem?_eq_some_iff.1 k
  rw [List.drop_eq_getElem_cons hl, List.drop_eq_getElem_cons hl2]; rfl
theorem RepS.shape {I : Imm} {v : Value} {ts : List T} (h : RepS I v ts) : ∃ ad c, v = .slice ad ts.length c := by
  obtain ⟨ad, c, ss, ts, _, _, _, _, _⟩ := h; exact ⟨ad, c, rfl⟩

theorem IdxT_does {I : Imm} {v fv : Value} {ts : List T} {δf : List Ent} {p : T → Bool} (hv : RepS I v ts) (hf : ∀ J u t, I.le J → RepT J u t → t ∈ ts → FDoes Try.prog fv [u] J δf (fun v _ δ' => v = .bool (p t) ∧ δ' = δf)) :
    Does Try.prog 142 [v, fv] I δf (fun v _ δ' => v = .int .i64 (idxQ p ts) ∧ δ' = δf) := by
  obtain ⟨ad, c, ss, ts, hc, hb, hat, hr, hsub0⟩ := hv
  have hsub : ∀ i (h : i < ts.length), RepT I (.agg #[.int .i64 ts[i].head, .slice (ss i).1 ts[i].args.length (ss i).2]) ts[i] := fun i hi => RepT.mk _ _ (hr i hi) (hsub0 i hi)
  refine Does.intro Try.func142 rfl Try.ntmps142 rfl fun w0 => ?_
  refine code_seq ?_
  refine code_region ?_
  refine op_v (v_assign rfl) rfl ?_
  refine ops_nil ?_
  refine post_next ?_
  refine code_seq ?_
  refine code_seq ?_
  refine code_region ?_
  refine op_v (v_move rfl) rfl ?_
  refine op_v (v_len Try.underlying45 rfl) rfl ?_
  refine op_v (v_move rfl) rfl ?_
  refine ops_nil ?_
  refine post_next ?_
  refine code_block ?_
  refine code_loop (fun m σ' I' δ' => ∃ k : Nat, m = ts.length - k ∧ k ≤ ts.length ∧ σ' = [(0, .slice ad ts.length c), (1, fv), (7, .int .i64 ts.length), (8, .int .i64 k)] ∧ I.le I' ∧ δ' = δf ∧ (ts.take k).any p = false) ts.length [(0, .slice ad ts.length c), (1, fv), (7, .int .i64 ts.length), (8, .int .i64 (0 : Nat))] ⟨0, rfl, Nat.zero_le _, rfl, Imm.le_refl _, rfl, rfl⟩ ⟨rfl, rfl, rfl, rfl, trivial⟩ ?_
  rintro m _ I0 _ ⟨k, rfl, hk, rfl, hI0, rfl, hp⟩
  refine code_seq ?_
  refine code_region ?_
  first | refine op_v (v_cmptA rfl rfl rfl) rfl ?_ | refine op_v (v_cmpfA rfl rfl rfl) rfl ?_ | refine op_v (v_cmp rfl rfl rfl) rfl ?_
  refine ops_nil ?_
  refine post_next ?_
  refine code_seq ?_
  refine code_cond rfl (fun hc0 => ?_) (fun hc0 => ?_)
  · have hlt : k < ts.length := by simpa using hc0
    have hs1 := (hat k hlt).isSome
    refine code_skip ?_
    refine post_next ?_
    refine code_seq ?_
    refine code_block ?_
    refine code_seq ?_
    refine code_region ?_
    refine op_v (v_move rfl) rfl ?_
    refine op_v (v_assign rfl) rfl ?_
    refine ops_nil ?_
    refine post_next ?_
    refine code_seq ?_
    refine code_region ?_
    refine op_v (v_move rfl) rfl ?_
    refine op_v (v_move rfl) rfl ?_
    refine op_v (v_move rfl) rfl ?_
    first | refine op_v (v_indexA Try.underlying45 sz47 rfl rfl) rfl ?_ | refine op_v (v_indexIA Try.underlying45 sz47 rfl rfl) rfl ?_
    first | refine op_v (v_loadI0 ty47 ((hat k hlt).mono hI0) rfl rfl rfl) rfl ?_ | refine op_v (v_loadI ty47 ((hat k hlt).mono hI0) rfl rfl rfl) rfl ?_
    refine op_fcall rfl rfl rfl ((hf _ _ ts[k] hI0 ((hsub k hlt).mono hI0) (List.getElem_mem _))) Parts.all ?_
    rintro v16 I16 _ hI16 ⟨rfl, rfl⟩
    rw [List.append_nil]
    refine ops_nil ?_
    refine post_next ?_
    refine code_cond rfl (fun hc1 => ?_) (fun hc1 => ?_)
    · refine code_seq ?_
      refine code_region ?_
      refine op_v (v_move rfl) rfl ?_
      refine op_v (v_assign rfl) rfl ?_
      refine ops_nil ?_
      refine post_next ?_
      refine code_ret ?_
      refine post_ret_block ?_
      refine post_ret_then ?_
      refine post_ret_then ?_
      refine post_ret_block ?_
      refine post_ret_then ?_
      refine post_ret (rs := [.tmp 4]) rfl (List.Perm.refl _) (.cons (.tmp rfl) .nil) (List.Sublist.refl _) ?_
      exact ⟨by rw [idxQ_hit p ts k hlt hp hc1]; rfl, rfl⟩
    · refine code_skip ?_
      refine post_out ?_
      refine post_next ?_
      refine code_region ?_
      first | refine op_v (v_addb rfl rfl rfl (by omega)) rfl ?_ | refine op_v (v_add rfl rfl) rfl ?_
      refine op_v (v_move rfl) rfl ?_
      refine ops_nil ?_
      refine post_again (ts.length - (k + 1)) [(0, .slice ad ts.length c), (1, fv), (7, .int .i64 ts.length), (8, .int .i64 (k + 1 : Nat))] (by omega) ⟨k + 1, rfl, hlt, rfl, Imm.le_trans hI0 hI16, rfl, any_take_q hlt hp hc1⟩ ⟨rfl, rfl, rfl, rfl, trivial⟩
  · have hge : k = ts.length := by simp at hc0; omega
    subst hge
    rw [List.take_length] at hp
    refine code_exit ?_
    refine post_exit_then ?_
    refine post_exit_then ?_
    refine post_exit ?_
    refine post_next ?_
    refine code_seq ?_
    refine code_region ?_
    refine op_v (v_assign rfl) rfl ?_
    refine ops_nil ?_
    refine post_next ?_
    refine code_ret ?_
    refine post_ret (rs := [.tmp 4]) rfl (List.Perm.refl _) (.cons (.tmp rfl) .nil) (List.Sublist.refl _) ?_
    exact ⟨by rw [idxQ_none p ts hp]; rfl, rfl⟩
theorem ContT_does {I : Imm} {v fv : Value} {ts : List T} {δf : List Ent} {p : T → Bool} (hv : RepS I v ts) (hf : ∀ J u t, I.le J → RepT J u t → t ∈ ts → FDoes Try.prog fv [u] J δf (fun v _ δ' => v = .bool (p t) ∧ δ' = δf)) :
    Does Try.prog 103 [v, fv] I δf (fun v _ δ' => v = .bool (ts.any p) ∧ δ' = δf) := by
  refine Does.intro Try.func103 rfl Try.ntmps103 rfl fun w0 => ?_
  refine code_seq ?_
  refine code_region ?_
  refine op_v (v_assign rfl) rfl ?_
  refine ops_nil ?_
  refine post_next ?_
  refine code_seq ?_
  refine code_region ?_
  refine op_v (v_move rfl) rfl ?_
  refine op_v (v_move rfl) rfl ?_
  refine op_call pl142 rfl rfl ((IdxT_does hv hf)) Parts.all ?_
  rintro v7 I7 _ hI7 ⟨rfl, rfl⟩
  rw [List.append_nil]
  first | refine op_v (v_cmptA rfl rfl rfl) rfl ?_ | refine op_v (v_cmpfA rfl rfl rfl) rfl ?_ | refine op_v (v_cmp rfl rfl rfl) rfl ?_
  refine op_v (v_assign rfl) rfl ?_
  refine ops_nil ?_
  refine post_next ?_
  refine code_ret ?_
  refine post_ret (rs := [.tmp 4]) rfl (List.Perm.refl _) (.cons (.tmp rfl) .nil) (List.Sublist.refl _) ?_
  exact ⟨bool_b (by have := (idxQ_any p ts).1; cases h : ts.any p <;> simp_all), rfl⟩
/-- in a row of one's own -/
abbrev tRow (A : Option Addr) (c n : Nat) (xs : List Value) : Ent := .row (.slice A n c) 47 2 n xs
theorem IdxR_does {I : Imm} {fv : Value} {ts : List T} {A : Option Addr} {c : Nat} {xs : List Value} {δf : List Ent} {p : T → Bool} (hx : RowT I xs ts) (hb : ts.length ≤ 4398046511104) (hf : ∀ J u t, I.le J → RepT J u t → t ∈ ts → FDoes Try.prog fv [u] J (tRow A c ts.length xs :: δf) (fun v _ δ' => v = .bool (p t) ∧ δ' = tRow A c ts.length xs :: δf)) :
    Does Try.prog 142 [.slice A ts.length c, fv] I (tRow A c ts.length xs :: δf) (fun v _ δ' => v = .int .i64 (idxQ p ts) ∧ δ' = tRow A c ts.length xs :: δf) := by
  refine Does.intro Try.func142 rfl Try.ntmps142 rfl fun w0 => ?_
  refine code_seq ?_
  refine code_region ?_
  refine op_v (v_assign rfl) rfl ?_
  refine ops_nil ?_
  refine post_next ?_
  refine code_seq ?_
  refine code_seq ?_
  refine code_region ?_
  refine op_v (v_move rfl) rfl ?_
  refine op_v (v_len Try.underlying45 rfl) rfl ?_
  refine op_v (v_move rfl) rfl ?_
  refine ops_nil ?_
  refine post_next ?_
  refine code_block ?_
  refine code_loop (fun m σ' I' δ' => ∃ k : Nat, m = ts.length - k ∧ k ≤ ts.length ∧ σ' = [(0, .slice A ts.length c), (1, fv), (7, .int .i64 ts.length), (8, .int .i64 k)] ∧ I.le I' ∧ δ' = tRow A c ts.length xs :: δf ∧ (ts.take k).any p = false) ts.length [(0, .slice A ts.length c), (1, fv), (7, .int .i64 ts.length), (8, .int .i64 (0 : Nat))] ⟨0, rfl, Nat.zero_le _, rfl, Imm.le_refl _, rfl, rfl⟩ ⟨rfl, rfl, rfl, rfl, trivial⟩ ?_
  rintro m _ I0 _ ⟨k, rfl, hk, rfl, hI0, rfl, hp⟩
  refine code_seq ?_
  refine code_region ?_
  first | refine op_v (v_cmptA rfl rfl rfl) rfl ?_ | refine op_v (v_cmpfA rfl rfl rfl) rfl ?_ | refine op_v (v_cmp rfl rfl rfl) rfl ?_
  refine ops_nil ?_
  refine post_next ?_
  refine code_seq ?_
  refine code_cond rfl (fun hc0 => ?_) (fun hc0 => ?_)
  · have hlt : k < ts.length := by simpa using hc0
    obtain ⟨s, hs1, hs2, hs3⟩ := hx.2 k hlt
    refine code_skip ?_
    refine post_next ?_
    refine code_seq ?_
    refine code_block ?_
    refine code_seq ?_
    refine code_region ?_
    refine op_v (v_move rfl) rfl ?_
    refine op_v (v_assign rfl) rfl ?_
    refine ops_nil ?_
    refine post_next ?_
    refine code_seq ?_
    refine code_region ?_
    refine OpsJ.rowSome Has.here (by omega) (fun hA hcr => ?_)
    refine op_v (v_move rfl) rfl ?_
    refine op_v (v_move rfl) rfl ?_
    refine op_v (v_move rfl) rfl ?_
    refine op_v (v_index Try.underlying45 sz47 rfl rfl hlt hA) rfl ?_
    refine op_v (v_loadRow ty47 rfl Has.here hA (ld_pair hs1 hs2)) rfl ?_
    refine op_fcall rfl rfl rfl ((hf _ _ ts[k] hI0 (hs3.mono hI0) (List.getElem_mem _))) Parts.all ?_
    rintro v16 I16 _ hI16 ⟨rfl, rfl⟩
    rw [List.append_nil]
    refine ops_nil ?_
    refine post_next ?_
    refine code_cond rfl (fun hc1 => ?_) (fun hc1 => ?_)
    · refine code_seq ?_
      refine code_region ?_
      refine op_v (v_move rfl) rfl ?_
      refine op_v (v_assign rfl) rfl ?_
      refine ops_nil ?_
      refine post_next ?_
      refine code_ret ?_
      refine post_ret_block ?_
      refine post_ret_then ?_
      refine post_ret_then ?_
      refine post_ret_block ?_
      refine post_ret_then ?_
      refine post_ret (rs := [.tmp 4]) rfl (List.Perm.refl _) (.cons (.tmp rfl) .nil) (List.Sublist.refl _) ?_
      exact ⟨by rw [idxQ_hit p ts k hlt hp hc1]; rfl, rfl⟩
    · refine code_skip ?_
      refine post_out ?_
      refine post_next ?_
      refine code_region ?_
      first | refine op_v (v_addb rfl rfl rfl (by omega)) rfl ?_ | refine op_v (v_add rfl rfl) rfl ?_
      refine op_v (v_move rfl) rfl ?_
      refine ops_nil ?_
      refine post_again (ts.length - (k + 1)) [(0, .slice A ts.length c), (1, fv), (7, .int .i64 ts.length), (8, .int .i64 (k + 1 : Nat))] (by omega) ⟨k + 1, rfl, hlt, rfl, Imm.le_trans hI0 hI16, rfl, any_take_q hlt hp hc1⟩ ⟨rfl, rfl, rfl, rfl, trivial⟩
  · have hge : k = ts.length := by simp at hc0; omega
    have hp2 : ts.any p = false := by rw [hge, List.take_length] at hp; exact hp
    refine code_exit ?_
    refine post_exit_then ?_
    refine post_exit_then ?_
    refine post_exit ?_
    refine post_next ?_
    refine code_seq ?_
    refine code_region ?_
    refine op_v (v_assign rfl) rfl ?_
    refine ops_nil ?_
    refine post_next ?_
    refine code_ret ?_
    refine post_ret (rs := [.tmp 4]) rfl (List.Perm.refl _) (.cons (.tmp rfl) .nil) (List.Sublist.refl _) ?_
    exact ⟨by rw [idxQ_none p ts hp2]; rfl, rfl⟩
theorem Delete_does {I : Imm} {n i c : Nat} {A : Option Addr} {xs : List Value} (hi : i < n) (hb : n ≤ 4398046511104) (h1 : ∀ u ∈ xs, u.oneCell' = true) :
    Does Try.prog 168 [.slice A n c, .int .i64 i, .int .i64 ((i : Int) + 1)] I [tRow A c n xs] (fun v _ δ' => v = .slice A (n - 1) c ∧ δ' = [tRow A c (n - 1) (xs.take (i * 2) ++ (xs.drop ((i + 1) * 2)).take ((n - (i + 1)) * 2))]) := by
  have e1 : (i : Int) + 1 = ((i + 1 : Nat) : Int) := by omega
  have e2 : i + (n - (i + 1)) = n - 1 := by omega
  rw [e1]
  refine Does.intro Try.func168 rfl Try.ntmps168 rfl fun w0 => ?_
  refine code_seq ?_
  refine code_region ?_
  refine op_v (v_assign rfl) rfl ?_
  refine ops_nil ?_
  refine post_next ?_
  refine code_seq ?_
  refine code_region ?_
  refine OpsJ.rowSome Has.here (by omega) (fun hA hcr => ?_)
  refine op_v (v_move rfl) rfl ?_
  refine op_v (v_move rfl) rfl ?_
  refine op_v (v_move rfl) rfl ?_
  refine op_v (v_move rfl) rfl ?_
  refine op_v (v_len Try.underlying45 rfl) rfl ?_
  refine op_v (v_slice3 Try.underlying45 sz47 rfl rfl rfl rfl (by omega) (by omega) (by omega)) rfl ?_
  refine ops_nil ?_
  refine post_next ?_
  refine code_seq ?_
  refine code_seq ?_
  refine code_region ?_
  refine op_v (v_move rfl) rfl ?_
  refine op_v (v_move rfl) rfl ?_
  refine op_v (v_cmpf rfl rfl rfl (by omega)) rfl ?_
  refine ops_nil ?_
  refine post_next ?_
  refine code_cond_f rfl ?_
  refine code_skip ?_
  refine post_next ?_
  refine code_seq ?_
  refine code_region ?_
  refine op_v (v_move rfl) rfl ?_
  refine op_v (v_len Try.underlying45 rfl) rfl ?_
  refine op_v (v_assign rfl) rfl ?_
  refine ops_nil ?_
  refine post_next ?_
  refine code_seq ?_
  refine code_draw (.fl 0 (.fl 1 (.fl 2 (.fl 3 (.fl 4 (.fl 5 (.ef 6 (.ef 7 .done)))))))) (fun _ => []) mixed (by kernel_rfl) (by kernel_rfl) (fun _ => (List.nil_sublist _)) ?_
  refine e_float rfl rfl (fun hs_ => PF.mk rfl (v_move rfl) hs_) Imm.leA (by intro x hx; cases hx) ?_
  refine e_float rfl rfl (fun hs_ => PF.mk rfl (v_move rfl) hs_) Imm.leA (by intro x hx; cases hx) ?_
  refine e_float rfl rfl (fun hs_ => PF.mk rfl (v_sliceTo Try.underlying45 sz47 rfl rfl (by omega)) hs_) Imm.leA (by intro x hx; cases hx) ?_
  refine e_float rfl rfl (fun hs_ => PF.mk rfl (v_move rfl) hs_) Imm.leA (by intro x hx; cases hx) ?_
  refine e_float rfl rfl (fun hs_ => PF.mk rfl (v_move rfl) hs_) Imm.leA (by intro x hx; cases hx) ?_
  refine e_float rfl rfl (fun hs_ => PF.mk rfl (v_sliceFrom Try.underlying45 sz47 rfl rfl (by omega) (by omega)) hs_) Imm.leA (by intro x hx; cases hx) ?_
  refine e_eff rfl (by intro cs b hc; cases hc) (by intro c hc; cases hc) ?_
  refine o_appendSelf Try.underlying45 bs47 rfl rfl rfl Swap.here (by omega) (by omega) (by omega) h1 hb (by omega) hA ?_
  refine ops_nil ?_
  refine e_next rfl (side_all Imm.leA (fun _ => (by intro x hx; cases hx))) ?_
  refine e_eff rfl (by intro cs b hc; cases hc) (by intro c hc; cases hc) ?_
  refine op_v (v_assign rfl) rfl ?_
  refine ops_nil ?_
  refine e_next rfl (side_nil (by kernel_rfl)) ?_
  refine e_done ?_
  refine post_next ?_
  refine code_seq ?_
  refine code_region ?_
  rw [e2]
  refine op_v (v_move rfl) rfl ?_
  refine op_v (v_move rfl) rfl ?_
  refine op_v (v_len Try.underlying45 rfl) rfl ?_
  refine op_v (v_move rfl) rfl ?_
  refine op_v (v_slice2 Try.underlying45 sz47 rfl rfl rfl (by omega) (by omega)) rfl ?_
  refine o_clear Try.underlying45 (by kernel_rfl) (z := .agg #[.int .i64 0, .slice none 0 0]) (by rfl) (by rfl) rfl Has.here (by omega) ?_
  refine ops_nil ?_
  refine post_next ?_
  refine code_seq ?_
  refine code_region ?_
  refine op_v (v_move rfl) rfl ?_
  refine op_v (v_assign rfl) rfl ?_
  refine ops_nil ?_
  refine post_next ?_
  refine code_ret ?_
  refine post_ret (rs := [.tmp 6]) rfl (List.Perm.refl _) (.cons (.tmp rfl) .nil) (List.Sublist.refl _) ?_
  exact ⟨rfl, rfl⟩
end Go.Proofs.Ytdbadicpbmndbaa
/- Walks: rows without others; which row is over another one. -/
set_option linter.unusedVariables false
set_option linter.unusedSimpArgs false
/- short -/
namespace Go.Proofs.Ytdbadicpbmndbaa
open Go Lg

theorem RowT.one1 {I : Imm} {xs : List Value} {ts : List T} (h : RowT I xs ts) : ∀ u ∈ xs, u.oneCell' = true := fun u hu => by
  obtain ⟨j, hj, rfl⟩ := List.getElem_of_mem hu
  have hl := h.1
  obtain ⟨s, h1, h2, _⟩ := h.2 (j / 2) (by omega)
  rcases Nat.mod_two_eq_zero_or_one j with e | e
  · have ej : j / 2 * 2 = j := by omega
    rw [ej, List.getElem?_eq_getElem hj] at h1
    rw [Option.some.inj h1]; rfl
  · have ej : j / 2 * 2 + 1 = j := by omega
    rw [ej, List.getElem?_eq_getElem hj] at h2
    rw [Option.some.inj h2]; rfl
theorem RowT.del {I : Imm} {xs : List Value} {ts : List T} {i : Nat} (h : RowT I xs ts) (hi : i < ts.length) : RowT I (xs.take (i * 2) ++ (xs.drop ((i + 1) * 2)).take ((ts.length - (i + 1)) * 2)) (ts.eraseIdx i) := by
  have hl := h.1
  have e : ts.eraseIdx i = ts.take i ++ ts.drop (i + 1) := List.eraseIdx_eq_take_drop_succ ..
  rw [e]
  refine RowT.app ⟨by rw [List.length_take, List.length_take]; omega, fun j hj => ?_⟩ ⟨by rw [List.length_take, List.length_drop, List.length_drop]; omega, fun j hj => ?_⟩
  · have hj' : j < i := by rw [List.length_take] at hj; omega
    obtain ⟨s, h1, h2, h3⟩ := h.2 j (by omega)
    have e2 : (ts.take i)[j] = ts[j]'(by omega) := List.getElem_take
    rw [e2]
    exact ⟨s, by rw [List.getElem?_take_of_lt (by omega)]; exact h1, by rw [List.getElem?_take_of_lt (by omega)]; exact h2, h3⟩
  · have hj' : j < ts.length - (i + 1) := by rw [List.length_drop] at hj; exact hj
    obtain ⟨s, h1, h2, h3⟩ := h.2 (i + 1 + j) (by omega)
    have e2 : (ts.drop (i + 1))[j] = ts[i + 1 + j]'(by omega) := List.getElem_drop
    rw [e2]
    exact ⟨s, by rw [List.getElem?_take_of_lt (by omega), List.getElem?_drop, show (i + 1) * 2 + j * 2 = (i + 1 + j) * 2 by omega]; exact h1, by rw [List.getElem?_take_of_lt (by omega), List.getElem?_drop, show (i + 1) * 2 + (j * 2 + 1) = (i + 1 + j) * 2 + 1 by omega]; exact h2, h3⟩
theorem idxQ_erase (t : T) : ∀ (l : List T), t ∈ l → ∃ i : Nat, idxQ (fun u => decide (t = u)) l = i ∧ i < l.length ∧ l.eraseIdx i = l.erase t
  | [], h => by cases h
  | x :: r, h => by
    by_cases e : t = x
    · subst e; exact ⟨0, by simp [idxQ], by simp, by simp⟩
    · have hr : t ∈ r := by rcases List.mem_cons.1 h with h | h; exact absurd h e; exact h
      obtain ⟨i, h1, h2, h3⟩ := idxQ_erase t r hr
      have e2 : (x == t) = false := by simp; exact fun h => e h.symm
      refine ⟨i + 1, ?_, by simp; omega, ?_⟩
      · simp only [idxQ, h1]
        rw [if_neg (by simpa using e), if_neg (by omega)]; omega
      · rw [List.eraseIdx_cons_succ, List.erase_cons, e2, h3]; rfl
theorem idxQ_not (t : T) (l : List T) (h : t ∉ l) : idxQ (fun u => decide (t = u)) l = -1 :=
  idxQ_none _ l (by rw [List.any_eq_false]; intro x hx; simp; exact fun e => h (e ▸ hx))

theorem rest1_does {I : Imm} {b : Nat} {v : Value} {t u : T} {ta : Option Addr} {tc : Nat} {X : Ent} (hv : RepT I v u) (ht : RepT I (.agg #[.int .i64 t.head, .slice ta t.args.length tc]) t) (hbu : u.size ≤ 1000000000) (hbt : t.size ≤ 1000000000) :
    Does Try.prog 167 [v, .pointer (some ⟨b, 0, none⟩)] I [X, .box b 47 [.int .i64 t.head, .slice ta t.args.length tc]] (fun v _ δ' => v = .bool (decide (t = u)) ∧ δ' = [X, .box b 47 [.int .i64 t.head, .slice ta t.args.length tc]]) := by
  obtain ⟨ua, uc, rfl, _⟩ := hv.shape
  refine Does.intro Try.func167 rfl Try.ntmps167 rfl fun w0 => ?_
  refine code_seq ?_
  refine code_region ?_
  refine o_box rfl rfl rfl (fun b2 => ?_)
  refine op_v (v_assign rfl) rfl ?_
  refine ops_nil ?_
  refine post_next ?_
  refine code_seq ?_
  refine code_region ?_
  refine op_v (v_load ty47 rfl (Has.there (Has.there Has.here)) rfl) rfl ?_
  refine op_v (v_load ty47 rfl Has.here rfl) rfl ?_
  refine op_call pl77 rfl rfl ((TSame_does ht hv hbt hbu)) Parts.none ?_
  rintro v6 I6 _ hI6 ⟨rfl, rfl⟩
  refine op_v (v_assign rfl) rfl ?_
  refine ops_nil ?_
  refine post_next ?_
  refine code_ret ?_
  refine post_ret (rs := [.tmp 3]) rfl (List.Perm.refl _) (.cons (.tmp rfl) .nil) (List.sublist_cons_self _ _) ?_
  exact ⟨rfl, rfl⟩
theorem rest_does {I : Imm} {va vb : Value} {a b : List T} (ha : RepS I va a) (hb : RepS I vb b) (hsa : ∀ t ∈ a, t.size ≤ 1000000000) (hsb : ∀ t ∈ b, t.size ≤ 1000000000) (hla : a.length ≤ 1000000) (hlb : b.length ≤ 1000000) :
    Does Try.prog 138 [va, vb] I [] (fun v I' δ' => RepS I' v (rsL a b) ∧ δ' = []) := by
  obtain ⟨ad, ac, ssa, a, hca, hba, hata, hra, hsuba0⟩ := ha
  obtain ⟨bd, bc, ssb, b, hcb, hbb, hatb, hrb, hsubb0⟩ := hb
  have hsuba : ∀ i (h : i < a.length), RepT I (.agg #[.int .i64 a[i].head, .slice (ssa i).1 a[i].args.length (ssa i).2]) a[i] := fun i hi => RepT.mk _ _ (hra i hi) (hsuba0 i hi)
  have hsubb : ∀ i (h : i < b.length), RepT I (.agg #[.int .i64 b[i].head, .slice (ssb i).1 b[i].args.length (ssb i).2]) b[i] := fun i hi => RepT.mk _ _ (hrb i hi) (hsubb0 i hi)
  obtain ⟨hcells, hrow⟩ := RowT.of hatb hsubb
  refine Does.intro Try.func138 rfl Try.ntmps138 rfl fun w0 => ?_
  refine code_seq ?_
  refine code_region ?_
  refine op_v (v_assign rfl) rfl ?_
  refine ops_nil ?_
  refine post_next ?_
  refine code_seq ?_
  refine code_region ?_
  refine op_v (v_move rfl) rfl ?_
  refine op_call pl166 rfl rfl ((Clone_does I hcells hrow.1 hrow.one1 hbb)) Parts.none ?_
  rintro v11 I11 _ hI11 ⟨la, lc, rfl, rfl⟩
  refine op_v (v_assign rfl) rfl ?_
  refine ops_nil ?_
  refine post_next ?_
  refine code_seq ?_
  refine code_region ?_
  refine op_v (v_assign rfl) rfl ?_
  refine ops_nil ?_
  refine post_next ?_
  refine code_seq ?_
  refine code_seq ?_
  refine code_region ?_
  refine op_v (v_move rfl) rfl ?_
  refine op_v (v_len Try.underlying45 rfl) rfl ?_
  refine op_v (v_move rfl) rfl ?_
  refine ops_nil ?_
  refine post_next ?_
  refine code_block ?_
  refine CodeJ.view (View.nilRow 47 2) ?_
  refine code_loop (fun m σ' I' δ' => ∃ (k : Nat) (L O : List T) (A B : Option Addr) (c e : Nat) (xs ys : List Value), m = a.length - k ∧ k ≤ a.length ∧ σ' = [(5, .slice A L.length c), (6, .slice B O.length e), (12, .slice ad a.length ac), (13, .int .i64 a.length), (14, .int .i64 k)] ∧ I.le I' ∧ δ' = [tRow B e O.length ys, tRow A c L.length xs] ∧ RowT I' xs L ∧ RowT I' ys O ∧ rsL a b = O ++ rsL (a.drop k) L ∧ O.length ≤ k ∧ L.length ≤ b.length ∧ (∀ t ∈ L, t ∈ b)) a.length [(5, .slice la b.length lc), (6, .slice none 0 0), (12, .slice ad a.length ac), (13, .int .i64 a.length), (14, .int .i64 (0 : Nat))] ⟨0, b, [], la, none, lc, 0, _, [], rfl, Nat.zero_le _, rfl, hI11, rfl, hrow.mono hI11, RowT.nil _, rfl, Nat.zero_le _, Nat.le_refl _, fun _ h => h⟩ ⟨rfl, rfl, rfl, rfl, rfl, trivial⟩ ?_
  rintro m _ I0 _ ⟨k, L, O, A, B, c, e, xs, ys, rfl, hk, rfl, hI0, rfl, hx, hy, hst, hO, hL, hLb⟩
  refine code_seq ?_
  refine code_region ?_
  first | refine op_v (v_cmptA rfl rfl rfl) rfl ?_ | refine op_v (v_cmpfA rfl rfl rfl) rfl ?_ | refine op_v (v_cmp rfl rfl rfl) rfl ?_
  refine ops_nil ?_
  refine post_next ?_
  refine code_seq ?_
  refine code_cond rfl (fun hc0 => ?_) (fun hc0 => ?_)
  · have hlt : k < a.length := by simpa using hc0
    have hs1 := (hata k hlt).isSome
    have hsk := hsa _ (List.getElem_mem hlt)
    rw [List.drop_eq_getElem_cons hlt, rsL] at hst
    refine code_skip ?_
    refine post_next ?_
    refine code_seq ?_
    refine code_block ?_
    refine code_seq ?_
    refine code_region ?_
    first | refine op_v (v_indexA Try.underlying45 sz47 rfl rfl) rfl ?_ | refine op_v (v_indexIA Try.underlying45 sz47 rfl rfl) rfl ?_
    first | refine op_v (v_loadI0 ty47 ((hata k hlt).mono hI0) rfl rfl rfl) rfl ?_ | refine op_v (v_loadI ty47 ((hata k hlt).mono hI0) rfl rfl rfl) rfl ?_
    refine o_alloc z47 rfl rfl (fun b8 => ?_)
    refine o_store ty47 rfl rfl rfl rfl rfl (by repeat (first | exact Swap.here | apply Swap.there)) rfl ?_
    refine ops_nil ?_
    refine post_next ?_
    refine code_seq ?_
    refine code_region ?_
    refine op_v (v_move rfl) rfl ?_
    refine op_v (v_makeFunc rfl rfl) rfl ?_
    refine op_call pl142 rfl rfl ((IdxR_does (δf := [.box b8 47 [.int .i64 a[k].head, .slice (ssa k).1 a[k].args.length (ssa k).2]]) (p := fun u => decide (a[k] = u)) hx (by omega) (fun J u t hJ hu ht => FDoes.ofFunc (caps := [_]) pl167 (rest1_does hu ((hsuba k hlt).mono (Imm.le_trans hI0 hJ)) (hsb t (hLb t ht)) hsk)))) (Parts.two (Del.there (Del.there Del.here)) Del.here) ?_
    rintro v20 I20 _ hI20 ⟨rfl, rfl⟩
    refine op_v (v_assign rfl) rfl ?_
    refine ops_nil ?_
    refine post_next ?_
    refine code_seq ?_
    refine code_seq ?_
    refine code_region ?_
    refine op_v (v_move rfl) rfl ?_
    by_cases h22 : a[k] ∈ L
    · obtain ⟨i, hi1, hi2, hi3⟩ := idxQ_erase a[k] L h22
      rw [if_pos h22, ← hi3] at hst
      rw [hi1]
      have hlen : L.length - 1 = (L.eraseIdx i).length := by rw [List.length_eraseIdx]; simp [hi2]
      first | refine op_v (v_cmptA rfl rfl rfl) rfl ?_ | refine op_v (v_cmpfA rfl rfl rfl) rfl ?_ | refine op_v (v_cmp rfl rfl rfl) rfl ?_
      refine ops_nil ?_
      refine post_next ?_
      refine code_cond_f rfl ?_
      refine code_skip ?_
      refine post_next ?_
      refine code_region ?_
      refine op_v (v_move rfl) rfl ?_
      refine op_v (v_move rfl) rfl ?_
      refine op_v (v_move rfl) rfl ?_
      first | refine op_v (v_addb rfl rfl rfl (by omega)) rfl ?_ | refine op_v (v_add rfl rfl) rfl ?_
      refine op_call pl168 rfl rfl ((Delete_does hi2 (by omega) hx.one1)) (Parts.one Del.here) ?_
      rintro v31 I31 _ hI31 ⟨rfl, rfl⟩
      refine op_v (v_assign rfl) rfl ?_
      refine ops_nil ?_
      refine post_out ?_
      refine post_next ?_
      refine code_region ?_
      first | refine op_v (v_addb rfl rfl rfl (by omega)) rfl ?_ | refine op_v (v_add rfl rfl) rfl ?_
      refine op_v (v_move rfl) rfl ?_
      refine ops_nil ?_
      refine PostJ.view ((View.drop (Del.there Del.here)).trans (View.perm (List.Perm.swap _ _ _))) ?_
      refine post_again (a.length - (k + 1)) [(5, .slice A (L.length - 1) c), (6, .slice B O.length e), (12, .slice ad a.length ac), (13, .int .i64 a.length), (14, .int .i64 (k + 1 : Nat))] (by omega) ⟨k + 1, L.eraseIdx i, O, A, B, c, e, _, ys, rfl, hlt, by rw [hlen], Imm.leA, by simp only [tRow, ← hlen], (hx.mono Imm.leA).del hi2, hy.mono Imm.leA, hst, by omega, by rw [← hlen]; omega, fun t ht => hLb t (List.mem_of_mem_eraseIdx ht)⟩ ⟨rfl, rfl, rfl, rfl, rfl, trivial⟩
    · rw [if_neg h22] at hst
      rw [idxQ_not a[k] L h22]
      first | refine op_v (v_cmptA rfl rfl rfl) rfl ?_ | refine op_v (v_cmpfA rfl rfl rfl) rfl ?_ | refine op_v (v_cmp rfl rfl rfl) rfl ?_
      refine ops_nil ?_
      refine post_next ?_
      refine code_cond_t rfl ?_
      refine code_seq ?_
      refine code_region ?_
      refine op_v (v_move rfl) rfl ?_
      refine op_v (v_loadA ty47 rfl rfl) rfl ?_
      refine o_buildSlice (xs := [(Go.Operand.tmp 24)]) Try.underlying45 bs47 rfl rfl rfl rfl rfl (fun b25 => ?_)
      refine o_append Try.underlying45 bs47 rfl rfl rfl (fun v' => by repeat (first | exact Swap.here | apply Swap.there)) (Src.ofRow (by repeat (first | exact Has.here | apply Has.there)) rfl) (by first | rfl | omega | simp) (by simp [cat, cellsL, Value.oneCell']) (by omega) (by omega) (fun a26 c26 => ?_)
      have hl2 : O.length + 1 = (O ++ [a[k]]).length := by simp
      refine op_v (v_assign rfl) rfl ?_
      refine ops_nil ?_
      refine post_next ?_
      refine code_exit ?_
      refine post_exit_then ?_
      refine post_exit ?_
      refine post_next ?_
      refine code_region ?_
      first | refine op_v (v_addb rfl rfl rfl (by omega)) rfl ?_ | refine op_v (v_add rfl rfl) rfl ?_
      refine op_v (v_move rfl) rfl ?_
      refine ops_nil ?_
      refine PostJ.view ((View.drop Del.here).trans ((View.drop (Del.there Del.here)).trans (View.perm (List.Perm.swap _ _ _)))) ?_
      refine post_again (a.length - (k + 1)) [(5, .slice A L.length c), (6, .slice a26 (O.length + 1) c26), (12, .slice ad a.length ac), (13, .int .i64 a.length), (14, .int .i64 (k + 1 : Nat))] (by omega) ⟨k + 1, L, O ++ [a[k]], A, a26, c, c26, xs, ys ++ [.int .i64 a[k].head, .slice (ssa k).1 a[k].args.length (ssa k).2], rfl, hlt, by rw [hl2], Imm.leA, by simp only [tRow, ← hl2]; rfl, hx.mono Imm.leA, (hy.mono Imm.leA).app (RowT.one ((hsuba k hlt).mono Imm.leA)), by rw [hst]; simp, by rw [← hl2]; omega, hL, hLb⟩ ⟨rfl, rfl, rfl, rfl, rfl, trivial⟩
  · have hge : k = a.length := by simp at hc0; omega
    refine code_exit ?_
    refine post_exit_then ?_
    refine post_exit_then ?_
    refine post_exit ?_
    refine post_next ?_
    refine code_seq ?_
    refine code_region ?_
    refine OpsJ.freezeRow Del.here ?_
    rintro I33 A33 c33 hI33 hvr hcr hlr hcells33
    cases hvr
    rw [hge, List.drop_length] at hst
    refine op_v (v_move rfl) rfl ?_
    refine op_v (v_assign rfl) rfl ?_
    refine ops_nil ?_
    refine post_next ?_
    refine code_ret ?_
    refine post_ret (rs := [.tmp 4]) rfl (List.Perm.refl _) (.cons (.tmp rfl) .nil) (List.nil_sublist _) ?_
    exact ⟨by rw [hst]; simp only [rsL, List.append_nil]; exact RowT.repS rfl hcells33 (hy.mono hI33) hcr (by omega), rfl⟩
end Go.Proofs.Ytdbadicpbmndbaa
/- Walks: which row is over another one; how two rows stand. -/
set_option linter.unusedVariables false
set_option linter.unusedSimpArgs false
/- short -/
namespace Go.Proofs.Ytdbadicpbmndbaa
open Go Lg

abbrev OvE (ba bg : Nat) (va vg : Value) : List Ent := [.box ba 45 [va], .box bg 22 [vg]]
theorem over11_does {I : Imm} {bg bu : Nat} {v : Value} {gs : List Sy} {t u : T} {ga ua : Option Addr} {gc uc : Nat} {X : Ent} (hg : RepG I (.slice ga gs.length gc) gs) (hv : RepT I v t) (hu : RepT I (.agg #[.int .i64 u.head, .slice ua u.args.length uc]) u) (ht : OkG gs t) (hou : OkG gs u) :
    Does Try.prog 170 [v, .pointer (some ⟨bg, 0, none⟩), .pointer (some ⟨bu, 0, none⟩)] I [.box bu 47 [.int .i64 u.head, .slice ua u.args.length uc], X, .box bg 22 [.slice ga gs.length gc]] (fun v _ δ' => v = .bool (decide (stT gs t u = 1)) ∧ δ' = [.box bu 47 [.int .i64 u.head, .slice ua u.args.length uc], X, .box bg 22 [.slice ga gs.length gc]]) := by
  obtain ⟨ta, tc, rfl, _⟩ := hv.shape
  refine Does.intro Try.func170 rfl Try.ntmps170 rfl fun w0 => ?_
  refine code_seq ?_
  refine code_region ?_
  refine o_box rfl rfl rfl (fun b3 => ?_)
  refine op_v (v_assign rfl) rfl ?_
  refine ops_nil ?_
  refine post_next ?_
  refine code_seq ?_
  refine code_region ?_
  refine op_v (v_load ty22 rfl (Has.there (Has.there (Has.there Has.here))) rfl) rfl ?_
  refine op_v (v_load ty47 rfl Has.here rfl) rfl ?_
  refine op_v (v_load ty47 rfl (Has.there Has.here) rfl) rfl ?_
  refine op_call pl171 rfl rfl ((stand_does t.size t u (Nat.le_refl _) _ _ _ _ hg hv hu ht hou)) Parts.none ?_
  rintro v8 I8 _ hI8 ⟨rfl, rfl⟩
  refine op_v (v_cmp (z := decide (stT gs t u = 1)) rfl rfl rfl) rfl ?_
  refine op_v (v_assign rfl) rfl ?_
  refine ops_nil ?_
  refine post_next ?_
  refine code_ret ?_
  refine post_ret (rs := [.tmp 4]) rfl (List.Perm.refl _) (.cons (.tmp rfl) .nil) (List.sublist_cons_self _ _) ?_
  exact ⟨rfl, rfl⟩
theorem over1_does {I : Imm} {ba bg : Nat} {v va : Value} {gs : List Sy} {a : List T} {u : T} {ga : Option Addr} {gc : Nat} (hg : RepG I (.slice ga gs.length gc) gs) (ha : RepS I va a) (hv : RepT I v u) (hoa : ∀ t ∈ a, OkG gs t) (hou : OkG gs u) :
    Does Try.prog 169 [v, .pointer (some ⟨ba, 0, none⟩), .pointer (some ⟨bg, 0, none⟩)] I (OvE ba bg va (.slice ga gs.length gc)) (fun v _ δ' => v = .bool (a.any fun t => decide (stT gs t u = 1)) ∧ δ' = OvE ba bg va (.slice ga gs.length gc)) := by
  obtain ⟨ua, uc, rfl, _⟩ := hv.shape
  obtain ⟨aa, ac, rfl⟩ := ha.shape
  refine Does.intro Try.func169 rfl Try.ntmps169 rfl fun w0 => ?_
  refine code_seq ?_
  refine code_region ?_
  refine o_box rfl rfl rfl (fun b3 => ?_)
  refine op_v (v_assign rfl) rfl ?_
  refine ops_nil ?_
  refine post_next ?_
  refine code_seq ?_
  refine code_region ?_
  refine op_v (v_loadA ty45 rfl rfl) rfl ?_
  refine op_v (v_makeFunc rfl rfl) rfl ?_
  refine op_call pl103 rfl rfl ((ContT_does (p := fun t => decide (stT gs t u = 1)) ha (fun J x t hJ hx ht => FDoes.ofFunc (caps := [_, _]) pl170 (over11_does (hg.mono hJ) hx (hv.mono hJ) (hoa t ht) hou)))) Parts.all ?_
  rintro v7 I7 _ hI7 ⟨rfl, rfl⟩
  rw [List.append_nil]
  refine op_v (v_assign rfl) rfl ?_
  refine ops_nil ?_
  refine post_next ?_
  refine code_ret ?_
  refine post_ret (rs := [.tmp 4]) rfl (List.Perm.refl _) (.cons (.tmp rfl) .nil) (List.sublist_cons_self _ _) ?_
  exact ⟨rfl, rfl⟩
theorem over2_does {I : Imm} {bf ba bg : Nat} {v va : Value} {gs : List Sy} {a : List T} {u : T} {ga : Option Addr} {gc : Nat} (hg : RepG I (.slice ga gs.length gc) gs) (ha : RepS I va a) (hv : RepT I v u) (hoa : ∀ t ∈ a, OkG gs t) (hou : OkG gs u) :
    Does Try.prog 172 [v, .pointer (some ⟨bf, 0, none⟩)] I (.box bf 111 [.func (.func 169) #[] #[.pointer (some ⟨ba, 0, none⟩), .pointer (some ⟨bg, 0, none⟩)]] :: OvE ba bg va (.slice ga gs.length gc)) (fun v _ δ' => v = .bool (!(a.any fun t => decide (stT gs t u = 1))) ∧ δ' = .box bf 111 [.func (.func 169) #[] #[.pointer (some ⟨ba, 0, none⟩), .pointer (some ⟨bg, 0, none⟩)]] :: OvE ba bg va (.slice ga gs.length gc)) := by
  obtain ⟨ua, uc, rfl, _⟩ := hv.shape
  refine Does.intro Try.func172 rfl Try.ntmps172 rfl fun w0 => ?_
  refine code_seq ?_
  refine code_region ?_
  refine o_box rfl rfl rfl (fun b2 => ?_)
  refine op_v (v_assign rfl) rfl ?_
  refine ops_nil ?_
  refine post_next ?_
  refine code_seq ?_
  refine code_region ?_
  refine op_v (v_load ty111 rfl (Has.there Has.here) rfl) rfl ?_
  refine op_v (v_load ty47 rfl Has.here rfl) rfl ?_
  refine op_fcall rfl rfl rfl ((FDoes.ofFunc (caps := [_, _]) pl169 (over1_does hg ha hv hoa hou))) (List.perm_append_comm (l₁ := [_, _])) ?_
  rintro v6 I6 _ hI6 ⟨rfl, rfl⟩
  refine OpsJ.view (View.perm (List.perm_append_comm (l₂ := [_, _]))) ?_
  refine op_v (v_not rfl) rfl ?_
  refine op_v (v_assign rfl) rfl ?_
  refine ops_nil ?_
  refine post_next ?_
  refine code_ret ?_
  refine post_ret (rs := [.tmp 3]) rfl (List.Perm.refl _) (.cons (.tmp rfl) .nil) (List.sublist_cons_self _ _) ?_
  exact ⟨rfl, rfl⟩
theorem over_does {I : Imm} {vg va vb : Value} {gs : List Sy} {a b : List T} (hg : RepG I vg gs) (ha : RepS I va a) (hb : RepS I vb b) (hoa : ∀ t ∈ a, OkG gs t) (hob : ∀ t ∈ b, OkG gs t) :
    Does Try.prog 139 [vg, va, vb] I [] (fun v _ δ' => v = .bool (overL gs a b) ∧ δ' = []) := by
  obtain ⟨ga, gc, rfl⟩ := hg.shape
  obtain ⟨aa, ac, rfl⟩ := ha.shape
  have hall : (b.all fun u => a.any fun t => decide (stT gs t u = 1)) = !(b.any fun u => !(a.any fun t => decide (stT gs t u = 1))) := by
    rw [List.not_any_eq_all_not]; simp
  refine Does.intro Try.func139 rfl Try.ntmps139 rfl fun w0 => ?_
  refine code_seq ?_
  refine code_region ?_
  refine o_box rfl rfl rfl (fun b3 => ?_)
  refine o_box rfl rfl rfl (fun b4 => ?_)
  refine op_v (v_assign rfl) rfl ?_
  refine ops_nil ?_
  refine post_next ?_
  refine code_seq ?_
  refine code_region ?_
  refine op_v (v_makeFunc rfl rfl) rfl ?_
  refine o_alloc z111 rfl rfl (fun b7 => ?_)
  refine o_store ty111 rfl rfl rfl rfl rfl (by repeat (first | exact Swap.here | apply Swap.there)) rfl ?_
  refine ops_nil ?_
  refine post_next ?_
  refine code_seq ?_
  refine code_region ?_
  refine op_v (v_loadA ty45 rfl rfl) rfl ?_
  refine op_v (v_len Try.underlying45 rfl) rfl ?_
  by_cases h11 : 0 < a.length
  · first | refine op_v (v_cmptA rfl rfl rfl) rfl ?_ | refine op_v (v_cmpfA rfl rfl rfl) rfl ?_ | refine op_v (v_cmp rfl rfl rfl) rfl ?_
    refine op_v (v_move rfl) rfl ?_
    first
      | (refine op_want rfl rfl ?_
         refine op_v (v_move rfl) rfl ?_)
      | (refine op_skip rfl rfl (by simp [undef]) rfl ?_)
    first
      | (refine op_want rfl rfl ?_
         refine op_v (v_makeFunc rfl rfl) rfl ?_)
      | (refine op_skip rfl rfl (by simp [undef]) rfl ?_)
    first
      | (refine op_want rfl rfl ?_
         refine op_call pl103 rfl rfl ((ContT_does (p := fun u => !(a.any fun t => decide (stT gs t u = 1))) hb (fun J x u hJ hx hu => FDoes.ofFunc (caps := [_]) pl172 (over2_does (hg.mono hJ) (ha.mono hJ) hx hoa (hob u hu))))) Parts.all ?_
         rintro v15 I15 _ hI15 ⟨rfl, rfl⟩
         rw [List.append_nil])
      | (refine op_skip rfl rfl (by simp [undef]) rfl ?_)
    first
      | (refine op_want rfl rfl ?_
         refine op_v (v_not rfl) rfl ?_)
      | (refine op_skip rfl rfl (by simp [undef]) rfl ?_)
    first | refine op_v (v_pickt rfl rfl) rfl ?_ | refine op_v (v_pickf rfl rfl) rfl ?_ | refine op_v (v_pickb rfl rfl rfl) rfl ?_
    refine op_v (v_assign rfl) rfl ?_
    refine ops_nil ?_
    refine post_next ?_
    refine code_ret ?_
    refine post_ret (rs := [.tmp 6]) rfl (List.Perm.refl _) (.cons (.tmp rfl) .nil) (List.nil_sublist _) ?_
    exact ⟨by simp only [outV, overL, hall, h11, decide_true, Bool.true_and], rfl⟩
  · first | refine op_v (v_cmptA rfl rfl rfl) rfl ?_ | refine op_v (v_cmpfA rfl rfl rfl) rfl ?_ | refine op_v (v_cmp rfl rfl rfl) rfl ?_
    refine op_v (v_move rfl) rfl ?_
    first
      | (refine op_want rfl rfl ?_
         refine op_v (v_move rfl) rfl ?_)
      | (refine op_skip rfl rfl (by simp [undef]) rfl ?_)
    first
      | (refine op_want rfl rfl ?_
         refine op_v (v_makeFunc rfl rfl) rfl ?_)
      | (refine op_skip rfl rfl (by simp [undef]) rfl ?_)
    first
      | (refine op_want rfl rfl ?_
         refine op_call pl103 rfl rfl ((ContT_does (p := fun u => !(a.any fun t => decide (stT gs t u = 1))) hb (fun J x u hJ hx hu => FDoes.ofFunc (caps := [_]) pl172 (over2_does (hg.mono hJ) (ha.mono hJ) hx hoa (hob u hu))))) Parts.all ?_
         rintro v15 I15 _ hI15 ⟨rfl, rfl⟩
         rw [List.append_nil])
      | (refine op_skip rfl rfl (by simp [undef]) rfl ?_)
    first
      | (refine op_want rfl rfl ?_
         refine op_v (v_not rfl) rfl ?_)
      | (refine op_skip rfl rfl (by simp [undef]) rfl ?_)
    first | refine op_v (v_pickt rfl rfl) rfl ?_ | refine op_v (v_pickf rfl rfl) rfl ?_ | refine op_v (v_pickb rfl rfl rfl) rfl ?_
    refine op_v (v_assign rfl) rfl ?_
    refine ops_nil ?_
    refine post_next ?_
    refine code_ret ?_
    refine post_ret (rs := [.tmp 6]) rfl (List.Perm.refl _) (.cons (.tmp rfl) .nil) (List.nil_sublist _) ?_
    exact ⟨by simp [outV, overL, h11], rfl⟩

theorem Grow_does {I : Imm} {n : Nat} (hn : n ≤ 4000000000000) :
    Does Try.prog 165 [.slice none 0 0, .int .i64 n] I [] (fun v _ δ' => ∃ A c, v = .slice A 0 c ∧ δ' = [tRow A c 0 []]) := by
  refine Does.intro Try.func165 rfl Try.ntmps165 rfl fun w0 => ?_
  refine code_seq ?_
  refine code_region ?_
  refine op_v (v_assign rfl) rfl ?_
  refine ops_nil ?_
  refine post_next ?_
  refine code_seq ?_
  refine code_seq ?_
  refine code_region ?_
  refine op_v (v_move rfl) rfl ?_
  refine op_v (v_cmpf rfl rfl rfl (by omega)) rfl ?_
  refine ops_nil ?_
  refine post_next ?_
  refine code_cond_f rfl ?_
  refine code_skip ?_
  refine post_next ?_
  refine code_seq ?_
  refine code_seq ?_
  refine code_region ?_
  refine op_v (v_move rfl) rfl ?_
  refine op_v (v_move rfl) rfl ?_
  refine op_v (v_cap Try.underlying45 rfl) rfl ?_
  refine op_v (v_move rfl) rfl ?_
  refine op_v (v_len Try.underlying45 rfl) rfl ?_
  first | refine op_v (v_subb rfl rfl rfl (by omega)) rfl ?_ | refine op_v (v_sub rfl rfl) rfl ?_
  refine op_v (v_subb (c := (n : Int)) rfl rfl (by omega) ⟨by omega, by omega⟩) rfl ?_
  refine op_v (v_assign rfl) rfl ?_
  refine ops_nil ?_
  refine post_next ?_
  refine code_seq ?_
  refine code_region ?_
  refine op_v (v_move rfl) rfl ?_
  by_cases h16 : 0 < n
  · first | refine op_v (v_cmptA rfl rfl rfl) rfl ?_ | refine op_v (v_cmpfA rfl rfl rfl) rfl ?_ | refine op_v (v_cmp rfl rfl rfl) rfl ?_
    refine ops_nil ?_
    refine post_next ?_
    refine code_cond_t rfl ?_
    refine code_region ?_
    refine op_v (v_move rfl) rfl ?_
    refine op_v (v_move rfl) rfl ?_
    refine op_v (v_cap Try.underlying45 rfl) rfl ?_
    refine op_v (v_sliceTo (h := 0) Try.underlying45 sz47 rfl rfl (by omega)) rfl ?_
    refine op_v (v_move rfl) rfl ?_
    refine o_appendMake Try.underlying45 Try.underlying3 bs47 (by rfl) rfl rfl rfl h16 (by omega) (by omega) (by omega) (by omega) (fun g22 c22 hc22 => ?_)
    refine op_v (v_move rfl) rfl ?_
    refine op_v (v_len Try.underlying45 rfl) rfl ?_
    refine op_v (v_sliceTo (h := 0) Try.underlying45 sz47 rfl rfl (by omega)) rfl ?_
    refine op_v (v_assign rfl) rfl ?_
    refine ops_nil ?_
    refine post_next ?_
    refine code_seq ?_
    refine code_region ?_
    refine op_v (v_move rfl) rfl ?_
    refine op_v (v_assign rfl) rfl ?_
    refine ops_nil ?_
    refine post_next ?_
    refine code_ret ?_
    refine post_ret (rs := [.tmp 4]) rfl (List.Perm.refl _) (.cons (.tmp rfl) .nil) (List.Sublist.refl _) ?_
    exact ⟨_, _, rfl, rfl⟩
  · first | refine op_v (v_cmptA rfl rfl rfl) rfl ?_ | refine op_v (v_cmpfA rfl rfl rfl) rfl ?_ | refine op_v (v_cmp rfl rfl rfl) rfl ?_
    refine ops_nil ?_
    refine post_next ?_
    refine code_cond_f rfl ?_
    refine code_skip ?_
    refine post_next ?_
    refine code_seq ?_
    refine code_region ?_
    refine op_v (v_move rfl) rfl ?_
    refine op_v (v_assign rfl) rfl ?_
    refine ops_nil ?_
    refine post_next ?_
    refine code_ret ?_
    refine PostJ.view (View.nilRow 47 2) (post_ret (rs := [.tmp 4]) rfl (List.Perm.refl _) (.cons (.tmp rfl) .nil) (List.Sublist.refl _) ⟨none, 0, rfl, rfl⟩)
theorem Concat_does {I : Imm} {ad : Option Addr} {c : Nat} {va vb : Value} {a b : List T} (hcells : Cells I ad [va, vb]) (ha : RepS I va a) (hb : RepS I vb b) (hla : a.length ≤ 1000000) (hlb : b.length ≤ 1000000) :
    Does Try.prog 137 [.slice ad 2 c] I [] (fun v I' δ' => RepS I' v (a ++ b) ∧ δ' = []) := by
  have has : ad.isSome = true := by
    have := hcells 0 va rfl
    cases ad with
    | none => simp [Imm.cellO] at this
    | some x => rfl
  have hel : ∀ k, k < 2 → ∃ (A : Option Addr) (e : Nat) (L : List T) (xs : List Value), At I ad (k * 1) [.slice A L.length e] ∧ Cells I A xs ∧ RowT I xs L ∧ L.length ≤ 1000000 ∧ ∀ (l : List T), l = (if k = 0 then [] else a) → l ++ L = (if k = 0 then a else a ++ b) := by
    intro k hk
    have key : ∀ (v : Value) (L : List T), RepS I v L → L.length ≤ 1000000 → At I ad (k * 1) [v] → (∀ (l : List T), l = (if k = 0 then [] else a) → l ++ L = (if k = 0 then a else a ++ b)) → ∃ (A : Option Addr) (e : Nat) (L : List T) (xs : List Value), At I ad (k * 1) [.slice A L.length e] ∧ Cells I A xs ∧ RowT I xs L ∧ L.length ≤ 1000000 ∧ ∀ (l : List T), l = (if k = 0 then [] else a) → l ++ L = (if k = 0 then a else a ++ b) := by
      intro v L hv hl hat hq
      obtain ⟨A, e, ss, L, hc, hb, hat2, hr, hsub0⟩ := hv
      obtain ⟨h1, h2⟩ := RowT.of hat2 (fun i hi => RepT.mk _ _ (hr i hi) (hsub0 i hi))
      exact ⟨A, e, L, _, hat, h1, h2, hl, hq⟩
    have hat : ∀ (v : Value), [va, vb][k]? = some v → At I ad (k * 1) [v] := fun v hv => hcells.at _ fun j u hj => by
      rcases j with _ | j
      · simp at hj; subst hj; rw [Nat.mul_one, Nat.add_zero]; exact hv
      · simp at hj
    rcases (show k = 0 ∨ k = 1 by omega) with rfl | rfl
    · exact key va a ha hla (hat va rfl) (fun l hl => by simp at hl; subst hl; simp)
    · exact key vb b hb hlb (hat vb rfl) (fun l hl => by simp at hl; subst hl; simp)
  refine Does.intro Try.func137 rfl Try.ntmps137 rfl fun w0 => ?_
  refine code_seq ?_
  refine code_region ?_
  refine op_v (v_assign rfl) rfl ?_
  refine ops_nil ?_
  refine post_next ?_
  refine code_seq ?_
  refine code_region ?_
  refine op_v (v_assign rfl) rfl ?_
  refine ops_nil ?_
  refine post_next ?_
  refine code_seq ?_
  refine code_seq ?_
  refine code_region ?_
  refine op_v (v_move rfl) rfl ?_
  refine op_v (v_len Try.underlying182 rfl) rfl ?_
  refine op_v (v_move rfl) rfl ?_
  refine ops_nil ?_
  refine post_next ?_
  refine code_block ?_
  refine code_loop (fun m σ' I' δ' => ∃ k n : Nat, m = 2 - k ∧ k ≤ 2 ∧ σ' = [(0, .slice ad 2 c), (3, .int .i64 n), (9, .slice ad 2 c), (10, .int .i64 2), (11, .int .i64 k)] ∧ I = I' ∧ δ' = [] ∧ n ≤ k * 1000000) 2 [(0, .slice ad 2 c), (3, .int .i64 (0 : Nat)), (9, .slice ad 2 c), (10, .int .i64 2), (11, .int .i64 (0 : Nat))] ⟨0, 0, rfl, by omega, rfl, rfl, rfl, by omega⟩ ⟨rfl, rfl, rfl, rfl, rfl, trivial⟩ ?_
  rintro m _ _ _ ⟨k, n, rfl, hk, rfl, rfl, rfl, hn⟩
  refine code_seq ?_
  refine code_region ?_
  first | refine op_v (v_cmptA rfl rfl rfl) rfl ?_ | refine op_v (v_cmpfA rfl rfl rfl) rfl ?_ | refine op_v (v_cmp rfl rfl rfl) rfl ?_
  refine ops_nil ?_
  refine post_next ?_
  refine code_seq ?_
  refine code_cond rfl (fun hc0 => ?_) (fun hc0 => ?_)
  · have hlt : k < 2 := by have h := hc0; simp at h; omega
    obtain ⟨A, e, L, xs, hat, hcx, hrx, hll, _⟩ := hel k hlt
    refine code_skip ?_
    refine post_next ?_
    refine code_seq ?_
    refine code_block ?_
    refine code_seq ?_
    refine code_region ?_
    first | refine op_v (v_indexA Try.underlying182 sz45 rfl rfl) rfl ?_ | refine op_v (v_indexIA Try.underlying182 sz45 rfl rfl) rfl ?_
    first | refine op_v (v_loadI0 ty45 (hat) rfl rfl rfl) rfl ?_ | refine op_v (v_loadI ty45 (hat) rfl rfl rfl) rfl ?_
    refine op_v (v_assign rfl) rfl ?_
    refine ops_nil ?_
    refine post_next ?_
    refine code_seq ?_
    refine code_region ?_
    refine op_v (v_move rfl) rfl ?_
    refine op_v (v_move rfl) rfl ?_
    refine op_v (v_len Try.underlying45 rfl) rfl ?_
    first | refine op_v (v_addb rfl rfl rfl (by omega)) rfl ?_ | refine op_v (v_add rfl rfl) rfl ?_
    refine op_v (v_assign rfl) rfl ?_
    refine ops_nil ?_
    refine post_next ?_
    refine code_seq ?_
    refine code_region ?_
    refine op_v (v_move rfl) rfl ?_
    refine op_v (v_cmpf rfl rfl rfl (by omega)) rfl ?_
    refine ops_nil ?_
    refine post_next ?_
    refine code_cond_f rfl ?_
    refine code_skip ?_
    refine post_out ?_
    refine post_next ?_
    refine code_region ?_
    first | refine op_v (v_addb rfl rfl rfl (by omega)) rfl ?_ | refine op_v (v_add rfl rfl) rfl ?_
    refine op_v (v_move rfl) rfl ?_
    refine ops_nil ?_
    refine post_again (2 - (k + 1)) [(0, .slice ad 2 c), (3, .int .i64 ((n : Int) + (L.length : Int))), (9, .slice ad 2 c), (10, .int .i64 2), (11, .int .i64 (k + 1 : Nat))] (by omega) ⟨k + 1, n + L.length, rfl, hlt, by rw [show ((n + L.length : Nat) : Int) = (n : Int) + (L.length : Int) from Int.natCast_add _ _], rfl, rfl, by omega⟩ ⟨rfl, rfl, rfl, rfl, rfl, trivial⟩
  · refine code_exit ?_
    refine post_exit_then ?_
    refine post_exit_then ?_
    refine post_exit ?_
    refine post_next ?_
    refine code_seq ?_
    refine code_region ?_
    refine op_v (v_move rfl) rfl ?_
    refine op_call pl165 rfl rfl ((Grow_does (n := n) (by omega))) Parts.none ?_
    rintro v24 I24 _ hI24 ⟨A24, c24, rfl, rfl⟩
    refine op_v (v_assign rfl) rfl ?_
    refine ops_nil ?_
    refine post_next ?_
    refine code_seq ?_
    refine code_seq ?_
    refine code_region ?_
    refine op_v (v_move rfl) rfl ?_
    refine op_v (v_len Try.underlying182 rfl) rfl ?_
    refine op_v (v_move rfl) rfl ?_
    refine ops_nil ?_
    refine post_next ?_
    refine code_block ?_
    refine code_loop (fun m σ' I' δ' => ∃ (k : Nat) (A : Option Addr) (e : Nat) (L : List T) (xs : List Value), m = 2 - k ∧ k ≤ 2 ∧ σ' = [(6, .slice A L.length e), (25, .slice ad 2 c), (26, .int .i64 2), (27, .int .i64 k)] ∧ I.le I' ∧ δ' = [tRow A e L.length xs] ∧ RowT I' xs L ∧ L = (if k = 0 then [] else if k = 1 then a else a ++ b) ∧ L.length ≤ k * 1000000) 2 [(6, .slice A24 0 c24), (25, .slice ad 2 c), (26, .int .i64 2), (27, .int .i64 (0 : Nat))] ⟨0, A24, c24, [], [], rfl, by omega, rfl, hI24, rfl, RowT.nil _, rfl, by simp⟩ ⟨rfl, rfl, rfl, rfl, trivial⟩ ?_
    rintro m _ I0 _ ⟨k, A, e, L, xs, rfl, hk, rfl, hI0, rfl, hx, hL, hll⟩
    refine code_seq ?_
    refine code_region ?_
    first | refine op_v (v_cmptA rfl rfl rfl) rfl ?_ | refine op_v (v_cmpfA rfl rfl rfl) rfl ?_ | refine op_v (v_cmp rfl rfl rfl) rfl ?_
    refine ops_nil ?_
    refine post_next ?_
    refine code_seq ?_
    refine code_cond rfl (fun hc2 => ?_) (fun hc2 => ?_)
    · have hlt : k < 2 := by have h := hc2; simp at h; omega
      obtain ⟨A2, e2, L2, xs2, hat, hcx, hrx, hll2, hq⟩ := hel k hlt
      have hLe : L = (if k = 0 then [] else a) := by rw [hL]; rcases (show k = 0 ∨ k = 1 by omega) with rfl | rfl <;> simp
      have hq2 := hq L hLe
      refine code_skip ?_
      refine post_next ?_
      refine code_seq ?_
      refine code_block ?_
      refine code_seq ?_
      refine code_region ?_
      first | refine op_v (v_indexA Try.underlying182 sz45 rfl rfl) rfl ?_ | refine op_v (v_indexIA Try.underlying182 sz45 rfl rfl) rfl ?_
      first | refine op_v (v_loadI0 ty45 (hat.mono hI0) rfl rfl rfl) rfl ?_ | refine op_v (v_loadI ty45 (hat.mono hI0) rfl rfl rfl) rfl ?_
      refine op_v (v_assign rfl) rfl ?_
      refine ops_nil ?_
      refine post_next ?_
      refine code_region ?_
      refine op_v (v_move rfl) rfl ?_
      refine op_v (v_move rfl) rfl ?_
      refine o_append Try.underlying45 bs47 rfl rfl rfl (fun v' => by repeat (first | exact Swap.here | apply Swap.there)) (Src.ofI (hcx.mono hI0)) hrx.1 hrx.one1 (by omega) (by omega) (fun a33 c33 => ?_)
      have hl3 : L.length + L2.length = (L ++ L2).length := by simp
      refine op_v (v_assign rfl) rfl ?_
      refine ops_nil ?_
      refine post_out ?_
      refine post_next ?_
      refine code_region ?_
      first | refine op_v (v_addb rfl rfl rfl (by omega)) rfl ?_ | refine op_v (v_add rfl rfl) rfl ?_
      refine op_v (v_move rfl) rfl ?_
      refine ops_nil ?_
      refine post_again (2 - (k + 1)) [(6, .slice a33 (L.length + L2.length) c33), (25, .slice ad 2 c), (26, .int .i64 2), (27, .int .i64 (k + 1 : Nat))] (by omega) ⟨k + 1, a33, c33, L ++ L2, xs ++ xs2, rfl, hlt, by rw [hl3], Imm.leA, by simp only [tRow, ← hl3], hx.app (hrx.mono hI0), by rw [hq2]; rcases (show k = 0 ∨ k = 1 by omega) with rfl | rfl <;> simp, by rw [← hl3]; omega⟩ ⟨rfl, rfl, rfl, rfl, trivial⟩
    · refine code_exit ?_
      refine post_exit_then ?_
      refine post_exit_then ?_
      refine post_exit ?_
      refine post_next ?_
      refine code_seq ?_
      refine code_region ?_
      refine OpsJ.freezeRow Del.here ?_
      rintro I35 A35 c35 hI35 hvr hcr hlr hcells35
      cases hvr
      have hk2 : ¬ k < 2 := by have h := hc2; simp at h; omega
      have hLab : L = a ++ b := by rw [hL]; rw [show k = 2 by omega]; rfl
      refine op_v (v_move rfl) rfl ?_
      refine op_v (v_assign rfl) rfl ?_
      refine ops_nil ?_
      refine post_next ?_
      refine code_ret ?_
      refine post_ret (rs := [.tmp 2]) rfl (List.Perm.refl _) (.cons (.tmp rfl) .nil) (List.nil_sublist _) ?_
      exact ⟨by rw [← hLab]; exact RowT.repS rfl hcells35 (hx.mono hI35) hcr (by omega), rfl⟩
theorem Multi_does {I : Imm} {vg va vb : Value} {gs : List Sy} {a b : List T} (hg : RepG I vg gs) (ha : RepS I va a) (hb : RepS I vb b) (hsa : ∀ t ∈ a, t.size ≤ 1000000000) (hsb : ∀ t ∈ b, t.size ≤ 1000000000) (hla : a.length ≤ 1000000) (hlb : b.length ≤ 1000000) :
    Does Try.prog 97 [vg, va, vb] I [] (fun v _ δ' => v = .tuple #[.int .i64 (if wrongG gs (a ++ b) = 0 then mulG gs a b else 0), .int .i64 (wrongG gs (a ++ b))] ∧ δ' = []) := by
  obtain ⟨aa, ac, rfl⟩ := ha.shape
  obtain ⟨ba, bc, rfl⟩ := hb.shape
  have hl1 := rsL_len a b
  have hl2 := rsL_len b a
  refine Does.intro Try.func97 rfl Try.ntmps97 rfl fun w0 => ?_
  refine code_seq ?_
  refine code_region ?_
  refine op_v (v_assign rfl) rfl ?_
  refine op_v (v_assign rfl) rfl ?_
  refine ops_nil ?_
  refine post_next ?_
  refine code_seq ?_
  refine code_seq ?_
  refine code_region ?_
  refine op_v (v_move rfl) rfl ?_
  refine op_v (v_move rfl) rfl ?_
  refine op_v (v_move rfl) rfl ?_
  refine o_buildSlice (xs := [(Go.Operand.tmp 12), (Go.Operand.tmp 13)]) Try.underlying182 bs45 rfl rfl rfl rfl rfl (fun b14 => ?_)
  refine OpsJ.freezeRow Del.here ?_
  rintro I14 a14 c14 hI14 hq hc14 hl14 hcells14
  cases hq
  refine op_call pl137 rfl rfl ((Concat_does hcells14 (ha.mono hI14) (hb.mono hI14) hla hlb)) Parts.none ?_
  rintro v15 I15 _ hI15 ⟨hv15, rfl⟩
  refine op_call pl136 rfl rfl ((wrong_does (hg.mono Imm.leA) hv15 (fun t ht => by rcases List.mem_append.1 ht with h | h; exact hsa t h; exact hsb t h))) Parts.none ?_
  rintro v16 I16 _ hI16 ⟨rfl, rfl⟩
  refine op_v (v_assign rfl) rfl ?_
  refine ops_nil ?_
  refine post_next ?_
  refine code_seq ?_
  refine code_region ?_
  refine op_v (v_move rfl) rfl ?_
  by_cases h18 : wrongG gs (a ++ b) ≠ 0
  · first | refine op_v (v_cmptA rfl rfl rfl) rfl ?_ | refine op_v (v_cmpfA rfl rfl rfl) rfl ?_ | refine op_v (v_cmp rfl rfl rfl) rfl ?_
    refine ops_nil ?_
    refine post_next ?_
    refine code_cond_t rfl ?_
    refine code_seq ?_
    refine code_region ?_
    refine op_v (v_move rfl) rfl ?_
    refine op_v (v_assign rfl) rfl ?_
    refine op_v (v_assign rfl) rfl ?_
    refine ops_nil ?_
    refine post_next ?_
    refine code_ret ?_
    refine post_ret_then ?_
    refine post_ret (rs := [.tmp 6, .tmp 7]) rfl (List.Perm.refl _) (.cons (.tmp rfl) (.cons (.tmp rfl) .nil)) (List.nil_sublist _) ?_
    exact ⟨by rw [if_neg h18]; rfl, rfl⟩
  · have h0 : wrongG gs (a ++ b) = 0 := by omega
    have hall := wrongG_ok.1 h0
    have hoa : ∀ t ∈ a, OkG gs t := fun t ht => hall t (List.mem_append_left _ ht)
    have hob : ∀ t ∈ b, OkG gs t := fun t ht => hall t (List.mem_append_right _ ht)
    first | refine op_v (v_cmptA rfl rfl rfl) rfl ?_ | refine op_v (v_cmpfA rfl rfl rfl) rfl ?_ | refine op_v (v_cmp rfl rfl rfl) rfl ?_
    refine ops_nil ?_
    refine post_next ?_
    refine code_cond_f rfl ?_
    refine code_skip ?_
    refine post_next ?_
    refine code_seq ?_
    refine code_region ?_
    refine op_v (v_move rfl) rfl ?_
    refine op_v (v_move rfl) rfl ?_
    refine op_call pl138 rfl rfl ((rest_does (ha.mono Imm.leA) (hb.mono Imm.leA) hsa hsb hla hlb)) Parts.none ?_
    rintro v22 I22 _ hI22 ⟨hv22, rfl⟩
    obtain ⟨xa, xc, rfl⟩ := hv22.shape
    refine op_v (v_move rfl) rfl ?_
    refine op_v (v_move rfl) rfl ?_
    refine op_call pl138 rfl rfl ((rest_does (hb.mono Imm.leA) (ha.mono Imm.leA) hsb hsa hlb hla)) Parts.none ?_
    rintro v25 I25 _ hI25 ⟨hv25, rfl⟩
    obtain ⟨ya, yc, rfl⟩ := hv25.shape
    refine op_v (v_assign rfl) rfl ?_
    refine op_v (v_assign rfl) rfl ?_
    refine ops_nil ?_
    refine post_next ?_
    refine code_seq ?_
    refine code_block ?_
    refine code_seq ?_
    refine code_region ?_
    refine op_v (v_move rfl) rfl ?_
    refine op_v (v_len Try.underlying45 rfl) rfl ?_
    refine op_v (v_move rfl) rfl ?_
    refine op_v (v_len Try.underlying45 rfl) rfl ?_
    first | refine op_v (v_addb rfl rfl rfl (by omega)) rfl ?_ | refine op_v (v_add rfl rfl) rfl ?_
    by_cases h32 : (rsL a b).length + (rsL b a).length = 0
    · first | refine op_v (v_cmptA rfl rfl rfl) rfl ?_ | refine op_v (v_cmpfA rfl rfl rfl) rfl ?_ | refine op_v (v_cmp rfl rfl rfl) rfl ?_
      refine op_v (v_assign rfl) rfl ?_
      refine ops_nil ?_
      refine post_next ?_
      refine code_cond_t rfl ?_
      refine code_seq ?_
      refine code_region ?_
      refine op_v (v_assign rfl) rfl ?_
      refine op_v (v_assign rfl) rfl ?_
      refine ops_nil ?_
      refine post_next ?_
      refine code_ret ?_
      refine post_ret_block ?_
      refine post_ret_then ?_
      refine post_ret (rs := [.tmp 6, .tmp 7]) rfl (List.Perm.refl _) (.cons (.tmp rfl) (.cons (.tmp rfl) .nil)) (List.nil_sublist _) ?_
      exact ⟨by rw [if_pos h0, h0]; simp only [outV, mulG]; rw [if_pos h32], rfl⟩
    · first | refine op_v (v_cmptA rfl rfl rfl) rfl ?_ | refine op_v (v_cmpfA rfl rfl rfl) rfl ?_ | refine op_v (v_cmp rfl rfl rfl) rfl ?_
      refine op_v (v_assign rfl) rfl ?_
      refine ops_nil ?_
      refine post_next ?_
      refine code_cond_f rfl ?_
      refine code_seq ?_
      refine code_region ?_
      refine op_v (v_move rfl) rfl ?_
      refine op_v (v_move rfl) rfl ?_
      refine op_v (v_move rfl) rfl ?_
      refine op_call pl139 rfl rfl ((over_does (hg.mono Imm.leA) (hv22.mono Imm.leA) (hv25.mono Imm.leA) (fun t ht => hoa t (rsL_mem ht)) (fun t ht => hob t (rsL_mem ht)))) Parts.none ?_
      rintro v37 I37 _ hI37 ⟨rfl, rfl⟩
      refine op_v (v_assign rfl) rfl ?_
      refine ops_nil ?_
      refine post_next ?_
      refine code_cond rfl (fun hc2 => ?_) (fun hc2 => ?_)
      · have h37 : overL gs (rsL a b) (rsL b a) = true := hc2
        refine code_seq ?_
        refine code_region ?_
        refine op_v (v_assign rfl) rfl ?_
        refine op_v (v_assign rfl) rfl ?_
        refine ops_nil ?_
        refine post_next ?_
        refine code_ret ?_
        refine post_ret_block ?_
        refine post_ret_then ?_
        refine post_ret (rs := [.tmp 6, .tmp 7]) rfl (List.Perm.refl _) (.cons (.tmp rfl) (.cons (.tmp rfl) .nil)) (List.nil_sublist _) ?_
        exact ⟨by rw [if_pos h0, h0]; simp only [outV, mulG]; rw [if_neg h32, if_pos h37], rfl⟩
      · have h37 : ¬ overL gs (rsL a b) (rsL b a) = true := by rw [hc2]; simp
        refine code_seq ?_
        refine code_region ?_
        refine op_v (v_move rfl) rfl ?_
        refine op_v (v_move rfl) rfl ?_
        refine op_v (v_move rfl) rfl ?_
        refine op_call pl139 rfl rfl ((over_does (hg.mono Imm.leA) (hv25.mono Imm.leA) (hv22.mono Imm.leA) (fun t ht => hob t (rsL_mem ht)) (fun t ht => hoa t (rsL_mem ht)))) Parts.none ?_
        rintro v42 I42 _ hI42 ⟨rfl, rfl⟩
        refine op_v (v_assign rfl) rfl ?_
        refine ops_nil ?_
        refine post_next ?_
        refine code_cond rfl (fun hc3 => ?_) (fun hc3 => ?_)
        · have h42 : overL gs (rsL b a) (rsL a b) = true := hc3
          refine code_seq ?_
          refine code_region ?_
          refine op_v (v_assign rfl) rfl ?_
          refine op_v (v_assign rfl) rfl ?_
          refine ops_nil ?_
          refine post_next ?_
          refine code_ret ?_
          refine post_ret_block ?_
          refine post_ret_then ?_
          refine post_ret (rs := [.tmp 6, .tmp 7]) rfl (List.Perm.refl _) (.cons (.tmp rfl) (.cons (.tmp rfl) .nil)) (List.nil_sublist _) ?_
          exact ⟨by rw [if_pos h0, h0]; simp only [outV, mulG]; rw [if_neg h32, if_neg h37, if_pos h42], rfl⟩
        · have h42 : ¬ overL gs (rsL b a) (rsL a b) = true := by rw [hc3]; simp
          refine code_skip ?_
          refine post_out ?_
          refine post_next ?_
          refine code_seq ?_
          refine code_region ?_
          refine op_v (v_assign rfl) rfl ?_
          refine op_v (v_assign rfl) rfl ?_
          refine ops_nil ?_
          refine post_next ?_
          refine code_ret ?_
          refine post_ret (rs := [.tmp 6, .tmp 7]) rfl (List.Perm.refl _) (.cons (.tmp rfl) (.cons (.tmp rfl) .nil)) (List.nil_sublist _) ?_
          exact ⟨by rw [if_pos h0, h0]; simp only [outV, mulG]; rw [if_neg h32, if_neg h37, if_neg h42], rfl⟩
end Go.Proofs.Ytdbadicpbmndbaa
/- The rules of the logic: pointers against nil, division, entries that are taken out of a map. No condition. -/
set_option linter.unusedVariables false
set_option linter.unusedSimpArgs false
namespace Go.Proofs.Ytdbadicpbmndbaa.Lg
open Go Go.RowKit

variable {C : Ctx} {Q : Exit → Act → World → Prop} {σ : Env} {ds : List Nat} {I : Imm} {δ : List Ent} {ops : Array Oper} {rest : List Oper}
variable {d : Nat} {ty : TypeId} {pos : String} {after : Array Edge}

theorem v_ptrq {op : BinOp} {t e : TypeId} {t' : TypeId} {x y : Operand} {p : Option Addr} {z : Bool} (ht : C.P.underlying t = some (.pointer e))
    (hx : evS σ x = some (.pointer p)) (hy : evS σ y = some (.pointer none)) (hz : cmpN op p = some z) : ValJ C σ ds I δ (.binOp op t x y t') (.bool z) :=
  v_bin hx hy (fun w => by unfold eqGuard; cases op <;> rfl) (fun w => by
    have hu : (underlying t).run C.P w = .ok (.pointer e) w := by simp [underlying, program, Sem.run, ht]
    have he : (Op.equal t (.pointer p) (.pointer none)).run C.P w = .ok p.isNone w := by
      show (Op.equalIn (9999 + 1) t (.pointer p) (.pointer none)).run C.P w = _
      rw [Op.equalIn]
      simp only [Sem.run_bind, hu, Result.andThen]
      cases p <;> rfl
    have h2 : ∀ f : Bool → Bool, (do pure (Value.bool (f (← Op.equal t (.pointer p) (.pointer none)))) : Sem Value).run C.P w = .ok (.bool (f p.isNone)) w := fun f => by simp only [Sem.run_bind, he, Result.andThen]; rfl
    cases op <;> simp only [cmpN, Option.some.injEq, reduceCtorEq] at hz
    · subst hz; exact h2 id
    · subst hz; have := h2 not; cases p <;> exact this)
theorem v_quob {t t' : TypeId} {x y : Operand} {a b c : Int} (hx : evS σ x = some (.int .i64 a)) (hy : evS σ y = some (.int .i64 b)) (hn : b ≠ 0) (hc : a.tdiv b = c) (hb : -9223372036854775808 ≤ c ∧ c ≤ 9223372036854775807) : ValJ C σ ds I δ (.binOp .quo t x y t') (.int .i64 c) :=
  v_bin hx hy (fun _ => guard_int ..) (fun w => by
    show (Op.intDiv .quo .i64 a b).run C.P w = _
    unfold Op.intDiv
    rw [if_neg hn]
    show Result.ok (Value.int .i64 (IntKind.i64.wrap (a.tdiv b))) w = _
    rw [hc, wrap_id hb])
theorem v_remb {t t' : TypeId} {x y : Operand} {a b c : Int} (hx : evS σ x = some (.int .i64 a)) (hy : evS σ y = some (.int .i64 b)) (hn : b ≠ 0) (hc : a.tmod b = c) : ValJ C σ ds I δ (.binOp .rem t x y t') (.int .i64 c) :=
  v_bin hx hy (fun _ => guard_int ..) (fun w => by
    show (Op.intDiv .rem .i64 a b).run C.P w = _
    unfold Op.intDiv
    rw [if_neg hn]
    show Result.ok (Value.int .i64 (a.tmod b)) w = _
    rw [hc])

theorem map_eraseIdx' {α β : Type} (f : α → β) : ∀ (l : List α) (j : Nat), (l.eraseIdx j).map f = (l.map f).eraseIdx j
  | [], _ => rfl
  | _ :: _, 0 => rfl
  | x :: l, j + 1 => by simp [map_eraseIdx' f l j]
theorem mget_erase : ∀ (xs : Mp) (j : Nat) (k : Int), (xs.map (·.1)).Nodup → (xs.map (·.1))[j]? = some k → ∀ q, mget (xs.eraseIdx j) q = if q = k then none else mget xs q
  | [], j, k, _, h, _ => by simp at h
  | p :: r, 0, k, hn, h, q => by
    simp only [List.map_cons, List.getElem?_cons_zero, Option.some.injEq] at h
    simp only [List.map_cons, List.nodup_cons] at hn
    rw [List.eraseIdx_cons_zero]
    by_cases e : q = k
    · rw [if_pos e, mget_none, e, ← h]; exact hn.1
    · rw [if_neg e]
      obtain ⟨a, v⟩ := p
      simp only at h
      have : ¬ a = q := by rw [h]; exact fun e2 => e e2.symm
      simp [mget, this]
  | p :: r, j + 1, k, hn, h, q => by
    simp only [List.map_cons, List.getElem?_cons_succ] at h
    simp only [List.map_cons, List.nodup_cons] at hn
    rw [List.eraseIdx_cons_succ]
    obtain ⟨a, v⟩ := p
    have ha : a ≠ k := fun e => hn.1 (by rw [e]; exact List.mem_of_getElem? h)
    have ih := mget_erase r j k hn.2 h q
    by_cases e : a = q
    · have : ¬ q = k := fun e2 => ha (e.trans e2)
      simp [mget, e, this]
    · simp only [mget, e, if_false]; exact ih
theorem o_delete {t kt e : TypeId} {tk : TypeId} {m x : Operand} {b : Nat} {xs : Mp} {k : Int} {δ' : Mp → List Ent} (ht : C.P.underlying t = some (.map kt e)) (hk : C.P.underlying kt = some (.int .i64))
    (hm : evS σ m = some (.map (some b))) (hx : evS σ x = some (.int .i64 k)) (hh : ∀ ys, Swap δ (.map b xs) (δ' ys) (.map b ys)) (kk : ∀ ys, (∀ q, mget ys q = if q = k then none else mget xs q) → OpsJ C ops Q rest σ ds I (δ' ys)) :
    OpsJ C ops Q ({ dst := none, op := .call { callee := .builtin .delete, args := #[m, x], argTypes := #[t, tk] }, type := ty, pos := pos, after := after, guard := none } :: rest) σ ds I δ :=
  op_actv rfl rfl (by intro c hc; cases hc) (fun a w he hs => by
    obtain ⟨l, r, hl1, hl2⟩ := (hh []).split
    obtain ⟨es, clock, hb, hmi⟩ := hs.ents (.map b xs) (by rw [hl1]; simp)
    have hu : (underlying t).run C.P w = .ok (.map kt e) w := by simp [underlying, program, Sem.run, ht]
    have hc : (Instr.checkKey es.isEmpty 10000 kt (.int .i64 k)).run C.P w = .ok () w := MapKept.run_checkKey (w := w) hk (k := .int .i64 k) rfl es.isEmpty 9999
    rcases find_mp es.toList xs k 0 hmi.kv with ⟨g1, g2, g3⟩ | ⟨j, v0, e', g1, g2, g3, g4, g5, g6⟩
    · have hf := MapKept.run_findKey (w := w) hk g2
      have hset := MapKept.heap_set (o' := .map es clock) hb
      obtain ⟨s', t'⟩ := hs.swap (w' := { w with heap := w.heap.setIfInBounds b (.map es clock) }) (hh xs) rfl rfl rfl (by simp) (fun c _ hc => hset.2 c (fun e => hc (by rw [e]; rfl))) ⟨_, _, hset.1, hmi⟩ (fun c hc => .inl hc)
      refine ⟨.tuple #[], _, I, _, ?_, s', t', kk xs (fun q => by split; (rename_i hq; rw [hq]; exact g1); rfl)⟩
      simp [execOp, resolve, invoke, builtin, Builtin.delete_, he.ev hm, he.ev hx, hu, MapKept.run_getObj_map hb, hc, hf, MapKept.run_setObj_map _ hb, Result.andThen]
    · have hf := MapKept.run_findKey (w := w) hk g2
      simp only [Nat.zero_add] at hf
      have hlt : j < es.size := by simpa using (List.getElem?_eq_some_iff.1 g3).1
      have hel : (es.eraseIdxIfInBounds j).toList = es.toList.eraseIdx j := by simp [Array.eraseIdxIfInBounds, hlt]
      have hkj : (xs.map (·.1))[j]? = some k := by
        have := congrArg (fun l => l[j]?) hmi.kv
        simp only [List.getElem?_map, g3, Option.map_some] at this
        cases hx : xs[j]? with
        | none => simp [hx] at this
        | some p => simp [hx, g4] at this; simp [hx, this]
      have hmi' : MapIs (es.eraseIdxIfInBounds j) clock (xs.eraseIdx j) := by
        refine ⟨?_, ?_, ?_, ?_⟩
        · rw [hel, map_eraseIdx', map_eraseIdx', hmi.kv]
        · rw [map_eraseIdx']; exact hmi.keys.sublist (List.eraseIdx_sublist _ _)
        · rw [hel, map_eraseIdx']; exact hmi.born.sublist (List.eraseIdx_sublist _ _)
        · intro x hx; rw [hel] at hx; exact hmi.old x (List.mem_of_mem_eraseIdx hx)
      have hset := MapKept.heap_set (o' := .map (es.eraseIdxIfInBounds j) clock) hb
      obtain ⟨s', t'⟩ := hs.swap (w' := { w with heap := w.heap.setIfInBounds b (.map (es.eraseIdxIfInBounds j) clock) }) (hh (xs.eraseIdx j)) rfl rfl rfl (by simp) (fun c _ hc => hset.2 c (fun e => hc (by rw [e]; rfl))) ⟨_, _, hset.1, hmi'⟩ (fun c hc => .inl hc)
      refine ⟨.tuple #[], _, I, _, ?_, s', t', kk _ (mget_erase xs j k hmi.keys hkj)⟩
      simp [execOp, resolve, invoke, builtin, Builtin.delete_, he.ev hm, he.ev hx, hu, MapKept.run_getObj_map hb, hc, hf, MapKept.run_setObj_map _ hb, Result.andThen])
/-! ### acts that leave all that some floats of a region look at -/
def keepP (l : List Nat) (A : List Ent) (i : Nat) : List Ent := bif l.elem i then A else []
theorem keepP_sub {l : List Nat} {A : List Ent} (h : A.Sublist δ) (i : Nat) : (keepP l A i).Sublist δ := by
  unfold keepP; cases l.elem i
  · exact List.nil_sublist _
  · exact h
theorem keepP_mem {l : List Nat} {A : List Ent} (h : ∀ x ∈ A, x ∈ δ) (i : Nat) : ∀ x ∈ keepP l A i, x ∈ δ := by
  intro x hx; unfold keepP at hx
  cases hq : l.elem i
  · rw [hq] at hx; cases hx
  · rw [hq] at hx; exact h x hx
theorem side_P {Ib : Imm} {l : List Nat} {A : List Ent} {pend : Pend} (hp : pend.all (fun p => !(l.elem p.1)) = true) (h1 : Ib.le I) : Side Ib I (keepP l A) pend δ := fun p hm => by
  have := List.all_eq_true.1 hp p hm
  simp only [Bool.not_eq_true'] at this
  refine ⟨h1, fun x hx => ?_⟩
  unfold keepP at hx
  rw [this] at hx; cases hx
end Go.Proofs.Ytdbadicpbmndbaa.Lg
/- Rows of things of one kind, in memory. Plain definitions and theorems; no condition. -/
set_option linter.unusedVariables false
set_option linter.unusedSimpArgs false
namespace Go.Proofs.Ytdbadicpbmndbaa
open Go Lg

/-- how one thing lies in so many cells -/
structure Elt (n : Nat) (α : Type) where
  R : Imm → α → List Value → Prop
  len : ∀ {I : Imm} {a : α} {vs : List Value}, R I a vs → vs.length = n
  one : ∀ {I : Imm} {a : α} {vs : List Value}, R I a vs → ∀ u ∈ vs, u.oneCell' = true
  mono : ∀ {I J : Imm} {a : α} {vs : List Value}, I.le J → R I a vs → R J a vs
section
variable {n : Nat} {α : Type} {E : Elt n α} {I J : Imm}
def RowE (E : Elt n α) (I : Imm) : List Value → List α → Prop
  | xs, [] => xs = []
  | xs, a :: al => ∃ vs ys, xs = vs ++ ys ∧ E.R I a vs ∧ RowE E I ys al
theorem RowE.nil : RowE E I [] [] := rfl
theorem RowE.length : ∀ {al : List α} {xs : List Value}, RowE E I xs al → xs.length = al.length * n
  | [], xs, h => by have : xs = [] := h; simp [this]
  | a :: al, xs, h => by
    obtain ⟨vs, ys, rfl, h1, h2⟩ := h
    have := E.len h1
    have := RowE.length h2
    rw [List.length_append, List.length_cons, Nat.succ_mul]; omega
theorem RowE.one1 : ∀ {al : List α} {xs : List Value}, RowE E I xs al → ∀ u ∈ xs, u.oneCell' = true
  | [], xs, h => by have : xs = [] := h; simp [this]
  | a :: al, xs, h => by
    obtain ⟨vs, ys, rfl, h1, h2⟩ := h
    intro u hu
    rcases List.mem_append.1 hu with q | q
    · exact E.one h1 u q
    · exact RowE.one1 h2 u q
theorem RowE.mono : ∀ {al : List α} {xs : List Value}, RowE E I xs al → I.le J → RowE E J xs al
  | [], xs, h, _ => h
  | a :: al, xs, h, hl => by
    obtain ⟨vs, ys, rfl, h1, h2⟩ := h
    exact ⟨vs, ys, rfl, E.mono hl h1, RowE.mono h2 hl⟩
theorem RowE.app : ∀ {al bs : List α} {xs ys : List Value}, RowE E I xs al → RowE E I ys bs → RowE E I (xs ++ ys) (al ++ bs)
  | [], bs, xs, ys, h, k => by have : xs = [] := h; subst this; exact k
  | a :: al, bs, xs, ys, h, k => by
    obtain ⟨vs, zs, rfl, h1, h2⟩ := h
    exact ⟨vs, zs ++ ys, by simp, h1, RowE.app h2 k⟩
theorem RowE.single {a : α} {vs : List Value} (h : E.R I a vs) : RowE E I vs [a] := ⟨vs, [], by simp, h, rfl⟩
theorem RowE.split : ∀ {al : List α} {xs : List Value} {i : Nat}, RowE E I xs al → (hi : i < al.length) → ∃ pre vs suf, xs = pre ++ (vs ++ suf) ∧ pre.length = i * n ∧ RowE E I pre (al.take i) ∧ E.R I al[i] vs ∧ RowE E I suf (al.drop (i + 1))
  | [], xs, i, h, hi => by simp at hi
  | a :: al, xs, 0, h, hi => by
    obtain ⟨vs, ys, rfl, h1, h2⟩ := h
    exact ⟨[], vs, ys, rfl, by simp, rfl, h1, h2⟩
  | a :: al, xs, i + 1, h, hi => by
    obtain ⟨vs, ys, rfl, h1, h2⟩ := h
    obtain ⟨pre, ws, suf, rfl, hl, k1, k2, k3⟩ := RowE.split (i := i) h2 (by simpa using hi)
    refine ⟨vs ++ pre, ws, suf, by simp, ?_, ⟨vs, pre, rfl, h1, k1⟩, k2, k3⟩
    rw [List.length_append, E.len h1, hl, Nat.succ_mul]; omega
theorem RowE.at {al : List α} {xs : List Value} {i : Nat} (h : RowE E I xs al) (hi : i < al.length) : ∃ vs, E.R I al[i] vs ∧ (∀ j v, vs[j]? = some v → xs[i * n + j]? = some v) ∧ ∃ r, xs.drop (i * n) = vs ++ r := by
  obtain ⟨pre, vs, suf, rfl, hl, _, h2, _⟩ := h.split hi
  refine ⟨vs, h2, fun j v hj => ?_, suf, by rw [← hl, List.drop_left]⟩
  have hlt := (List.getElem?_eq_some_iff.1 hj).1
  rw [List.getElem?_append_right (by omega), ← hl, Nat.add_sub_cancel_left, List.getElem?_append_left hlt]; exact hj
theorem RowE.cellsAt {al : List α} {xs : List Value} {ad : Option Addr} {i : Nat} (h : RowE E I xs al) (hc : Cells J ad xs) (hi : i < al.length) : ∃ vs, E.R I al[i] vs ∧ At J ad (i * n) vs := by
  obtain ⟨vs, h1, h2, _⟩ := h.at hi
  exact ⟨vs, h1, hc.at _ h2⟩
theorem RowE.take {al : List α} {xs : List Value} (h : RowE E I xs al) (k : Nat) (hk : k ≤ al.length) : RowE E I (xs.take (k * n)) (al.take k) := by
  rcases Nat.lt_or_ge k al.length with q | q
  · obtain ⟨pre, vs, suf, rfl, hl, h1, _, _⟩ := h.split q
    rw [← hl, List.take_left]; exact h1
  · have hx := h.length
    rw [List.take_of_length_le (by rw [hx]; exact Nat.mul_le_mul_right _ q), List.take_of_length_le q]; exact h
theorem RowE.drop : ∀ {al : List α} {xs : List Value} (k : Nat), RowE E I xs al → k ≤ al.length → RowE E I (xs.drop (k * n)) (al.drop k)
  | al, xs, 0, h, _ => by simpa using h
  | [], xs, k + 1, h, hk => by simp at hk
  | a :: al, xs, k + 1, h, hk => by
    obtain ⟨vs, ys, rfl, h1, h2⟩ := h
    have := RowE.drop k h2 (by simpa using hk)
    have e : (vs ++ ys).drop ((k + 1) * n) = ys.drop (k * n) := by
      rw [Nat.succ_mul, Nat.add_comm, ← E.len h1, ← List.drop_drop, List.drop_left]
    rw [e]; exact this
end
theorem stL_mid : ∀ (pre vs suf us ws : List Value) (k : Nat), Lg.stL vs k us = some ws → Lg.stL (pre ++ (vs ++ suf)) (pre.length + k) us = some (pre ++ (ws ++ suf))
  | p :: pre, vs, suf, us, ws, k, h => by
    have ih := stL_mid pre vs suf us ws k h
    show Lg.stL (p :: (pre ++ (vs ++ suf))) (pre.length + 1 + k) us = _
    rw [show pre.length + 1 + k = pre.length + k + 1 by omega]
    cases us with
    | nil =>
      have e1 : Lg.stL (p :: (pre ++ (vs ++ suf))) (pre.length + k + 1) [] = some (p :: (pre ++ (vs ++ suf))) := by simp [Lg.stL]
      have e2 : Lg.stL (pre ++ (vs ++ suf)) (pre.length + k) [] = some (pre ++ (vs ++ suf)) := by simp [Lg.stL]
      rw [e2] at ih
      rw [e1]
      simp only [Option.some.injEq] at ih
      rw [List.cons_append, ← ih]
    | cons u us =>
      simp only [Lg.stL, ih, Option.map_some, List.cons_append]
  | [], vs, suf, us, ws, k, h => by
    simp only [List.nil_append, List.length_nil, Nat.zero_add]
    induction vs generalizing us ws k with
    | nil =>
      cases us with
      | nil => simp [Lg.stL] at h; subst h; simp [Lg.stL]
      | cons u us => simp [Lg.stL] at h
    | cons v vs ih =>
      cases us with
      | nil => simp [Lg.stL] at h; subst h; simp [Lg.stL]
      | cons u us =>
        cases k with
        | zero =>
          simp only [Lg.stL, Option.map_eq_some_iff] at h
          obtain ⟨q, hq, rfl⟩ := h
          simp only [List.cons_append, Lg.stL, ih _ _ _ hq, Option.map_some]
        | succ k =>
          simp only [Lg.stL, Option.map_eq_some_iff] at h
          obtain ⟨q, hq, rfl⟩ := h
          simp only [List.cons_append, Lg.stL, ih _ _ _ hq, Option.map_some]
section
variable {n : Nat} {α : Type} {E : Elt n α} {I J : Imm}
/-- a thing is changed where it stands -/
theorem RowE.store {al : List α} {xs : List Value} {i : Nat} {b : α} (h : RowE E I xs al) (hi : i < al.length) : ∃ vs, E.R I al[i] vs ∧ (∃ r, xs.drop (i * n) = vs ++ r) ∧ ∀ k us ws, Lg.stL vs k us = some ws → E.R I b ws → ∃ ys, Lg.stL xs (i * n + k) us = some ys ∧ RowE E I ys (al.set i b) := by
  obtain ⟨pre, vs, suf, rfl, hl, h1, h2, h3⟩ := h.split hi
  refine ⟨vs, h2, ⟨suf, by rw [← hl, List.drop_left]⟩, fun k us ws hs hb => ⟨pre ++ (ws ++ suf), by rw [← hl]; exact stL_mid _ _ _ _ _ _ hs, ?_⟩⟩
  have e : al.set i b = al.take i ++ (b :: al.drop (i + 1)) := by rw [List.set_eq_take_append_cons_drop]; simp [hi]
  rw [e]
  exact h1.app ⟨ws, suf, rfl, hb, h3⟩
/-- a row that is only read -/
def RepE (E : Elt n α) (I : Imm) (v : Value) (al : List α) : Prop := ∃ (ad : Option Addr) (c : Nat) (xs : List Value), v = .slice ad al.length c ∧ al.length ≤ c ∧ al.length ≤ 1954687338211 ∧ Cells I ad xs ∧ RowE E I xs al
theorem RepE.mono {v : Value} {al : List α} (h : RepE E I v al) (hl : I.le J) : RepE E J v al := by
  obtain ⟨ad, c, xs, rfl, h1, h2, h3, h4⟩ := h
  exact ⟨ad, c, xs, rfl, h1, h2, h3.mono hl, h4.mono hl⟩
theorem RepE.nil : RepE E I (.slice none 0 0) [] := ⟨none, 0, [], rfl, Nat.le_refl _, by simp, fun j v hj => by simp at hj, rfl⟩
theorem RepE.small {v : Value} {al : List α} (h : RepE E I v al) : al.length ≤ 1954687338211 := by obtain ⟨_, _, _, _, _, h2, _⟩ := h; exact h2
end
theorem Lg.Cells.take {I : Imm} {A : Option Addr} {vs : List Value} (h : Cells I A vs) (n : Nat) : Cells I A (vs.take n) := fun j v hj => h j v (by
  rw [List.getElem?_take] at hj
  by_cases q : j < n
  · rwa [if_pos q] at hj
  · rw [if_neg q] at hj; cases hj)
theorem Lg.Cells.cut {I : Imm} {A : Option Addr} {c m size : Nat} {vs : List Value} (h : Cells I A vs) (hl : vs.length ≤ c * size) : Cells I (cutAt A c m size) (vs.drop (m * size)) := fun j v hj => by
  rw [List.getElem?_drop] at hj
  unfold cutAt
  by_cases e : c = m
  · exfalso
    have := (List.getElem?_eq_some_iff.1 hj).1
    subst e; omega
  · rw [if_neg e]
    have := h _ _ hj
    cases A with
    | none => simp [Imm.cellO] at this
    | some a => simpa [add_add] using this
section
variable {n : Nat} {α : Type} {E : Elt n α} {I J : Imm}
theorem RepE.takeR {ad : Option Addr} {c k : Nat} {xs : List Value} {al : List α} (hle : al.length ≤ c) (hb : al.length ≤ 1954687338211) (hc : Cells I ad xs) (hr : RowE E I xs al) (hk : k ≤ al.length) : RepE E I (.slice ad k c) (al.take k) :=
  ⟨ad, c, xs.take (k * n), by rw [List.length_take, Nat.min_eq_left hk], by rw [List.length_take]; omega, by rw [List.length_take]; omega, hc.take _, hr.take k hk⟩
theorem RepE.dropR {ad : Option Addr} {c k : Nat} {xs : List Value} {al : List α} (hle : al.length ≤ c) (hb : al.length ≤ 1954687338211) (hc : Cells I ad xs) (hr : RowE E I xs al) (hk : k ≤ al.length) : RepE E I (.slice (cutAt ad c k n) (al.length - k) (c - k)) (al.drop k) :=
  ⟨cutAt ad c k n, c - k, xs.drop (k * n), by rw [List.length_drop], by rw [List.length_drop]; omega, by rw [List.length_drop]; omega, hc.cut (by rw [hr.length]; exact Nat.mul_le_mul_right _ hle), hr.drop k hk⟩
end
theorem RepE.shape {n : Nat} {α : Type} {E : Elt n α} {I : Imm} {v : Value} {al : List α} (h : RepE E I v al) : ∃ ad c, v = .slice ad al.length c := by obtain ⟨ad, c, _, h, _⟩ := h; exact ⟨ad, c, h⟩
end Go.Proofs.Ytdbadicpbmndbaa
/- Literals and clauses: how they lie in memory. Plain definitions and theorems; no condition. -/
set_option linter.unusedVariables false
set_option linter.unusedSimpArgs false
namespace Go.Proofs.Ytdbadicpbmndbaa
open Go Lg

structure Li where
  neg : Bool
  l : T
  r : T
abbrev liC (x : Li) (la : Option Addr) (lc : Nat) (ra : Option Addr) (rc : Nat) : List Value := [.bool x.neg, .int .i64 x.l.head, .slice la x.l.args.length lc, .int .i64 x.r.head, .slice ra x.r.args.length rc]
/-- a literal that is only read -/
def RepL (I : Imm) (v : Value) (x : Li) : Prop := ∃ (la : Option Addr) (lc : Nat) (ra : Option Addr) (rc : Nat), v = .agg #[.bool x.neg, .int .i64 x.l.head, .slice la x.l.args.length lc, .int .i64 x.r.head, .slice ra x.r.args.length rc] ∧ RepT I (.agg #[.int .i64 x.l.head, .slice la x.l.args.length lc]) x.l ∧ RepT I (.agg #[.int .i64 x.r.head, .slice ra x.r.args.length rc]) x.r
theorem RepL.mono {I J : Imm} {v : Value} {x : Li} (h : RepL I v x) (hl : I.le J) : RepL J v x := by
  obtain ⟨la, lc, ra, rc, h1, h2, h3⟩ := h; exact ⟨la, lc, ra, rc, h1, h2.mono hl, h3.mono hl⟩
def zeroLi : Li := ⟨false, zeroT, zeroT⟩
def eqL (x y : Li) : Bool := (decide (x.l = y.l) && decide (x.r = y.r)) || (decide (x.l = y.r) && decide (x.r = y.l))
def sameL (x y : Li) : Bool := (x.neg == y.neg) && eqL x y
def oppL (x y : Li) : Bool := (!(x.neg == y.neg)) && eqL x y
def exactL (x y : Li) : Bool := (x.neg == y.neg) && (decide (x.l = y.l) && decide (x.r = y.r))
def rowL (x : Li) : List T := if x.neg = true then [x.l, x.l, x.r, x.r] else [x.l, x.r]
def fewL (x : Li) : Bool := decide (x.l.size ≤ 500) && decide (x.r.size ≤ 500)
instance : DecidableEq Li := fun a b => if h : a.neg = b.neg ∧ a.l = b.l ∧ a.r = b.r then .isTrue (by obtain ⟨h1, h2, h3⟩ := h; cases a; cases b; simp_all) else .isFalse fun e => h (by subst e; exact ⟨rfl, rfl, rfl⟩)
def LitE : Elt 5 Li where
  R := fun I x vs => ∃ (la : Option Addr) (lc : Nat) (ra : Option Addr) (rc : Nat), vs = liC x la lc ra rc ∧ RepT I (.agg #[.int .i64 x.l.head, .slice la x.l.args.length lc]) x.l ∧ RepT I (.agg #[.int .i64 x.r.head, .slice ra x.r.args.length rc]) x.r
  len := by rintro I a vs ⟨la, lc, ra, rc, rfl, _, _⟩; rfl
  one := by
    rintro I a vs ⟨la, lc, ra, rc, rfl, _, _⟩ u hu
    simp only [List.mem_cons, List.not_mem_nil, or_false] at hu
    rcases hu with rfl | rfl | rfl | rfl | rfl <;> rfl
  mono := by rintro I J a vs hl ⟨la, lc, ra, rc, rfl, h1, h2⟩; exact ⟨la, lc, ra, rc, rfl, h1.mono hl, h2.mono hl⟩
abbrev RepC (I : Imm) (v : Value) (c : List Li) : Prop := RepE LitE I v c
theorem RepL.row {I : Imm} {v : Value} {x : Li} (h : RepL I v x) : ∃ vs, v = .agg vs.toArray ∧ LitE.R I x vs := by
  obtain ⟨la, lc, ra, rc, rfl, h1, h2⟩ := h
  exact ⟨_, rfl, la, lc, ra, rc, rfl, h1, h2⟩
theorem lit_row {I : Imm} {vs : List Value} {x : Li} (h : LitE.R I x vs) : RepL I (.agg vs.toArray) x := by
  obtain ⟨la, lc, ra, rc, rfl, h1, h2⟩ := h
  exact ⟨la, lc, ra, rc, rfl, h1, h2⟩
/-- all sides -/
def sidesL (c : List Li) : List T := c.flatMap fun x => [x.l, x.r]
def TermE : Elt 2 T where
  R := fun I t vs => ∃ (a : Option Addr) (c : Nat), vs = [.int .i64 t.head, .slice a t.args.length c] ∧ RepT I (.agg #[.int .i64 t.head, .slice a t.args.length c]) t
  len := by rintro I a vs ⟨la, lc, rfl, _⟩; rfl
  one := by
    rintro I a vs ⟨la, lc, rfl, _⟩ u hu
    simp only [List.mem_cons, List.not_mem_nil, or_false] at hu
    rcases hu with rfl | rfl <;> rfl
  mono := by rintro I J a vs hl ⟨la, lc, rfl, h1⟩; exact ⟨la, lc, rfl, h1.mono hl⟩
theorem repT_head {I : Imm} {v : Value} {t : T} (h : RepT I v t) : InR t.head := by obtain ⟨s, t, hr, _⟩ := h; exact hr
theorem RowE.rowT {I : Imm} {xs : List Value} {ts : List T} (h : RowE TermE I xs ts) : RowT I xs ts := by
  refine ⟨h.length, fun i hi => ?_⟩
  obtain ⟨vs, ⟨a, c, rfl, hr⟩, hat, _⟩ := h.at hi
  exact ⟨(a, c), hat 0 _ rfl, hat 1 _ rfl, hr⟩
theorem RowE.repS {I : Imm} {ad : Option Addr} {c : Nat} {xs : List Value} {ts : List T} (h : RowE TermE I xs ts) (hc : Cells I ad xs) (hle : ts.length ≤ c) (hb : ts.length ≤ 4398046511104) : RepS I (.slice ad ts.length c) ts := by
  have := RowT.rep (h := 0) hc h.rowT (by unfold InR; omega) hle hb
  have key : ∀ (v : Value) (t : T) (s : Value), RepT I v t → v = .agg #[.int .i64 t.head, s] → RepS I s t.args := fun v t s hv e => by
    obtain ⟨s', t, hr, hs⟩ := hv
    have e' : s' = s := by simpa using e
    subst e'; exact hs
  exact key _ _ _ this rfl
theorem rowsT_rowE {I : Imm} : ∀ (ts : List T) (ss : Nat → Option Addr × Nat), (∀ i (h : i < ts.length), RepT I (.agg #[.int .i64 ts[i].head, .slice (ss i).1 ts[i].args.length (ss i).2]) ts[i]) → RowE TermE I (rowsT ts ss) ts
  | [], _, _ => rfl
  | t :: ts, ss, h => ⟨[.int .i64 t.head, .slice (ss 0).1 t.args.length (ss 0).2], _, rfl, ⟨_, _, rfl, h 0 (by simp)⟩, rowsT_rowE ts (fun i => ss (i + 1)) fun i hi => h (i + 1) (by simpa using hi)⟩
theorem RepS.rowE {I : Imm} {v : Value} {ts : List T} (h : RepS I v ts) : ∃ (A : Option Addr) (c : Nat) (xs : List Value), v = .slice A ts.length c ∧ ts.length ≤ c ∧ ts.length ≤ 4398046511104 ∧ Cells I A xs ∧ RowE TermE I xs ts := by
  obtain ⟨ad, c, ss, ts, hc, hb, hat, hr, hsub0⟩ := h
  have hsub : ∀ i (h : i < ts.length), RepT I (.agg #[.int .i64 ts[i].head, .slice (ss i).1 ts[i].args.length (ss i).2]) ts[i] := fun i hi => RepT.mk _ _ (hr i hi) (hsub0 i hi)
  exact ⟨ad, c, rowsT ts ss, rfl, hc, hb, (RowT.of hat hsub).1, rowsT_rowE ts ss hsub⟩
end Go.Proofs.Ytdbadicpbmndbaa
/- The rules of the logic: arrays as values. No condition. -/
set_option linter.unusedVariables false
set_option linter.unusedSimpArgs false
namespace Go.Proofs.Ytdbadicpbmndbaa.Lg
open Go Go.RowKit

variable {C : Ctx} {Q : Exit → Act → World → Prop} {σ : Env} {ds : List Nat} {I : Imm} {δ : List Ent} {ops : Array Oper} {rest : List Oper}
variable {d : Nat} {ty : TypeId} {pos : String} {after : Array Edge}

/-- an array's part; what the instruction yields is computed -/
theorem v_indexK {t : TypeId} {x y : Operand} {u i v : Value} (hx : evS σ x = some u) (hy : evS σ y = some i) (h : ∀ w, (Instr.index t u i).run C.P w = .ok v w) :
    ValJ C σ ds I δ (.index t x y) v :=
  fun _ _ _ _ _ a w he _ => by simp only [execOp, he.ev hx, he.ev hy, Sem.run_bind, h, Result.andThen]; rfl
/-- an array out of its parts; what the instruction yields is computed -/
theorem v_buildK {t : TypeId} {parts : List (Nat × Operand)} {vs : List (Nat × Value)} {v : Value} (hx : evP σ parts = some vs) (h : ∀ w, (Instr.build t vs.toArray).run C.P w = .ok v w) :
    ValJ C σ ds I δ (.build t parts.toArray) v :=
  fun _ _ _ _ _ a w he _ => by
    have hmap : parts.toArray.map (fun (x : Nat × Operand) => match x with | (i, x) => (i, a.eval x)) = vs.toArray := by
      rw [← evP_ok he hx]; simp
    simp only [execOp, hmap, Sem.run_bind, h, Result.andThen]; rfl
end Go.Proofs.Ytdbadicpbmndbaa.Lg
/- Walks: rows of literals: a clone, all sides, whether they are few. -/
set_option linter.unusedVariables false
set_option linter.unusedSimpArgs false
set_option linter.unnecessarySimpa false
/- short -/
namespace Go.Proofs.Ytdbadicpbmndbaa
open Go Lg

theorem CloneC_does {I : Imm} {v : Value} {c : List Li} (hv : RepC I v c) :
    Does Try.prog 58 [v] I [] (fun v I' δ' => ∃ ad' c' xs, v = .slice ad' c.length c' ∧ RowE LitE I' xs c ∧ δ' = [.row (.slice ad' c.length c') 49 5 c.length xs]) := by
  obtain ⟨ad, c0, xs, rfl, hc, hb, hcells, hrow⟩ := hv
  refine Does.intro Try.func58 rfl Try.ntmps58 rfl fun w0 => ?_
  have hxl := hrow.length
  refine code_seq ?_
  refine code_region ?_
  refine op_v (v_assign rfl) rfl ?_
  refine ops_nil ?_
  refine post_next ?_
  refine code_seq ?_
  refine code_seq ?_
  refine code_region ?_
  refine op_v (v_move rfl) rfl ?_
  refine op_v (v_nilq Try.underlying26 rfl rfl rfl) rfl ?_
  refine ops_nil ?_
  refine post_next ?_
  refine code_cond rfl (fun hc0 => ?_) (fun hc0 => ?_)
  · have had : ad = none := by simpa using hc0
    subst had
    have hn0 : c = [] := by
      rcases c with _ | ⟨x, r⟩
      · rfl
      · exfalso
        obtain ⟨vs, ⟨la, lc, ra, rc, rfl, _⟩, hat⟩ := hrow.cellsAt hcells (i := 0) (by simp)
        have := hat.isSome
        simp at this
    subst hn0
    refine code_seq ?_
    refine code_region ?_
    refine op_v (v_assign rfl) rfl ?_
    refine ops_nil ?_
    refine post_next ?_
    refine code_ret ?_
    refine post_ret_then ?_
    refine PostJ.view (View.nilRow 49 5) (post_ret (rs := [.tmp 2]) rfl (List.Perm.refl _) (.cons (.tmp rfl) .nil) (List.Sublist.refl _) ⟨none, 0, [], rfl, rfl, rfl⟩)
  · refine code_skip ?_
    refine post_next ?_
    refine code_seq ?_
    refine code_region ?_
    refine o_buildSlice (xs := []) Try.underlying26 bs49 rfl rfl rfl rfl rfl (fun b5 => ?_)
    refine op_v (v_move rfl) rfl ?_
    refine o_append Try.underlying26 bs49 rfl rfl rfl (fun v' => by repeat (first | exact Swap.here | apply Swap.there)) (Src.ofI hcells) hxl hrow.one1 (by omega) (by omega) (fun a7 c7 => ?_)
    refine op_v (v_assign rfl) rfl ?_
    refine ops_nil ?_
    refine post_next ?_
    refine code_ret ?_
    refine post_ret (rs := [.tmp 2]) rfl (List.Perm.refl _) (.cons (.tmp rfl) .nil) (List.Sublist.refl _) ?_
    refine ⟨a7, c7, xs, ?_, hrow.mono Imm.leA, ?_⟩
    · simp [outV]
    · simp [cat]
theorem sidesL_len (c : List Li) : (sidesL c).length = 2 * c.length := by
  induction c with
  | nil => rfl
  | cons x r ih => simp only [sidesL, List.flatMap_cons, List.length_append, List.length_cons, List.length_nil] at ih ⊢; omega
theorem sidesL_take (c : List Li) (k : Nat) (h : k < c.length) : sidesL (c.take (k + 1)) = sidesL (c.take k) ++ [c[k].l, c[k].r] := by
  rw [List.take_succ_eq_append_getElem h]; simp only [sidesL, List.flatMap_append, List.flatMap_cons, List.flatMap_nil, List.append_nil]
theorem Terms_does {I : Imm} {v : Value} {c : List Li} (hv : RepC I v c) :
    Does Try.prog 39 [v] I [] (fun v I' δ' => RepS I' v (sidesL c) ∧ δ' = []) := by
  obtain ⟨ad, c0, xs, rfl, hc, hb, hcells, hrow⟩ := hv
  refine Does.intro Try.func39 rfl Try.ntmps39 rfl fun w0 => ?_
  refine code_seq ?_
  refine code_region ?_
  refine op_v (v_assign rfl) rfl ?_
  refine ops_nil ?_
  refine post_next ?_
  refine code_seq ?_
  refine code_region ?_
  refine op_v (v_assign rfl) rfl ?_
  refine ops_nil ?_
  refine post_next ?_
  refine code_seq ?_
  refine code_seq ?_
  refine code_region ?_
  refine op_v (v_assign rfl) rfl ?_
  refine ops_nil ?_
  refine post_next ?_
  refine code_block ?_
  refine CodeJ.view (View.nilRow 47 2) ?_
  refine code_loop (fun m σ' I' δ' => ∃ (k : Nat) (A : Option Addr) (c' : Nat) (ys : List Value), m = c.length - k ∧ k ≤ c.length ∧ σ' = [(0, .slice ad c.length c0), (3, .slice A (2 * k) c'), (4, .int .i64 k)] ∧ I = I' ∧ δ' = [.row (.slice A (2 * k) c') 47 2 (2 * k) ys] ∧ RowE TermE I ys (sidesL (c.take k))) c.length [(0, .slice ad c.length c0), (3, .slice none (2 * 0) 0), (4, .int .i64 (0 : Nat))] ⟨0, none, 0, [], rfl, Nat.zero_le _, rfl, rfl, rfl, rfl⟩ ⟨rfl, rfl, rfl, trivial⟩ ?_
  rintro m _ _ _ ⟨k, A, c', ys, rfl, hk, rfl, rfl, rfl, hys⟩
  refine code_seq ?_
  refine code_seq ?_
  refine code_region ?_
  refine op_v (v_move rfl) rfl ?_
  refine op_v (v_move rfl) rfl ?_
  refine op_v (v_len Try.underlying26 rfl) rfl ?_
  first | refine op_v (v_cmptA rfl rfl rfl) rfl ?_ | refine op_v (v_cmpfA rfl rfl rfl) rfl ?_ | refine op_v (v_cmp rfl rfl rfl) rfl ?_
  refine ops_nil ?_
  refine post_next ?_
  refine code_cond rfl (fun hc0 => ?_) (fun hc0 => ?_)
  · have hlt : k < c.length := by simpa using hc0
    obtain ⟨vs, ⟨la, lc, ra, rc, rfl, hl, hr⟩, hat⟩ := hrow.cellsAt hcells hlt
    have hs1 := hat.isSome
    refine code_skip ?_
    refine post_next ?_
    refine code_seq ?_
    refine code_block ?_
    refine code_draw (.fl 0 (.fl 1 (.fl 2 (.fl 3 (.fl 4 (.fl 5 (.fl 6 (.fl 7 (.fl 8 (.fl 9 (.fl 10 (.ef 11 (.ef 12 (.ef 13 .done)))))))))))))) (fun _ => ([] : List Ent)) mixed (by kernel_rfl) (by kernel_rfl) (fun _ => (List.nil_sublist _)) ?_
    refine e_fl rfl rfl (fun hs_ => PF.mk rfl (v_move rfl) hs_) ?_
    refine e_fl rfl rfl (fun hs_ => PF.mk rfl (v_move rfl) hs_) ?_
    refine e_fl rfl rfl (fun hs_ => PF.mk rfl (v_move rfl) hs_) ?_
    first | refine e_fl rfl rfl (fun hs_ => PF.mk rfl (v_indexA Try.underlying26 sz49 rfl rfl) hs_) ?_ | refine e_fl rfl rfl (fun hs_ => PF.mk rfl (v_indexIA Try.underlying26 sz49 rfl rfl) hs_) ?_
    first | refine e_fl rfl rfl (fun hs_ => PF.mk rfl (v_fieldB 1 Try.underlying49 rfl rfl fz47 rfl) hs_) ?_ | refine e_fl rfl rfl (fun hs_ => PF.mk rfl (v_fieldI 1 Try.underlying49 rfl rfl fz47 rfl (by assumption)) hs_) ?_ | refine e_fl rfl rfl (fun hs_ => PF.mk rfl (v_field Try.underlying49 rfl fz47 rfl rfl) hs_) ?_
    refine e_fl rfl rfl (fun hs_ => PF.mk rfl (v_loadI (k := 1) ty47 hat rfl rfl rfl) hs_) ?_
    refine e_fl rfl rfl (fun hs_ => PF.mk rfl (v_move rfl) hs_) ?_
    refine e_fl rfl rfl (fun hs_ => PF.mk rfl (v_move rfl) hs_) ?_
    first | refine e_fl rfl rfl (fun hs_ => PF.mk rfl (v_indexA Try.underlying26 sz49 rfl rfl) hs_) ?_ | refine e_fl rfl rfl (fun hs_ => PF.mk rfl (v_indexIA Try.underlying26 sz49 rfl rfl) hs_) ?_
    first | refine e_fl rfl rfl (fun hs_ => PF.mk rfl (v_fieldB 3 Try.underlying49 rfl rfl fz47 rfl) hs_) ?_ | refine e_fl rfl rfl (fun hs_ => PF.mk rfl (v_fieldI 3 Try.underlying49 rfl rfl fz47 rfl (by assumption)) hs_) ?_ | refine e_fl rfl rfl (fun hs_ => PF.mk rfl (v_field Try.underlying49 rfl fz47 rfl rfl) hs_) ?_
    refine e_fl rfl rfl (fun hs_ => PF.mk rfl (v_loadI (k := 3) ty47 hat rfl rfl rfl) hs_) ?_
    refine e_eff rfl (by intro cs b hc; cases hc) (by intro c hc; cases hc) ?_
    refine o_buildSlice (xs := [(Go.Operand.tmp 16), (Go.Operand.tmp 21)]) Try.underlying45 bs47 rfl rfl rfl rfl rfl (fun b22 => ?_)
    refine ops_nil ?_
    refine e_next rfl side_allA ?_
    refine e_eff rfl (by intro cs b hc; cases hc) (by intro c hc; cases hc) ?_
    refine o_append Try.underlying45 bs47 rfl rfl rfl (fun v' => by repeat (first | exact Swap.here | apply Swap.there)) (Src.ofRow (by repeat (first | exact Has.here | apply Has.there)) rfl) (by first | rfl | omega | simp) (by simp [cat, cellsL, Value.oneCell']) (by omega) (by omega) (fun a23 c23 => ?_)
    refine ops_nil ?_
    refine e_next rfl side_allA ?_
    refine e_eff rfl (by intro cs b hc; cases hc) (by intro c hc; cases hc) ?_
    refine op_v (v_assign rfl) rfl ?_
    refine ops_nil ?_
    refine e_next rfl (side_nil (by kernel_rfl)) ?_
    refine e_done ?_
    refine post_out ?_
    refine post_next ?_
    refine code_region ?_
    refine op_v (v_move rfl) rfl ?_
    first | refine op_v (v_addb rfl rfl rfl (by omega)) rfl ?_ | refine op_v (v_add rfl rfl) rfl ?_
    refine op_v (v_assign rfl) rfl ?_
    refine ops_nil ?_
    refine PostJ.view (View.drop Del.here) ?_
    refine post_again (c.length - (k + 1)) [(0, .slice ad c.length c0), (3, .slice a23 (2 * (k + 1)) c23), (4, .int .i64 (k + 1 : Nat))] (by omega) ⟨k + 1, a23, c23, ys ++ [.int .i64 c[k].l.head, .slice la c[k].l.args.length lc, .int .i64 c[k].r.head, .slice ra c[k].r.args.length rc], rfl, hlt, rfl, rfl, ?_, ?_⟩ ⟨rfl, rfl, rfl, trivial⟩
    · simp [cat, cellsL]; omega
    · rw [sidesL_take c k hlt]
      exact hys.app ⟨[.int .i64 c[k].l.head, .slice la c[k].l.args.length lc], [.int .i64 c[k].r.head, .slice ra c[k].r.args.length rc], rfl, ⟨la, lc, rfl, hl⟩, RowE.single ⟨ra, rc, rfl, hr⟩⟩
  · have hge : k = c.length := by simp at hc0; omega
    subst hge
    rw [List.take_length] at hys
    refine code_exit ?_
    refine post_exit_then ?_
    refine post_exit_then ?_
    refine post_exit ?_
    refine post_next ?_
    refine code_seq ?_
    refine code_region ?_
    refine OpsJ.freezeRow Del.here ?_
    rintro I24 a24 c24 hI24 hq hc24 hl24 hcells24
    cases hq
    refine op_v (v_move rfl) rfl ?_
    refine op_v (v_assign rfl) rfl ?_
    refine ops_nil ?_
    refine post_next ?_
    refine code_ret ?_
    refine post_ret (rs := [.tmp 2]) rfl (List.Perm.refl _) (.cons (.tmp rfl) .nil) (List.nil_sublist _) ?_
    refine ⟨?_, rfl⟩
    have h2 := sidesL_len c
    have := RowE.repS (c := c') (hys.mono hI24) hcells24 (by omega) (by omega)
    rw [h2] at this; exact this
theorem sizeL_getL {ts : List T} {n : Nat} (h : sizeL ts ≤ n) : ∀ x ∈ ts, x.size ≤ n := by
  intro x hx
  obtain ⟨i, hi, rfl⟩ := List.getElem_of_mem hx
  have h1 := sizeL_take ts i hi
  have h2 : sizeL (ts.take (i + 1)) + sizeL (ts.drop (i + 1)) = sizeL ts := by rw [← sizeL_app, List.take_append_drop]
  omega
theorem Few5_does {I : Imm} {v : Value} {ts : List T} (hv : RepS I v ts) :
    Does Try.prog 73 [v] I [] (fun v I' δ' => (∃ b, v = .bool b ∧ (b = true → sizeL ts ≤ 500)) ∧ δ' = []) := by
  obtain ⟨ad, c, ss, ts, hc, hb, hat, hr, hsub0⟩ := hv
  have hsub : ∀ i (h : i < ts.length), RepT I (.agg #[.int .i64 ts[i].head, .slice (ss i).1 ts[i].args.length (ss i).2]) ts[i] := fun i hi => RepT.mk _ _ (hr i hi) (hsub0 i hi)
  refine Does.intro Try.func73 rfl Try.ntmps73 rfl fun w0 => ?_
  refine code_seq ?_
  refine code_region ?_
  refine op_v (v_assign rfl) rfl ?_
  refine ops_nil ?_
  refine post_next ?_
  refine code_seq ?_
  refine code_region ?_
  refine op_v (v_assign rfl) rfl ?_
  refine ops_nil ?_
  refine post_next ?_
  refine code_seq ?_
  refine code_seq ?_
  refine code_region ?_
  refine op_v (v_assign rfl) rfl ?_
  refine ops_nil ?_
  refine post_next ?_
  refine code_block ?_
  refine code_loop (fun m σ' I' δ' => ∃ (k n : Nat), m = ts.length - k ∧ k ≤ ts.length ∧ σ' = [(0, .slice ad ts.length c), (3, .int .i64 n), (4, .int .i64 k)] ∧ I.le I' ∧ δ' = [] ∧ n ≤ 2000 ∧ (n ≤ 500 → n = sizeL (ts.take k))) ts.length [(0, .slice ad ts.length c), (3, .int .i64 (0 : Nat)), (4, .int .i64 (0 : Nat))] ⟨0, 0, rfl, Nat.zero_le _, rfl, Imm.le_refl _, rfl, by omega, fun _ => rfl⟩ ⟨rfl, rfl, rfl, trivial⟩ ?_
  rintro m _ I0 _ ⟨k, n, rfl, hk, rfl, hI0, rfl, hn, hp⟩
  refine code_seq ?_
  refine code_seq ?_
  refine code_region ?_
  refine op_v (v_move rfl) rfl ?_
  refine op_v (v_move rfl) rfl ?_
  refine op_v (v_len Try.underlying45 rfl) rfl ?_
  by_cases h7 : k < ts.length
  · have hs1 := (hat k h7).isSome
    have hst := sizeL_take ts k h7
    first | refine op_v (v_cmptA rfl rfl rfl) rfl ?_ | refine op_v (v_cmpfA rfl rfl rfl) rfl ?_ | refine op_v (v_cmp rfl rfl rfl) rfl ?_
    refine op_v (v_move rfl) rfl ?_
    first
      | (refine op_want rfl rfl ?_
         refine op_v (v_move rfl) rfl ?_)
      | (refine op_skip rfl rfl (by simp [undef]) rfl ?_)
    by_cases h16 : n ≤ 500
    · first
        | (refine op_want rfl rfl ?_
           first | refine op_v (v_cmptA rfl rfl rfl) rfl ?_ | refine op_v (v_cmpfA rfl rfl rfl) rfl ?_ | refine op_v (v_cmp rfl rfl rfl) rfl ?_)
        | (refine op_skip rfl rfl (by simp [undef]) rfl ?_)
      first | refine op_v (v_pickt rfl rfl) rfl ?_ | refine op_v (v_pickf rfl rfl) rfl ?_ | refine op_v (v_pickb rfl rfl rfl) rfl ?_
      refine ops_nil ?_
      refine post_next ?_
      refine code_cond_t rfl ?_
      refine code_skip ?_
      refine post_next ?_
      refine code_seq ?_
      refine code_block ?_
      refine code_region ?_
      refine op_v (v_move rfl) rfl ?_
      refine op_v (v_move rfl) rfl ?_
      refine op_v (v_move rfl) rfl ?_
      first | refine op_v (v_indexA Try.underlying45 sz47 rfl rfl) rfl ?_ | refine op_v (v_indexIA Try.underlying45 sz47 rfl rfl) rfl ?_
      first | refine op_v (v_loadI0 ty47 ((hat k h7).mono hI0) rfl rfl rfl) rfl ?_ | refine op_v (v_loadI ty47 ((hat k h7).mono hI0) rfl rfl rfl) rfl ?_
      refine op_call pl82 rfl rfl ((Count_does _ _ (Nat.le_refl _) 500 (by omega) _ _ ((hsub k h7).mono hI0))) Parts.none ?_
      rintro v20 I20 _ hI20 ⟨rfl, rfl⟩
      first | refine op_v (v_addb rfl rfl rfl (by omega)) rfl ?_ | refine op_v (v_add rfl rfl) rfl ?_
      refine op_v (v_assign rfl) rfl ?_
      refine ops_nil ?_
      refine post_out ?_
      refine post_next ?_
      refine code_region ?_
      refine op_v (v_move rfl) rfl ?_
      first | refine op_v (v_addb rfl rfl rfl (by omega)) rfl ?_ | refine op_v (v_add rfl rfl) rfl ?_
      refine op_v (v_assign rfl) rfl ?_
      refine ops_nil ?_
      refine post_again (ts.length - (k + 1)) [(0, .slice ad ts.length c), (3, .int .i64 ((n : Int) + ((min ts[k].size (500 + 1) : Nat) : Int))), (4, .int .i64 (k + 1 : Nat))] (by omega) ⟨k + 1, n + min ts[k].size (500 + 1), rfl, h7, by rw [show ((n + min ts[k].size (500 + 1) : Nat) : Int) = (n : Int) + ((min ts[k].size (500 + 1) : Nat) : Int) from Int.natCast_add _ _], Imm.leA, rfl, by omega, fun hq => ?_⟩ ⟨rfl, rfl, rfl, trivial⟩
      have := hp (by omega)
      omega
    · first
        | (refine op_want rfl rfl ?_
           first | refine op_v (v_cmptA rfl rfl rfl) rfl ?_ | refine op_v (v_cmpfA rfl rfl rfl) rfl ?_ | refine op_v (v_cmp rfl rfl rfl) rfl ?_)
        | (refine op_skip rfl rfl (by simp [undef]) rfl ?_)
      first | refine op_v (v_pickt rfl rfl) rfl ?_ | refine op_v (v_pickf rfl rfl) rfl ?_ | refine op_v (v_pickb rfl rfl rfl) rfl ?_
      refine ops_nil ?_
      refine post_next ?_
      refine code_cond_f rfl ?_
      refine code_exit ?_
      refine post_exit_then ?_
      refine post_exit_then ?_
      refine post_exit ?_
      refine post_next ?_
      refine code_seq ?_
      refine code_region ?_
      refine op_v (v_move rfl) rfl ?_
      first | refine op_v (v_cmptA rfl rfl rfl) rfl ?_ | refine op_v (v_cmpfA rfl rfl rfl) rfl ?_ | refine op_v (v_cmp rfl rfl rfl) rfl ?_
      refine op_v (v_assign rfl) rfl ?_
      refine ops_nil ?_
      refine post_next ?_
      refine code_ret ?_
      refine post_ret (rs := [.tmp 2]) rfl (List.Perm.refl _) (.cons (.tmp rfl) .nil) (List.nil_sublist _) ?_
      exact ⟨⟨false, rfl, fun h => by cases h⟩, rfl⟩
  · first | refine op_v (v_cmptA rfl rfl rfl) rfl ?_ | refine op_v (v_cmpfA rfl rfl rfl) rfl ?_ | refine op_v (v_cmp rfl rfl rfl) rfl ?_
    refine op_v (v_move rfl) rfl ?_
    first
      | (refine op_want rfl rfl ?_
         refine op_v (v_move rfl) rfl ?_)
      | (refine op_skip rfl rfl (by simp [undef]) rfl ?_)
    first
      | (refine op_want rfl rfl ?_
         first | refine op_v (v_cmptA rfl rfl rfl) rfl ?_ | refine op_v (v_cmpfA rfl rfl rfl) rfl ?_ | refine op_v (v_cmp rfl rfl rfl) rfl ?_)
      | (refine op_skip rfl rfl (by simp [undef]) rfl ?_)
    first | refine op_v (v_pickt rfl rfl) rfl ?_ | refine op_v (v_pickf rfl rfl) rfl ?_ | refine op_v (v_pickb rfl rfl rfl) rfl ?_
    refine ops_nil ?_
    refine post_next ?_
    refine code_cond_f rfl ?_
    refine code_exit ?_
    refine post_exit_then ?_
    refine post_exit_then ?_
    refine post_exit ?_
    refine post_next ?_
    refine code_seq ?_
    refine code_region ?_
    refine op_v (v_move rfl) rfl ?_
    by_cases h33 : n ≤ 500
    · first | refine op_v (v_cmptA rfl rfl rfl) rfl ?_ | refine op_v (v_cmpfA rfl rfl rfl) rfl ?_ | refine op_v (v_cmp rfl rfl rfl) rfl ?_
      refine op_v (v_assign rfl) rfl ?_
      refine ops_nil ?_
      refine post_next ?_
      refine code_ret ?_
      refine post_ret (rs := [.tmp 2]) rfl (List.Perm.refl _) (.cons (.tmp rfl) .nil) (List.nil_sublist _) ?_
      exact ⟨⟨true, rfl, fun _ => by have := hp h33; rw [List.take_of_length_le (by omega)] at this; omega⟩, rfl⟩
    · first | refine op_v (v_cmptA rfl rfl rfl) rfl ?_ | refine op_v (v_cmpfA rfl rfl rfl) rfl ?_ | refine op_v (v_cmp rfl rfl rfl) rfl ?_
      refine op_v (v_assign rfl) rfl ?_
      refine ops_nil ?_
      refine post_next ?_
      refine code_ret ?_
      refine post_ret (rs := [.tmp 2]) rfl (List.Perm.refl _) (.cons (.tmp rfl) .nil) (List.nil_sublist _) ?_
      exact ⟨⟨false, rfl, fun h => by cases h⟩, rfl⟩
def FewC (c : List Li) : Prop := c.length ≤ 40 ∧ sizeL (sidesL c) ≤ 500
theorem Few10_does {I : Imm} {v : Value} {c : List Li} (hv : RepC I v c) :
    Does Try.prog 28 [v] I [] (fun v I' δ' => (∃ b, v = .bool b ∧ (b = true → FewC c)) ∧ δ' = []) := by
  obtain ⟨ad, c0, hvs⟩ : ∃ ad c0, v = .slice ad c.length c0 := by obtain ⟨ad, c0, _, h, _⟩ := hv; exact ⟨ad, c0, h⟩
  subst hvs
  have hsm := hv.small
  refine Does.intro Try.func28 rfl Try.ntmps28 rfl fun w0 => ?_
  refine code_seq ?_
  refine code_region ?_
  refine op_v (v_assign rfl) rfl ?_
  refine ops_nil ?_
  refine post_next ?_
  refine code_seq ?_
  refine code_region ?_
  refine op_v (v_move rfl) rfl ?_
  refine op_v (v_len Try.underlying26 rfl) rfl ?_
  by_cases h5 : c.length ≤ 40
  · first | refine op_v (v_cmptA rfl rfl rfl) rfl ?_ | refine op_v (v_cmpfA rfl rfl rfl) rfl ?_ | refine op_v (v_cmp rfl rfl rfl) rfl ?_
    refine op_v (v_move rfl) rfl ?_
    first
      | (refine op_want rfl rfl ?_
         refine op_v (v_move rfl) rfl ?_)
      | (refine op_skip rfl rfl (by simp [undef]) rfl ?_)
    first
      | (refine op_want rfl rfl ?_
         refine op_call pl39 rfl rfl ((Terms_does (hv.mono Imm.leA))) Parts.none ?_
         rintro v8 I8 _ hI8 ⟨hs8, rfl⟩)
      | (refine op_skip rfl rfl (by simp [undef]) rfl ?_)
    first
      | (refine op_want rfl rfl ?_
         refine op_call pl73 rfl rfl ((Few5_does hs8)) Parts.none ?_
         rintro v9 I9 _ hI9 ⟨⟨b9, rfl, hb9⟩, rfl⟩)
      | (refine op_skip rfl rfl (by simp [undef]) rfl ?_)
    first | refine op_v (v_pickt rfl rfl) rfl ?_ | refine op_v (v_pickf rfl rfl) rfl ?_ | refine op_v (v_pickb rfl rfl rfl) rfl ?_
    refine op_v (v_assign rfl) rfl ?_
    refine ops_nil ?_
    refine post_next ?_
    refine code_ret ?_
    refine post_ret (rs := [.tmp 2]) rfl (List.Perm.refl _) (.cons (.tmp rfl) .nil) (List.nil_sublist _) ?_
    exact ⟨⟨b9, rfl, fun h => ⟨h5, hb9 h⟩⟩, rfl⟩
  · first | refine op_v (v_cmptA rfl rfl rfl) rfl ?_ | refine op_v (v_cmpfA rfl rfl rfl) rfl ?_ | refine op_v (v_cmp rfl rfl rfl) rfl ?_
    refine op_v (v_move rfl) rfl ?_
    first
      | (refine op_want rfl rfl ?_
         refine op_v (v_move rfl) rfl ?_)
      | (refine op_skip rfl rfl (by simp [undef]) rfl ?_)
    first
      | (refine op_want rfl rfl ?_
         refine op_call pl39 rfl rfl ((Terms_does (hv.mono Imm.leA))) Parts.none ?_
         rintro v8 I8 _ hI8 ⟨hs8, rfl⟩)
      | (refine op_skip rfl rfl (by simp [undef]) rfl ?_)
    first
      | (refine op_want rfl rfl ?_
         refine op_call pl73 rfl rfl ((Few5_does hs8)) Parts.none ?_
         rintro v9 I9 _ hI9 ⟨⟨b9, rfl, hb9⟩, rfl⟩)
      | (refine op_skip rfl rfl (by simp [undef]) rfl ?_)
    first | refine op_v (v_pickt rfl rfl) rfl ?_ | refine op_v (v_pickf rfl rfl) rfl ?_ | refine op_v (v_pickb rfl rfl rfl) rfl ?_
    refine op_v (v_assign rfl) rfl ?_
    refine ops_nil ?_
    refine post_next ?_
    refine code_ret ?_
    refine post_ret (rs := [.tmp 2]) rfl (List.Perm.refl _) (.cons (.tmp rfl) .nil) (List.nil_sublist _) ?_
    exact ⟨⟨false, rfl, fun h => by cases h⟩, rfl⟩
theorem FewC.sides {c : List Li} (h : FewC c) : ∀ x ∈ c, x.l.size ≤ 500 ∧ x.r.size ≤ 500 := fun x hx =>
  ⟨sizeL_getL h.2 _ (List.mem_flatMap.2 ⟨x, hx, by simp⟩), sizeL_getL h.2 _ (List.mem_flatMap.2 ⟨x, hx, by simp⟩)⟩
end Go.Proofs.Ytdbadicpbmndbaa
/- Walks: the example of the chapter on the order; few signatures and terms. -/
set_option linter.unusedVariables false
set_option linter.unusedSimpArgs false
/- short -/
namespace Go.Proofs.Ytdbadicpbmndbaa
open Go Lg

theorem Lg.v_negb {C : Ctx} {σ : Env} {ds : List Nat} {I : Imm} {δ : List Ent} {t : TypeId} {x : Operand} {n c : Int} (hx : evS σ x = some (.int .i64 n)) (hc : 0 - n = c) (hb : -9223372036854775808 ≤ c ∧ c ≤ 9223372036854775807) : ValJ C σ ds I δ (.unOp .neg t x) (.int .i64 c) := by
  have := v_neg (C := C) (ds := ds) (I := I) (δ := δ) (t := t) hx
  rwa [hc, wrap_id hb] at this
def gs8 : List Sy := [truthS, ⟨⟨#[97]⟩, 0, 1, false⟩, ⟨⟨#[102]⟩, 1, 1, false⟩]
def fx8 : T := .mk 2 [.mk (-1) []]
def x8 : T := .mk (-1) []
def y8 : T := .mk (-2) []
theorem w8a : wrongG gs8 [fx8, x8] = 0 := by decide +kernel
theorem w8b : wrongG gs8 [fx8, y8] = 0 := by decide +kernel
theorem w8c : wrongG gs8 ([fx8, fx8] ++ [fx8, x8]) = 0 := by decide +kernel
theorem s8a : stT gs8 fx8 x8 = 1 := by decide +kernel
theorem s8b : stT gs8 fx8 y8 = 2 := by decide +kernel
theorem s8c : mulG gs8 [fx8, fx8] [fx8, x8] = 1 := by decide +kernel
end Go.Proofs.Ytdbadicpbmndbaa
