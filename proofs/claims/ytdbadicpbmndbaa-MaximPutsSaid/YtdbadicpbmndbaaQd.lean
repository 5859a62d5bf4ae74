/- Walks: the example of maximal literals; with terms put: the statement. -/
import Derived.Test.YtdbadicpbmndbaaZ6
set_option linter.unusedVariables false
set_option linter.unusedSimpArgs false
set_option linter.unnecessarySimpa false
/- short -/
namespace Go.Proofs.Ytdbadicpbmndbaa
open Go Lg

theorem repB_nil (I : Imm) : RepB I (.slice none 0 0) [] := ⟨none, 0, fun _ => (none, 0), [], Nat.le_refl _, by simp, fun i h => by simp at h, fun i h => by simp at h, fun i h => by simp at h⟩
theorem c11_smC : SmC c11 := fun x hx => by have := c11_sm x hx; omega
theorem awake11_does (I : Imm) :
    Does Try.prog 47 [] I [] (fun v I' δ' => v = .bool true ∧ δ' = []) := by
  refine Does.intro Try.func47 rfl Try.ntmps47 rfl fun w0 => ?_
  refine code_seq ?_
  refine code_region ?_
  refine op_v (v_assign rfl) rfl ?_
  refine ops_nil ?_
  refine post_next ?_
  refine code_seq ?_
  refine code_region ?_
  refine op_call pl62 rfl rfl ((Fun_does (by unfold InR; omega) (RepS.nil _))) Parts.none ?_
  rintro v11 I11 _ hI11 ⟨hv11, rfl⟩
  change RepT I11 v11 a9 at hv11
  obtain ⟨a11, c11', rfl, _⟩ := hv11.shape
  refine o_alloc z47 rfl rfl (fun b1 => ?_)
  refine o_store ty47 rfl rfl rfl rfl rfl (by repeat (first | exact Swap.here | apply Swap.there)) rfl ?_
  refine ops_nil ?_
  refine post_next ?_
  refine code_seq_meet (fun σ' I' δ' => ∃ (A : Option Addr) (k : Nat), σ' = [(2, .slice A 2 k)] ∧ I11.le I' ∧ δ' = [] ∧ RepC I' (.slice A 2 k) c11) ?_ ?_
  · refine code_draw (.fl 0 (.fl 1 (.fl 2 (.fl 3 (.fl 6 (.ef 4 (.ef 5 (.fl 7 (.ef 8 (.ef 9 .done)))))))))) (fun _ => _) mixed (by kernel_rfl) (by kernel_rfl) (fun _ => (List.Sublist.refl _)) ?_
    refine e_fl rfl rfl (fun hs_ => PF.mk rfl (v_loadA ty47 rfl rfl) hs_) ?_
    refine e_fl rfl rfl (fun hs_ => PF.mk rfl (v_loadA ty47 rfl rfl) hs_) ?_
    refine e_fl rfl rfl (fun hs_ => PF.mk rfl (v_build (cs := liC A11 a11 c11' a11 c11') bl49 rfl rfl) hs_) ?_
    refine e_fl rfl rfl (fun hs_ => PF.mk rfl (v_loadA ty47 rfl rfl) hs_) ?_
    refine e_fl rfl rfl (fun hs_ => PF.mk rfl (v_loadA ty47 rfl rfl) hs_) ?_
    refine e_eff rfl (by intro cs b hc; cases hc) (by intro c hc; cases hc) ?_
    refine o_buildSlice (xs := [(Go.Operand.tmp 15)]) Try.underlying45 bs47 rfl rfl rfl rfl rfl (fun b16 => ?_)
    refine OpsJ.freezeRow Del.here ?_
    rintro I16 a16 c16 hI16 hq hc16 hl16 hcells16
    cases hq
    refine ops_nil ?_
    refine e_next rfl side_allA ?_
    refine e_eff rfl (by intro cs b hc; cases hc) (by intro c hc; cases hc) ?_
    refine op_call pl62 rfl rfl ((Fun_does (by unfold InR; omega) (RowT.repS (ts := [a9]) rfl (hcells16.mono Imm.leA) (RowT.one (hv11.mono Imm.leA)) hc16 (by omega)))) Parts.none ?_
    rintro v17 I17 _ hI17 ⟨hv17, rfl⟩
    change RepT I17 v17 fa11 at hv17
    obtain ⟨a17, c17, rfl, _⟩ := hv17.shape
    refine ops_nil ?_
    refine e_next rfl side_allA ?_
    refine e_fl rfl rfl (fun hs_ => PF.mk rfl (v_build (cs := liC B11 a17 c17 a11 c11') bl49 rfl rfl) hs_) ?_
    refine e_eff rfl (by intro cs b hc; cases hc) (by intro c hc; cases hc) ?_
    refine o_buildSlice (xs := [(Go.Operand.tmp 14), (Go.Operand.tmp 19)]) Try.underlying26 bs49 rfl rfl rfl rfl rfl (fun b20 => ?_)
    refine OpsJ.freezeRow Del.here ?_
    rintro I20 a20 c20 hI20 hq hc20 hl20 hcells20
    cases hq
    refine ops_nil ?_
    refine e_next rfl side_allA ?_
    refine e_eff rfl (by intro cs b hc; cases hc) (by intro c hc; cases hc) ?_
    refine op_v (v_assign rfl) rfl ?_
    refine ops_nil ?_
    refine e_next rfl (side_nil (by kernel_rfl)) ?_
    refine e_done ?_
    repeat (refine PostJ.view (View.drop Del.here) ?_)
    exact post_meet _ ⟨_, _, rfl, Imm.leA, rfl, ⟨some ⟨b20, 0, none⟩, 2, _, rfl, Nat.le_refl _, by decide, hcells20, ⟨_, _, rfl, ⟨a11, c11', a11, c11', rfl, hv11.mono Imm.leA, hv11.mono Imm.leA⟩, _, _, rfl, ⟨a17, c17, a11, c11', rfl, hv17.mono Imm.leA, hv11.mono Imm.leA⟩, rfl⟩⟩⟩ ⟨rfl, trivial⟩
  · rintro _ I2 _ ⟨A, k, rfl, hI2, rfl, hc11⟩
    refine code_seq ?_
    refine code_region ?_
    refine op_call pl95 rfl rfl ((toy11_does _)) Parts.none ?_
    rintro v22 I22 _ hI22 ⟨hg22, rfl⟩
    refine op_v (v_move rfl) rfl ?_
    refine op_call pl48 rfl rfl ((Maximal_does (c := c11) (i := 1) (s := true) hg22 (hc11.mono Imm.leA) c11_smC)) Parts.none ?_
    rintro v24 I24 _ hI24 ⟨rfl, rfl⟩
    rw [c11_b1, c11_e1]
    refine op_v (v_move rfl) rfl ?_
    refine op_v (v_extract rfl rfl) rfl ?_
    refine op_v (v_extract rfl rfl) rfl ?_
    refine op_v (v_assign rfl) rfl ?_
    refine op_v (v_assign rfl) rfl ?_
    refine ops_nil ?_
    refine post_next ?_
    refine code_seq ?_
    refine code_region ?_
    refine op_call pl95 rfl rfl ((toy11_does _)) Parts.none ?_
    rintro v28 I28 _ hI28 ⟨hg28, rfl⟩
    refine op_v (v_move rfl) rfl ?_
    refine op_call pl48 rfl rfl ((Maximal_does (c := c11) (i := 0) (s := false) hg28 (hc11.mono Imm.leA) c11_smC)) Parts.none ?_
    rintro v30 I30 _ hI30 ⟨rfl, rfl⟩
    rw [c11_b0, c11_e0]
    refine op_v (v_move rfl) rfl ?_
    refine op_v (v_extract rfl rfl) rfl ?_
    refine op_v (v_extract rfl rfl) rfl ?_
    refine op_v (v_assign rfl) rfl ?_
    refine op_v (v_assign rfl) rfl ?_
    refine ops_nil ?_
    refine post_next ?_
    refine code_seq ?_
    refine code_region ?_
    refine op_call pl95 rfl rfl ((toy11_does _)) Parts.none ?_
    rintro v34 I34 _ hI34 ⟨hg34, rfl⟩
    refine op_v (v_move rfl) rfl ?_
    refine op_call pl50 rfl rfl ((Select_does (c := c11) (how := 1) hg34 (hc11.mono Imm.leA) c11_smC)) Parts.none ?_
    rintro v36 I36 _ hI36 ⟨⟨u36, rfl, hu36⟩, rfl⟩
    have hr36 : selR gs8 c11 1 = [] := by unfold selR; rw [c11_s, if_pos rfl, c11_l]
    rw [hr36] at hu36
    rw [c11_s]
    obtain ⟨ua, uc, rfl⟩ := hu36.shape
    refine op_v (v_move rfl) rfl ?_
    refine op_v (v_extract rfl rfl) rfl ?_
    refine op_v (v_extract rfl rfl) rfl ?_
    refine op_v (v_assign rfl) rfl ?_
    refine op_v (v_assign rfl) rfl ?_
    refine ops_nil ?_
    refine post_next ?_
    refine code_seq ?_
    refine code_region ?_
    refine op_call pl95 rfl rfl ((toy11_does _)) Parts.none ?_
    rintro v40 I40 _ hI40 ⟨hg40, rfl⟩
    refine op_v (v_move rfl) rfl ?_
    refine op_call pl51 rfl rfl ((May_does (c := c11) (how := 1) (i := 1) hg40 (hc11.mono Imm.leA) (repB_nil _) (by intro b hb; cases hb) c11_sm)) Parts.none ?_
    rintro v42 I42 _ hI42 ⟨⟨m42, e42, rfl, hm42⟩, rfl⟩
    obtain ⟨hm1, hm2⟩ := hm42.eq c11_may
    subst hm1
    subst hm2
    refine op_v (v_move rfl) rfl ?_
    refine op_v (v_extract rfl rfl) rfl ?_
    refine op_v (v_extract rfl rfl) rfl ?_
    refine op_v (v_assign rfl) rfl ?_
    refine op_v (v_assign rfl) rfl ?_
    refine ops_nil ?_
    refine post_next ?_
    refine code_seq ?_
    refine code_region ?_
    refine op_v (v_move rfl) rfl ?_
    refine op_v (v_move rfl) rfl ?_
    first
      | (refine op_want rfl rfl ?_
         refine op_v (v_move rfl) rfl ?_)
      | (refine op_skip rfl rfl (by simp [undef]) rfl ?_)
    first
      | (refine op_want rfl rfl ?_
         first | refine op_v (v_cmptA rfl rfl rfl) rfl ?_ | refine op_v (v_cmpfA rfl rfl rfl) rfl ?_ | refine op_v (v_cmp rfl rfl rfl) rfl ?_)
      | (refine op_skip rfl rfl (by simp [undef]) rfl ?_)
    first | refine op_v (v_pickt rfl rfl) rfl ?_ | refine op_v (v_pickf rfl rfl) rfl ?_ | refine op_v (v_pickb rfl rfl rfl) rfl ?_
    refine op_v (v_move rfl) rfl ?_
    first
      | (refine op_want rfl rfl ?_
         refine op_v (v_move rfl) rfl ?_)
      | (refine op_skip rfl rfl (by simp [undef]) rfl ?_)
    first
      | (refine op_want rfl rfl ?_
         refine op_v (v_not rfl) rfl ?_)
      | (refine op_skip rfl rfl (by simp [undef]) rfl ?_)
    first | refine op_v (v_pickt rfl rfl) rfl ?_ | refine op_v (v_pickf rfl rfl) rfl ?_ | refine op_v (v_pickb rfl rfl rfl) rfl ?_
    refine op_v (v_move rfl) rfl ?_
    first
      | (refine op_want rfl rfl ?_
         refine op_v (v_move rfl) rfl ?_)
      | (refine op_skip rfl rfl (by simp [undef]) rfl ?_)
    first
      | (refine op_want rfl rfl ?_
         refine op_v (v_move rfl) rfl ?_)
      | (refine op_skip rfl rfl (by simp [undef]) rfl ?_)
    first
      | (refine op_want rfl rfl ?_
         first | refine op_v (v_cmptA rfl rfl rfl) rfl ?_ | refine op_v (v_cmpfA rfl rfl rfl) rfl ?_ | refine op_v (v_cmp rfl rfl rfl) rfl ?_)
      | (refine op_skip rfl rfl (by simp [undef]) rfl ?_)
    first | refine op_v (v_pickt rfl rfl) rfl ?_ | refine op_v (v_pickf rfl rfl) rfl ?_ | refine op_v (v_pickb rfl rfl rfl) rfl ?_
    refine op_v (v_move rfl) rfl ?_
    first
      | (refine op_want rfl rfl ?_
         refine op_v (v_move rfl) rfl ?_)
      | (refine op_skip rfl rfl (by simp [undef]) rfl ?_)
    first
      | (refine op_want rfl rfl ?_
         refine op_v (v_len Try.underlying62 rfl) rfl ?_)
      | (refine op_skip rfl rfl (by simp [undef]) rfl ?_)
    first
      | (refine op_want rfl rfl ?_
         first | refine op_v (v_cmptA rfl rfl rfl) rfl ?_ | refine op_v (v_cmpfA rfl rfl rfl) rfl ?_ | refine op_v (v_cmp rfl rfl rfl) rfl ?_)
      | (refine op_skip rfl rfl (by simp [undef]) rfl ?_)
    first | refine op_v (v_pickt rfl rfl) rfl ?_ | refine op_v (v_pickf rfl rfl) rfl ?_ | refine op_v (v_pickb rfl rfl rfl) rfl ?_
    refine op_v (v_move rfl) rfl ?_
    first
      | (refine op_want rfl rfl ?_
         refine op_v (v_move rfl) rfl ?_)
      | (refine op_skip rfl rfl (by simp [undef]) rfl ?_)
    first
      | (refine op_want rfl rfl ?_
         refine op_v (v_move rfl) rfl ?_)
      | (refine op_skip rfl rfl (by simp [undef]) rfl ?_)
    first
      | (refine op_want rfl rfl ?_
         first | refine op_v (v_cmptA rfl rfl rfl) rfl ?_ | refine op_v (v_cmpfA rfl rfl rfl) rfl ?_ | refine op_v (v_cmp rfl rfl rfl) rfl ?_)
      | (refine op_skip rfl rfl (by simp [undef]) rfl ?_)
    first | refine op_v (v_pickt rfl rfl) rfl ?_ | refine op_v (v_pickf rfl rfl) rfl ?_ | refine op_v (v_pickb rfl rfl rfl) rfl ?_
    refine op_v (v_move rfl) rfl ?_
    first
      | (refine op_want rfl rfl ?_
         refine op_v (v_move rfl) rfl ?_)
      | (refine op_skip rfl rfl (by simp [undef]) rfl ?_)
    first | refine op_v (v_pickt rfl rfl) rfl ?_ | refine op_v (v_pickf rfl rfl) rfl ?_ | refine op_v (v_pickb rfl rfl rfl) rfl ?_
    refine op_v (v_move rfl) rfl ?_
    first
      | (refine op_want rfl rfl ?_
         refine op_v (v_move rfl) rfl ?_)
      | (refine op_skip rfl rfl (by simp [undef]) rfl ?_)
    first
      | (refine op_want rfl rfl ?_
         refine op_v (v_move rfl) rfl ?_)
      | (refine op_skip rfl rfl (by simp [undef]) rfl ?_)
    first
      | (refine op_want rfl rfl ?_
         first | refine op_v (v_cmptA rfl rfl rfl) rfl ?_ | refine op_v (v_cmpfA rfl rfl rfl) rfl ?_ | refine op_v (v_cmp rfl rfl rfl) rfl ?_)
      | (refine op_skip rfl rfl (by simp [undef]) rfl ?_)
    first | refine op_v (v_pickt rfl rfl) rfl ?_ | refine op_v (v_pickf rfl rfl) rfl ?_ | refine op_v (v_pickb rfl rfl rfl) rfl ?_
    refine op_v (v_assign rfl) rfl ?_
    refine ops_nil ?_
    refine post_next ?_
    refine code_ret ?_
    refine post_ret (rs := [.tmp 0]) rfl (List.Perm.refl _) (.cons (.tmp rfl) .nil) (List.nil_sublist _) ?_
    exact ⟨rfl, rfl⟩
theorem outE_ok {bs : List Bi} {t u : T} (h : OutE bs t 0 u) : u = sbT bs t := by
  rcases h with ⟨_, h2, h3⟩ | ⟨_, h, _⟩
  · rw [if_pos h2.symm] at h3; exact h3
  · cases h
theorem outL_ok {bs : List Bi} {x y : Li} (h : OutL bs x 0 y) : y = ⟨x.neg, sbT bs x.l, sbT bs x.r⟩ := by
  obtain ⟨e1, u1, h1, ⟨h2, h3, _⟩ | ⟨h2, e2, u2, h3, ⟨h4, h5, _⟩ | ⟨h4, _, rfl⟩⟩⟩ := h
  · exact absurd h3.symm h2
  · exact absurd h5.symm h4
  · subst h2; subst h4; rw [outE_ok h1, outE_ok h3]
theorem rowL_put (bs : List Bi) (x : Li) : rowL ⟨x.neg, sbT bs x.l, sbT bs x.r⟩ = (rowL x).map (sbT bs) := by
  unfold rowL; simp only; split <;> rfl
theorem mulG_put {gs : List Sy} {bs : List Bi} {x y x' y' : Li} (hx : OkL gs x) (hy : OkL gs y) (hx' : OkL gs x') (hy' : OkL gs y') (ex : x' = ⟨x.neg, sbT bs x.l, sbT bs x.r⟩) (ey : y' = ⟨y.neg, sbT bs y.l, sbT bs y.r⟩) (h : mulG gs (rowL x) (rowL y) = 1) : mulG gs (rowL x') (rowL y') = 1 := by
  have hxr := hx'.row
  have hyr := hy'.row
  rw [ex, rowL_put] at hxr ⊢
  rw [ey, rowL_put] at hyr ⊢
  rw [mulG_X] at h ⊢
  exact mulX_map (f := sbT bs) (fun s hs t ht hst => by
    rw [decide_eq_true_eq] at *
    exact stT_sb s.size s t (Nat.le_refl _) (hx.row s hs) (hy.row t ht) (hxr _ (List.mem_map_of_mem hs)) (hyr _ (List.mem_map_of_mem ht)) hst) (stT_ord gs) (fun s hs => hxr _ (List.mem_map_of_mem hs)) (fun t ht => hyr _ (List.mem_map_of_mem ht)) h
theorem maxE_ok {gs : List Sy} {c : List Li} {i : Int} (h : maxE gs c i = 0) : chkC gs c = 0 ∧ ∃ n : Nat, i = n ∧ n < c.length := by
  unfold maxE at h
  split at h
  · rename_i q; exact absurd h q
  · rename_i q
    split at h
    · cases h
    · rename_i r
      exact ⟨Classical.not_not.1 q, i.toNat, by omega, by omega⟩
theorem max_puts {gs : List Sy} {bs : List Bi} {c d : List Li} {i : Int} (ho : OutC bs c 0 d) (h1 : maxE gs c i = 0) (h2 : maxE gs d i = 0) (hx : maxB gs c i false = false) : maxB gs d i true = false := by
  obtain ⟨hc, n, rfl, hn⟩ := maxE_ok h1
  obtain ⟨hd, _, _, _⟩ := maxE_ok h2
  obtain ⟨hl, hall⟩ := ho.len0
  unfold maxB at hx ⊢
  rw [if_pos h1] at hx
  rw [if_pos h2]
  rw [Int.toNat_natCast] at *
  have hnd : n < d.length := by omega
  cases q : topG gs d n true with
  | false => rfl
  | true =>
    exfalso
    have hq := (topG_iff hnd).1 q
    have : topG gs c n false = true := (topG_iff hn).2 fun k hk => by
      by_cases e : k = n
      · exact .inl e
      · right
        rcases hq k (by omega) with e2 | hu
        · exact absurd e2 e
        · unfold undB at hu ⊢
          rw [Bool.and_eq_true] at hu
          have h1' : ¬ mulG gs (rowL d[k]) (rowL d[n]) = 1 := by simpa using hu.1
          have : ¬ mulG gs (rowL c[k]) (rowL c[n]) = 1 := fun hm => h1' (mulG_put (litG_ok ((chkC_ok hc).2.2 _ (List.getElem_mem hk))) (litG_ok ((chkC_ok hc).2.2 _ (List.getElem_mem hn))) (litG_ok ((chkC_ok hd).2.2 _ (List.getElem_mem (by omega)))) (litG_ok ((chkC_ok hd).2.2 _ (List.getElem_mem hnd))) (outL_ok (hall k hk (by omega))) (outL_ok (hall n hn hnd)) hm)
          simp [this]
    rw [this] at hx; cases hx
theorem MaximPuts_does {I : Imm} {vg va vs : Value} {gs : List Sy} {c : List Li} {i : Int} {bs : List Bi} (hg : RepG I vg gs) (hv : RepC I va c) (hi : InR i) (hs : RepB I vs bs) :
    Does Try.prog 10 [vg, va, .int .i64 i, vs] I [] (fun v I' δ' => v = .bool true ∧ δ' = []) := by
  refine Does.intro Try.func10 rfl Try.ntmps10 rfl fun w0 => ?_
  refine code_seq ?_
  refine code_region ?_
  refine op_v (v_assign rfl) rfl ?_
  refine ops_nil ?_
  refine post_next ?_
  refine code_seq ?_
  refine code_seq ?_
  refine code_region ?_
  refine op_v (v_move rfl) rfl ?_
  refine op_v (v_move rfl) rfl ?_
  refine op_call pl45 rfl rfl ((few11_does hg hv)) Parts.none ?_
  rintro v17 I17 _ hI17 ⟨⟨b17, rfl, hb17⟩, rfl⟩
  refine op_v (v_not rfl) rfl ?_
  by_cases h19 : b17 = true
  · subst h19
    obtain ⟨hf, _⟩ := hb17 rfl
    have hsz := hf.sides
    have hsm := hf.sm
    refine op_v (v_move rfl) rfl ?_
    first
      | (refine op_want rfl rfl ?_
         refine op_v (v_move rfl) rfl ?_)
      | (refine op_skip rfl rfl (by simp [undef]) rfl ?_)
    first
      | (refine op_want rfl rfl ?_
         refine op_call pl35 rfl rfl ((FewB_does (hs.mono Imm.leA))) Parts.none ?_
         rintro v21 I21 _ hI21 ⟨⟨b21, rfl, hb21⟩, rfl⟩)
      | (refine op_skip rfl rfl (by simp [undef]) rfl ?_)
    first
      | (refine op_want rfl rfl ?_
         refine op_v (v_not rfl) rfl ?_)
      | (refine op_skip rfl rfl (by simp [undef]) rfl ?_)
    by_cases h23 : b21 = true
    · subst h23
      have hbs := hb21 rfl
      first | refine op_v (v_pickt rfl rfl) rfl ?_ | refine op_v (v_pickf rfl rfl) rfl ?_ | refine op_v (v_pickb rfl rfl rfl) rfl ?_
      refine ops_nil ?_
      refine post_next ?_
      refine code_cond_f rfl ?_
      refine code_skip ?_
      refine post_next ?_
      refine code_seq ?_
      refine code_region ?_
      refine op_v (v_move rfl) rfl ?_
      refine op_v (v_move rfl) rfl ?_
      refine op_call pl36 rfl rfl ((CApply_does (hs.mono Imm.leA) (hv.mono Imm.leA) hbs hsz)) Parts.none ?_
      rintro v27 I27 _ hI27 ⟨⟨e, d, r, rfl, hr27, ho⟩, rfl⟩
      have hdm := ho.sm
      refine op_v (v_move rfl) rfl ?_
      refine op_v (v_extract rfl rfl) rfl ?_
      refine op_v (v_extract rfl rfl) rfl ?_
      refine op_v (v_assign rfl) rfl ?_
      refine op_v (v_assign rfl) rfl ?_
      refine ops_nil ?_
      refine post_next ?_
      refine code_seq ?_
      refine code_region ?_
      refine op_v (v_move rfl) rfl ?_
      refine op_v (v_move rfl) rfl ?_
      refine op_v (v_move rfl) rfl ?_
      refine op_call pl48 rfl rfl ((Maximal_does (i := i) (s := false) (hg.mono Imm.leA) (hv.mono Imm.leA) hsm)) Parts.none ?_
      rintro v34 I34 _ hI34 ⟨rfl, rfl⟩
      refine op_v (v_move rfl) rfl ?_
      refine op_v (v_extract rfl rfl) rfl ?_
      refine op_v (v_extract rfl rfl) rfl ?_
      refine op_v (v_assign rfl) rfl ?_
      refine op_v (v_assign rfl) rfl ?_
      refine ops_nil ?_
      refine post_next ?_
      refine code_seq ?_
      refine code_region ?_
      refine op_v (v_move rfl) rfl ?_
      refine op_v (v_move rfl) rfl ?_
      refine op_v (v_move rfl) rfl ?_
      refine op_call pl48 rfl rfl ((Maximal_does (i := i) (s := true) (hg.mono Imm.leA) (hr27.mono Imm.leA) hdm)) Parts.none ?_
      rintro v41 I41 _ hI41 ⟨rfl, rfl⟩
      refine op_v (v_move rfl) rfl ?_
      refine op_v (v_extract rfl rfl) rfl ?_
      refine op_v (v_extract rfl rfl) rfl ?_
      refine op_v (v_assign rfl) rfl ?_
      refine op_v (v_assign rfl) rfl ?_
      refine ops_nil ?_
      refine post_next ?_
      refine code_seq ?_
      refine code_seq ?_
      refine code_region ?_
      refine op_v (v_move rfl) rfl ?_
      by_cases h45 : e ≠ 0
      · first | refine op_v (v_cmptA rfl rfl rfl) rfl ?_ | refine op_v (v_cmpfA rfl rfl rfl) rfl ?_ | refine op_v (v_cmp rfl rfl rfl) rfl ?_
        refine op_v (v_move rfl) rfl ?_
        first
          | (refine op_want rfl rfl ?_
             refine op_v (v_move rfl) rfl ?_)
          | (refine op_skip rfl rfl (by simp [undef]) rfl ?_)
        first
          | (refine op_want rfl rfl ?_
             first | refine op_v (v_cmptA rfl rfl rfl) rfl ?_ | refine op_v (v_cmpfA rfl rfl rfl) rfl ?_ | refine op_v (v_cmp rfl rfl rfl) rfl ?_)
          | (refine op_skip rfl rfl (by simp [undef]) rfl ?_)
        first | refine op_v (v_pickt rfl rfl) rfl ?_ | refine op_v (v_pickf rfl rfl) rfl ?_ | refine op_v (v_pickb rfl rfl rfl) rfl ?_
        refine op_v (v_move rfl) rfl ?_
        first
          | (refine op_want rfl rfl ?_
             refine op_v (v_move rfl) rfl ?_)
          | (refine op_skip rfl rfl (by simp [undef]) rfl ?_)
        first
          | (refine op_want rfl rfl ?_
             first | refine op_v (v_cmptA rfl rfl rfl) rfl ?_ | refine op_v (v_cmpfA rfl rfl rfl) rfl ?_ | refine op_v (v_cmp rfl rfl rfl) rfl ?_)
          | (refine op_skip rfl rfl (by simp [undef]) rfl ?_)
        first | refine op_v (v_pickt rfl rfl) rfl ?_ | refine op_v (v_pickf rfl rfl) rfl ?_ | refine op_v (v_pickb rfl rfl rfl) rfl ?_
        refine ops_nil ?_
        refine post_next ?_
        refine code_cond_t rfl ?_
        refine code_seq ?_
        refine code_region ?_
        refine op_call pl47 rfl rfl ((awake11_does _)) Parts.none ?_
        rintro v54 I54 _ hI54 ⟨rfl, rfl⟩
        refine op_v (v_assign rfl) rfl ?_
        refine ops_nil ?_
        refine post_next ?_
        refine code_ret ?_
        refine post_ret_then ?_
        refine post_ret (rs := [.tmp 8]) rfl (List.Perm.refl _) (.cons (.tmp rfl) .nil) (List.nil_sublist _) ?_
        exact ⟨rfl, rfl⟩
      · first | refine op_v (v_cmptA rfl rfl rfl) rfl ?_ | refine op_v (v_cmpfA rfl rfl rfl) rfl ?_ | refine op_v (v_cmp rfl rfl rfl) rfl ?_
        refine op_v (v_move rfl) rfl ?_
        first
          | (refine op_want rfl rfl ?_
             refine op_v (v_move rfl) rfl ?_)
          | (refine op_skip rfl rfl (by simp [undef]) rfl ?_)
        by_cases h48 : maxE gs c i ≠ 0
        · first
            | (refine op_want rfl rfl ?_
               first | refine op_v (v_cmptA rfl rfl rfl) rfl ?_ | refine op_v (v_cmpfA rfl rfl rfl) rfl ?_ | refine op_v (v_cmp rfl rfl rfl) rfl ?_)
            | (refine op_skip rfl rfl (by simp [undef]) rfl ?_)
          first | refine op_v (v_pickt rfl rfl) rfl ?_ | refine op_v (v_pickf rfl rfl) rfl ?_ | refine op_v (v_pickb rfl rfl rfl) rfl ?_
          refine op_v (v_move rfl) rfl ?_
          first
            | (refine op_want rfl rfl ?_
               refine op_v (v_move rfl) rfl ?_)
            | (refine op_skip rfl rfl (by simp [undef]) rfl ?_)
          first
            | (refine op_want rfl rfl ?_
               first | refine op_v (v_cmptA rfl rfl rfl) rfl ?_ | refine op_v (v_cmpfA rfl rfl rfl) rfl ?_ | refine op_v (v_cmp rfl rfl rfl) rfl ?_)
            | (refine op_skip rfl rfl (by simp [undef]) rfl ?_)
          first | refine op_v (v_pickt rfl rfl) rfl ?_ | refine op_v (v_pickf rfl rfl) rfl ?_ | refine op_v (v_pickb rfl rfl rfl) rfl ?_
          refine ops_nil ?_
          refine post_next ?_
          refine code_cond_t rfl ?_
          refine code_seq ?_
          refine code_region ?_
          refine op_call pl47 rfl rfl ((awake11_does _)) Parts.none ?_
          rintro v54 I54 _ hI54 ⟨rfl, rfl⟩
          refine op_v (v_assign rfl) rfl ?_
          refine ops_nil ?_
          refine post_next ?_
          refine code_ret ?_
          refine post_ret_then ?_
          refine post_ret (rs := [.tmp 8]) rfl (List.Perm.refl _) (.cons (.tmp rfl) .nil) (List.nil_sublist _) ?_
          exact ⟨rfl, rfl⟩
        · first
            | (refine op_want rfl rfl ?_
               first | refine op_v (v_cmptA rfl rfl rfl) rfl ?_ | refine op_v (v_cmpfA rfl rfl rfl) rfl ?_ | refine op_v (v_cmp rfl rfl rfl) rfl ?_)
            | (refine op_skip rfl rfl (by simp [undef]) rfl ?_)
          first | refine op_v (v_pickt rfl rfl) rfl ?_ | refine op_v (v_pickf rfl rfl) rfl ?_ | refine op_v (v_pickb rfl rfl rfl) rfl ?_
          refine op_v (v_move rfl) rfl ?_
          first
            | (refine op_want rfl rfl ?_
               refine op_v (v_move rfl) rfl ?_)
            | (refine op_skip rfl rfl (by simp [undef]) rfl ?_)
          by_cases h52 : maxE gs d i ≠ 0
          · first
              | (refine op_want rfl rfl ?_
                 first | refine op_v (v_cmptA rfl rfl rfl) rfl ?_ | refine op_v (v_cmpfA rfl rfl rfl) rfl ?_ | refine op_v (v_cmp rfl rfl rfl) rfl ?_)
              | (refine op_skip rfl rfl (by simp [undef]) rfl ?_)
            first | refine op_v (v_pickt rfl rfl) rfl ?_ | refine op_v (v_pickf rfl rfl) rfl ?_ | refine op_v (v_pickb rfl rfl rfl) rfl ?_
            refine ops_nil ?_
            refine post_next ?_
            refine code_cond_t rfl ?_
            refine code_seq ?_
            refine code_region ?_
            refine op_call pl47 rfl rfl ((awake11_does _)) Parts.none ?_
            rintro v54 I54 _ hI54 ⟨rfl, rfl⟩
            refine op_v (v_assign rfl) rfl ?_
            refine ops_nil ?_
            refine post_next ?_
            refine code_ret ?_
            refine post_ret_then ?_
            refine post_ret (rs := [.tmp 8]) rfl (List.Perm.refl _) (.cons (.tmp rfl) .nil) (List.nil_sublist _) ?_
            exact ⟨rfl, rfl⟩
          · have he : e = 0 := Classical.not_not.1 h45
            subst he
            first
              | (refine op_want rfl rfl ?_
                 first | refine op_v (v_cmptA rfl rfl rfl) rfl ?_ | refine op_v (v_cmpfA rfl rfl rfl) rfl ?_ | refine op_v (v_cmp rfl rfl rfl) rfl ?_)
              | (refine op_skip rfl rfl (by simp [undef]) rfl ?_)
            first | refine op_v (v_pickt rfl rfl) rfl ?_ | refine op_v (v_pickf rfl rfl) rfl ?_ | refine op_v (v_pickb rfl rfl rfl) rfl ?_
            refine ops_nil ?_
            refine post_next ?_
            refine code_cond_f rfl ?_
            refine code_skip ?_
            refine post_next ?_
            refine code_seq ?_
            refine code_region ?_
            refine op_call pl47 rfl rfl ((awake11_does _)) Parts.none ?_
            rintro v55 I55 _ hI55 ⟨rfl, rfl⟩
            refine op_v (v_move rfl) rfl ?_
            by_cases hx : maxB gs c i false = true
            · rw [hx]
              first
                | (refine op_want rfl rfl ?_
                   refine op_v (v_move rfl) rfl ?_)
                | (refine op_skip rfl rfl (by simp [undef]) rfl ?_)
              first
                | (refine op_want rfl rfl ?_
                   refine op_v (v_move rfl) rfl ?_)
                | (refine op_skip rfl rfl (by simp [undef]) rfl ?_)
              first
                | (refine op_want rfl rfl ?_
                   refine op_v (v_move rfl) rfl ?_)
                | (refine op_skip rfl rfl (by simp [undef]) rfl ?_)
              first
                | (refine op_want rfl rfl ?_
                   refine op_v (v_not rfl) rfl ?_)
                | (refine op_skip rfl rfl (by simp [undef]) rfl ?_)
              first
                | (refine op_want rfl rfl ?_
                   first | refine op_v (v_pickt rfl rfl) rfl ?_ | refine op_v (v_pickf rfl rfl) rfl ?_ | refine op_v (v_pickb rfl rfl rfl) rfl ?_)
                | (refine op_skip rfl rfl (by simp [undef]) rfl ?_)
              first | refine op_v (v_pickt rfl rfl) rfl ?_ | refine op_v (v_pickf rfl rfl) rfl ?_ | refine op_v (v_pickb rfl rfl rfl) rfl ?_
              refine op_v (v_assign rfl) rfl ?_
              refine ops_nil ?_
              refine post_next ?_
              refine code_ret ?_
              refine post_ret (rs := [.tmp 8]) rfl (List.Perm.refl _) (.cons (.tmp rfl) .nil) (List.nil_sublist _) ?_
              exact ⟨rfl, rfl⟩
            · have hx' : maxB gs c i false = false := by simpa using hx
              rw [hx', max_puts ho (Classical.not_not.1 h48) (Classical.not_not.1 h52) hx']
              first
                | (refine op_want rfl rfl ?_
                   refine op_v (v_move rfl) rfl ?_)
                | (refine op_skip rfl rfl (by simp [undef]) rfl ?_)
              first
                | (refine op_want rfl rfl ?_
                   refine op_v (v_move rfl) rfl ?_)
                | (refine op_skip rfl rfl (by simp [undef]) rfl ?_)
              first
                | (refine op_want rfl rfl ?_
                   refine op_v (v_move rfl) rfl ?_)
                | (refine op_skip rfl rfl (by simp [undef]) rfl ?_)
              first
                | (refine op_want rfl rfl ?_
                   refine op_v (v_not rfl) rfl ?_)
                | (refine op_skip rfl rfl (by simp [undef]) rfl ?_)
              first
                | (refine op_want rfl rfl ?_
                   first | refine op_v (v_pickt rfl rfl) rfl ?_ | refine op_v (v_pickf rfl rfl) rfl ?_ | refine op_v (v_pickb rfl rfl rfl) rfl ?_)
                | (refine op_skip rfl rfl (by simp [undef]) rfl ?_)
              first | refine op_v (v_pickt rfl rfl) rfl ?_ | refine op_v (v_pickf rfl rfl) rfl ?_ | refine op_v (v_pickb rfl rfl rfl) rfl ?_
              refine op_v (v_assign rfl) rfl ?_
              refine ops_nil ?_
              refine post_next ?_
              refine code_ret ?_
              refine post_ret (rs := [.tmp 8]) rfl (List.Perm.refl _) (.cons (.tmp rfl) .nil) (List.nil_sublist _) ?_
              exact ⟨rfl, rfl⟩
    · have h23' : b21 = false := by simpa using h23
      subst h23'
      first | refine op_v (v_pickt rfl rfl) rfl ?_ | refine op_v (v_pickf rfl rfl) rfl ?_ | refine op_v (v_pickb rfl rfl rfl) rfl ?_
      refine ops_nil ?_
      refine post_next ?_
      refine code_cond_t rfl ?_
      refine code_seq ?_
      refine code_region ?_
      refine op_v (v_assign rfl) rfl ?_
      refine ops_nil ?_
      refine post_next ?_
      refine code_ret ?_
      refine post_ret_then ?_
      refine post_ret (rs := [.tmp 8]) rfl (List.Perm.refl _) (.cons (.tmp rfl) .nil) (List.nil_sublist _) ?_
      exact ⟨rfl, rfl⟩
  · have h19' : b17 = false := by simpa using h19
    subst h19'
    refine op_v (v_move rfl) rfl ?_
    first
      | (refine op_want rfl rfl ?_
         refine op_v (v_move rfl) rfl ?_)
      | (refine op_skip rfl rfl (by simp [undef]) rfl ?_)
    first
      | (refine op_want rfl rfl ?_
         refine op_call pl35 rfl rfl ((FewB_does (hs.mono Imm.leA))) Parts.none ?_
         rintro v21 I21 _ hI21 ⟨⟨b21, rfl, hb21⟩, rfl⟩)
      | (refine op_skip rfl rfl (by simp [undef]) rfl ?_)
    first
      | (refine op_want rfl rfl ?_
         refine op_v (v_not rfl) rfl ?_)
      | (refine op_skip rfl rfl (by simp [undef]) rfl ?_)
    first | refine op_v (v_pickt rfl rfl) rfl ?_ | refine op_v (v_pickf rfl rfl) rfl ?_ | refine op_v (v_pickb rfl rfl rfl) rfl ?_
    refine ops_nil ?_
    refine post_next ?_
    refine code_cond_t rfl ?_
    refine code_seq ?_
    refine code_region ?_
    refine op_v (v_assign rfl) rfl ?_
    refine ops_nil ?_
    refine post_next ?_
    refine code_ret ?_
    refine post_ret_then ?_
    refine post_ret (rs := [.tmp 8]) rfl (List.Perm.refl _) (.cons (.tmp rfl) .nil) (List.nil_sublist _) ?_
    exact ⟨rfl, rfl⟩
end Go.Proofs.Ytdbadicpbmndbaa
