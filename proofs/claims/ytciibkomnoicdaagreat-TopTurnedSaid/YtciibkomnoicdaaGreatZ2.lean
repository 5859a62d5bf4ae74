/- Own texts: a small program logic, plain facts, walks through the program's functions. No condition. -/
import Derived.RangeFuncNested
import Derived.Test.YtciibkomnoicdaaGreatZ1
set_option maxRecDepth 10000
set_option maxHeartbeats 4000000
set_option linter.unusedVariables false
set_option linter.unusedSimpArgs false
set_option linter.unnecessarySimpa false
set_option linter.unusedSectionVars false
namespace Go.Proofs.YtciibkomnoicdaaGreat.Lg
open Go Go.RowKit
section
variable {C:Ctx} {Q:Exit→Act→World→Prop} {σ:Env} {ds:List dN} {I:aa} {δ:List ay} {ops:Array Oper}
def jo(ops:Array Oper)(i:Nat):List Tmp:=match ops[i]? with|some o=>o.looksAt ops|none=> []
def m5(ops:Array Oper)(i j:Nat):Bool:=match ops[j]? with|some o=>o.after.any (fun e=>Region.binds .any e&&e.on==i)|none=>false
def TR(ops:Array Oper)(bR:List (Nat×Nat))(j:Nat):Bool:=
  bR.all fun p=>m5 ops p.1 j|| !(jo ops j).contains p.2
def TS(ops:Array Oper)(bR:List (Nat×Nat))(d:Nat):Bool:=
  bR.all fun p=> !(jo ops p.1).contains d&&p.2 !=d
def yG(ops:Array Oper):Bool:=
  (List.range ops.size).all fun j=>match ops[j]? with|some o=>o.after.all (fun e=> !Region.binds .any e||Nat.blt e.on j)|none=>true
inductive kX where
  |done
  |ct (i:Nat) (r:kX)
  |cA (j:Nat) (r:kX)
  |two (j k:Nat) (r s:kX)
  |three (j k l:Nat) (r s t:kX)
def yH(ops:Array Oper)(bR:List (Nat×Nat))(j:Nat):Bool:=
  TR ops bR j&&(match(ops[j]?).bind (·.dst)with|some d=>TS ops (bR.filter fun p=> !m5 ops p.1 j) d|none=>true)
def cw(ops:Array Oper):Array Bool→List (Nat×Nat)→kX→Bool
  |cb,_,.done=>(List.range ops.size).all (cb.getD · false)
  |cb,bR,.ct i r=>
    match(ops[i]?).bind (·.dst)with
    |some d=> !cb.getD i false&&TR ops bR i&&TS ops bR d&& !(jo ops i).contains d&&cw ops (cb.setIfInBounds i true) ((i,d)::bR) r
    |none=>false
  |cb,bR,.cA j r=>(Region.ready .any ops cb== [j])&&(yH ops bR j&&cw ops (cb.setIfInBounds j true) (bR.filter fun p=> !m5 ops p.1 j) r)
  | cb,bR,.two j k r s=>(Region.ready .any ops cb== [j,k])&&((yH ops bR j&&cw ops (cb.setIfInBounds j true) (bR.filter fun p=> !m5 ops p.1 j) r)&&
      (yH ops bR k&&cw ops (cb.setIfInBounds k true) (bR.filter fun p=> !m5 ops p.1 k) s))
  | cb,bR,.three j k l r s t=>(Region.ready .any ops cb== [j,k,l])&&((yH ops bR j&&cw ops (cb.setIfInBounds j true) (bR.filter fun p=> !m5 ops p.1 j) r)&&
      ((yH ops bR k&&cw ops (cb.setIfInBounds k true) (bR.filter fun p=> !m5 ops p.1 k) s)&&(yH ops bR l&&cw ops (cb.setIfInBounds l true) (bR.filter fun p=> !m5 ops p.1 l) t)))
structure Part(n:Nat)(σ:Env)(ds:List dN)(D:List Nat)(a:Act):Prop where
  size:a.tmps.size=n
  defers:a.defers=marksOf ds
  val:∀d v,look d σ=some v→d∉D→a.tmps[d]? =some v
  lt:∀d∈D,d<n
structure qa(D:List Nat)(a b:Act):Prop where
  size:b.tmps.size=a.tmps.size
  defers:b.defers=a.defers
  same:∀t,t∉D→b.tmps[t]? =a.tmps[t]?
theorem Part.complete{n:Nat}{D:List Nat}{a:Act}(h:Part n σ ds D a):∃b,gq n σ ds b∧qa D a b:=by
 refine⟨{tmps:=a.tmps.mapIdx fun i x=>if i∈D then(look i σ).getD x else x,defers:=a.defers},⟨by simp[h.size],fun d v aH=> ?_,h.defers⟩,⟨by simp,rfl,fun t ar=>by simp[Array.getElem?_mapIdx,ar]⟩⟩;by_cases fK:d∈D;have av:d<a.tmps.size:=by rw[h.size];exact h.lt d fK
 simp[fK,aH,av];simp[Array.getElem?_mapIdx,fK,h.val d v aH fK]
theorem qa.back{n:Nat}{D:List Nat}{a b:Act}(h:gq n σ ds b)(aq:qa D a b)(fK:∀d∈D,d<n):Part n σ ds D a:=
  ⟨aq.size.symm.trans h.size,aq.defers.symm.trans h.defers,fun d v aH aD=>(aq.same d aD).symm.trans (h.val d v aH),fK⟩
theorem qa.put{D:List Nat}{a b:Act}(h:qa D a b){d:Option Nat}(v:Value):qa D (a.put d v) (b.put d v):=by
 cases d with
 |none=>exact h
 |some d=>refine⟨by simp[Act.put,h.size],h.defers,fun t ar=> ?_⟩;by_cases e:d=t;subst e;simp only[Act.put,Array.getElem?_setIfInBounds];simp[h.size];simp[Act.put,Array.getElem?_setIfInBounds_ne e,h.same t ar]
theorem qa.eval{D:List Nat}{a b:Act}(h:qa D a b){x:Operand}(af:∀t,x=.tmp t→t∉D):b.eval x=a.eval x:=by
 cases x with
 |tmp t=>simp[Act.eval,h.same t (af t rfl)]
 |_=>rfl
theorem qa.exec{D:List Nat}{a b:Act}(h:qa D a b){o:Oper}(ao:∀cs b,o.op≠ .select cs b)(af:∀t∈o.looksAt ops,t∉D):execOp b.eval o=execOp a.eval o:=
  execOp_congr o ao fun x M4=>h.eval fun t e=>af t (by subst e;exact List.mem_append_left _ (List.mem_filterMap.2 ⟨.tmp t,by simpa using M4,rfl⟩))
theorem qa.wanted{D:List Nat}{a b:Act}(h:qa D a b){o:Oper}(af:∀t∈o.looksAt ops,t∉D):Region.wanted o (yielded ops b.tmps)=Region.wanted o (yielded ops a.tmps):=by
 unfold Region.wanted
 cases aM:o.guard with
 |none=>rfl
 |some afx=>
  obtain⟨g,want⟩:=afx
  have aw:yielded ops b.tmps g=yielded ops a.tmps g:=by
   unfold yielded
   cases ar:(ops[g]?).bind (·.dst)with
   |none=>rfl
   |some t=>
     have:t∉D:=af t (by simp[Oper.looksAt,aM,ar])
     simp[h.same t this]
  simp only[aw]
def q9(Q:Exit→Act→World→Prop):Exit→Act→World→Prop
  |.panic h3,b,w=>∀a,a.defers=b.defers→Q (.panic h3) a w
  |_,_,_=>False
theorem afy {D:List Nat} {a b:Act} {w:World} {K:Act→World→Prop} {o:Oper} {j:Nat} (bQ:ops[j]? =some o) (h:qa D a b) (ao:∀cs b,o.op≠ .select cs b) (aH:∀c,o.op≠ .defer c)
 (af:∀t∈o.looksAt ops,t∉D) (hw:wpListIn C.F 0 C.P ops (Exit.then K (q9 Q)) [o] b w):wpOpIn C.F 0 C.P ops Q j (fun eQ w'=>∃b',qa D eQ b'∧K b' w') a w:=by
 simp only[wpListIn]at hw;unfold wpOpIn;simp only[bQ];rw[h.wanted af]at hw;split;rename_i EO;rw[if_pos EO]at hw;unfold Oper.wpIn at*;refine⟨fun _ _=>trivial,?_⟩;have ku:=hw.2;rw[semAt_eq _ _ _ aH]at ku⊢;rw[h.exec ao af]at ku;have lets:LetsOut (Exit.then K (q9 Q))→LetsOut Q:=fun⟨_,_,h⟩=>h.elim;generalize (execOp a.eval o).run C.P w=r at*
 cases r with
 |ok n w'=>
  cases n<;>simp only[Oper.uponIn]at ku⊢;case value v=>exact⟨_,h.put v,ku⟩
  case skip=>exact⟨_,h.put _,ku⟩
  case defer d=>exact⟨_,(show qa D {a with defers:=d::a.defers} {b with defers:=d::b.defers}from⟨h.size,by simp[h.defers],h.same⟩).put _,ku⟩
  case enter f args=>
   refine⟨ku.1,ku.2.mono fun e jE he=> ?_⟩
   cases e with
   |returned v=>exact⟨_,h.put v,he⟩
   |panicked c=>exact he a h.defers.symm
   |outgrown=>exact lets he
  case row row args=>exact⟨ku.1,ku.2.mono fun v jE he=>⟨_,h.put v,he⟩⟩
  case round l f tmps e7 body=>
   refine⟨ku.1,ku.2.mono fun e jE he=> ?_⟩
   cases e with
   |returned v=>exact⟨_,h.put v,he⟩
   |panicked c=>exact he a h.defers.symm
   |outgrown=>exact lets he
 |halt x w'=>cases x<;>simp only[Oper.uponIn]at ku⊢;case panic v=>exact ku a h.defers.symm
 rename_i EO;rw[if_neg EO]at hw;exact⟨fun _ _=>trivial,_,h.put _,hw.2⟩
def l4(C:Ctx)(ops:Array Oper)(cm:aa)(b7:List ay)(σ:Env)(ds:List dN)(i d:Nat)(v:Value):Prop:=
  ∃o,ops[i]? =some o∧o.dst=some d∧look d σ=some v∧d∉o.looksAt ops∧∀D a w,Part C.n σ ds D a→(∀t∈o.looksAt ops,t∉D)→Sat w cm b7→
    (∀c,o.op≠ .defer c)∧((Region.wanted o (yielded ops a.tmps)=true∧(execOp a.eval o).run C.P w=.ok (.value v) w)∨(Region.wanted o (yielded ops a.tmps)=false∧v=undef))
theorem cz.TT{op:Op}{v:Value}(h:cz C σ ds I δ op v){a:Act}{w:World}(he:gq C.n σ ds a)(ao:Sat w I δ):∀cs b,op≠ .select cs b:=by
 intro cs b aq;subst aq;have:=h none 0 "" #[] none a w he ao;simp only[execOp,Sem.run_bind]at this;generalize (Array.mapM _ cs:Sem _).run C.P w=r at this;cases r<;>simp at this
theorem Part.less{n d:Nat}{u:Value}{D:List Nat}{a:Act}(h:Part n ((d,u)::σ) ds D a)(aH:d<n):Part n σ ds (d::D) a:=
  ⟨h.size,h.defers,fun t v ar aD=>h.val t v (by
   rw[tb,if_neg (fun e=>aD (by simp[e]))];exact ar) (fun hm=>aD (List.mem_cons_of_mem _ hm)),fun t ar=>by
   rcases List.mem_cons.1 ar with rfl|ar
   exact aH;exact h.lt t ar⟩
theorem Part.ID{n d:Nat}{u:Value}{D:List Nat}{a:Act}(h:Part n ((d,u)::σ) ds D a):d<n:=by
 by_cases hm:d∈D;exact h.lt d hm;have:=h.val d u (by simp[tb]) hm;rw[←h.size];exact(Array.getElem?_eq_some_iff.1 this).1
theorem l4.ext{cm:aa}{b7:List ay}{i d hF:Nat}{v u:Value}(h:l4 C ops cm b7 σ ds i d v)(aH:hF∉jo ops i)(cu:d≠hF):l4 C ops cm b7 ((hF,u)::σ) ds i d v:=by
 obtain⟨o,ab,ae,aF,bb,eX⟩:=h;have eu:jo ops i=o.looksAt ops:=by simp[jo,ab]
 refine⟨o,ab,ae,by rw[tb,if_neg (fun e=>cu e.symm)];exact aF,bb,fun D a w az af ao=> ?_⟩
 exact eX (hF::D) a w (az.less az.ID) (fun t ar hm=>by
  rcases List.mem_cons.1 hm with rfl|hm
  exact aH (eu▸ar);exact af t ar hm) ao
theorem l4.mk {cm:aa} {b7:List ay} {i d:Nat} {v:Value} {op:Op} {ty:TypeId} {pos:String} {after:Array Edge} (bQ:ops[i]? =some {dst:=some d,op:=op,type:=ty,pos:=pos,after:=after,guard:=none})
 (h:cz C σ ds cm b7 op v) (aH:d∉jo ops i):l4 C ops cm b7 ((d,v)::σ) ds i d v:=by
 have eu:jo ops i=Oper.looksAt ops {dst:=some d,op:=op,type:=ty,pos:=pos,after:=after,guard:=none}:=by simp[jo,bQ]
 refine⟨_,bQ,rfl,by simp[tb],eu▸aH,fun D a w az af ao=> ?_⟩;have sd:=az.less az.ID;obtain⟨b,al,aq⟩:=sd.complete
 have lr:∀t∈Oper.looksAt ops {dst:=some d,op:=op,type:=ty,pos:=pos,after:=after,guard:=none},t∉d::D:=fun t ar hm=>by
  rcases List.mem_cons.1 hm with rfl|hm
  exact aH (eu▸ar);exact af t ar hm
 refine⟨h.MU al ao,.inl ⟨by simp[Region.wanted],?_⟩⟩;rw[←aq.exec (h.TT al ao) lr];exact h _ _ _ _ _ b w al ao
theorem l4.afz {cm:aa} {b7:List ay} {i d j t:Nat} {b:Bool} {v:Value} {op:Op} {ty:TypeId} {pos:String} {after:Array Edge} (bQ:ops[i]? =some {dst:=some d,op:=op,type:=ty,pos:=pos,after:=after,guard:=some (j,b)})
 (au:(ops[j]?).bind (·.dst)=some t) (ax:look t σ=some (.bool b)) (h:cz C σ ds cm b7 op v) (aH:d∉jo ops i):l4 C ops cm b7 ((d,v)::σ) ds i d v:=by
 have eu:jo ops i=Oper.looksAt ops {dst:=some d,op:=op,type:=ty,pos:=pos,after:=after,guard:=some (j,b)}:=by simp[jo,bQ]
 refine⟨_,bQ,rfl,by simp[tb],eu▸aH,fun D a w az af ao=> ?_⟩;have sd:=az.less az.ID;obtain⟨b',al,aq⟩:=sd.complete
 have lr:∀t∈Oper.looksAt ops {dst:=some d,op:=op,type:=ty,pos:=pos,after:=after,guard:=some (j,b)},t∉d::D:=fun t ar hm=>by
  rcases List.mem_cons.1 hm with rfl|hm
  exact aH (eu▸ar);exact af t ar hm
 refine⟨h.MU al ao,.inl ⟨?_,?_⟩⟩;rw[←aq.wanted lr];simp[Region.wanted,yielded,au,al.val t _ ax];rw[←aq.exec (h.TT al ao) lr];exact h _ _ _ _ _ b' w al ao
theorem l4.afA {cm:aa} {b7:List ay} {i d j t:Nat} {b:Bool} {u:Value} {op:Op} {ty:TypeId} {pos:String} {after:Array Edge} (bQ:ops[i]? =some {dst:=some d,op:=op,type:=ty,pos:=pos,after:=after,guard:=some (j,b)})
 (afB:∀c,op≠ .defer c) (au:(ops[j]?).bind (·.dst)=some t) (ax:look t σ=some u) (cu:u≠ .bool b) (aH:d∉jo ops i):l4 C ops cm b7 ((d,undef)::σ) ds i d undef:=by
 have eu:jo ops i=Oper.looksAt ops {dst:=some d,op:=op,type:=ty,pos:=pos,after:=after,guard:=some (j,b)}:=by simp[jo,bQ]
 refine⟨_,bQ,rfl,by simp[tb],eu▸aH,fun D a w az af ao=>⟨afB,.inr ⟨?_,rfl⟩⟩⟩;have sd:=az.less az.ID;obtain⟨b',al,aq⟩:=sd.complete
 have lr:∀t∈Oper.looksAt ops {dst:=some d,op:=op,type:=ty,pos:=pos,after:=after,guard:=some (j,b)},t∉d::D:=fun t ar hm=>by
  rcases List.mem_cons.1 hm with rfl|hm
  exact aH (eu▸ar);exact af t ar hm
 rw[←aq.wanted lr];have:(yielded ops b'.tmps j==some b)=false:=by simp only[yielded,au,Option.bind_some,al.val t _ ax];cases u<;>simp_all
 simp[Region.wanted,this]
def CI(ops:Array Oper)(cb:Array Bool):Nat:=((List.range ops.size).filter fun j=> !cb.getD j false).length
theorem filter_lt{α:Type}{p q:α→Bool}:∀(l:List α),(∀x∈l,q x=true→p x=true)→(∃x∈l,p x=true∧q x=false)→(l.filter q).length<(l.filter p).length
  | [],_,⟨x,af,_⟩=>by cases af
  |y::l,ab,ae=>by
   have hle:∀m:List α,(∀x∈m,q x=true→p x=true)→(m.filter q).length≤(m.filter p).length:=by
    intro m
    induction m with
    |nil=>simp
    |cons z m aY=>intro h;have:=aY (fun x af=>h x (List.mem_cons_of_mem _ af));have a2:=h z (List.mem_cons_self ..);cases aC:q z<;>cases az:p z<;>simp_all<;>omega
   have aA:=hle l (fun x af=>ab x (List.mem_cons_of_mem _ af));have aw:=ab y (List.mem_cons_self ..);cases aC:q y<;>cases az:p y;obtain⟨x,af,m6,hG⟩:=ae;rcases List.mem_cons.1 af with rfl|af
   rw[az]at m6;cases m6;simpa[aC,az]using filter_lt l (fun x af=>ab x (List.mem_cons_of_mem _ af)) ⟨x,af,m6,hG⟩;simp[aC,az];omega;rw[aC,az]at aw;simp at aw;obtain⟨x,af,m6,hG⟩:=ae;rcases List.mem_cons.1 af with rfl|af
   rw[aC]at hG;cases hG;simpa[aC,az]using filter_lt l (fun x af=>ab x (List.mem_cons_of_mem _ af)) ⟨x,af,m6,hG⟩
theorem yI{cb:Array Bool}{i j:Nat}(aj:i<cb.size):(cb.setIfInBounds i true).getD j false=if i=j then true else cb.getD j false:=by
 by_cases h:i=j;subst h;simp[aj];simp[h,Array.getElem?_setIfInBounds_ne h]
theorem M5{cb:Array Bool}{i:Nat}(ao:cb.size=ops.size)(aj:i<ops.size)(hu:cb.getD i false=false):CI ops (cb.setIfInBounds i true)<CI ops cb:=by
 unfold CI;refine filter_lt _ (fun x _ af=> ?_) ⟨i,List.mem_range.2 aj,by simp only[hu];rfl,by rw[yI (by omega)];simp⟩;rw[yI (by omega)]at af;split at af;simp at af;exact af
theorem afC{cb:Array Bool}(al:yG ops=true)(ao:cb.size=ops.size)(an:Region.ready .any ops cb= []):∀j,j<ops.size→cb.getD j false=true:=by
 intro j
 induction j using Nat.strongRecOn with
 |_ j aY=>
  intro au
  cases aA:cb.getD j false with
  |true=>rfl
  |false=>
   exfalso
   have hm:j∈Region.ready .any ops cb:=by
    rw[mem_ready];have bQ:ops[j]? =some ops[j]:=by simp[au]
    refine⟨?_,_,bQ,fun e he CJ=> ?_⟩;have:cb.getD j true=cb.getD j false:=by simp[ao,au]
    rw[this];exact aA;have ab:=List.all_eq_true.1 al j (List.mem_range.2 au);rw[bQ]at ab;have ae:=Array.all_eq_true_iff_forall_mem.1 ab e he;simp only[CJ,Bool.not_true,Bool.false_or,Nat.blt_eq]at ae;exact aY e.on ae (by omega)
   rw[an]at hm;cases hm
abbrev h4:=List (Nat×Nat×Value)
def xe(cm I:aa)(b7:Nat→List ay)(bR:h4)(δ:List ay):Prop:=∀p∈bR,cm.le I∧∀x∈b7 p.1,x∈δ
def idx(bR:h4):List (Nat×Nat):=bR.map fun p=>(p.1,p.2.1)
structure hR(C:Ctx)(ops:Array Oper)(Q:Exit→Act→World→Prop)(cm:aa)(b7:Nat→List ay)(ord:kX)(bR:h4)(cb:Array Bool)(σ:Env)(ds:List dN)(I:aa)(δ:List ay):Prop where
  run:yG ops=true→cb.size=ops.size→cw ops cb (idx bR) ord=true→(∀i,(eg (b7 i)).Nodup)→(∀p∈bR,l4 C ops cm (b7 p.1) σ ds p.1 p.2.1 p.2.2)→(∀p∈bR,cm.le I∧∀x∈b7 p.1,x∈δ)→(∀p∈bR,∀q∈bR,m5 ops q.1 p.1=true∨q.2.1∉jo ops p.1)→(∀p∈bR,cb.getD p.1 false=true)→
    ∀(U:h4) (l:Array Bool) (fuel:Nat) (a:Act) (w:World),(∀p∈U,p∈bR)→l.size=ops.size→(∀j,l.getD j false=true↔cb.getD j false=true∧∀p∈U,p.1≠j)→CI ops l≤fuel→
      Part C.n σ ds (U.map (·.2.1)) a→Sat w I δ→er C.aG C.I0 C.cl w I δ→wpAnyIn C.F 0 C.P .any ops Q fuel l a w
theorem Sat.afD{w:World}{cm:aa}{b7:List ay}(h:Sat w I δ)(aA:cm.le I)(hk:∀x∈b7,x∈δ)(aD:(eg b7).Nodup):Sat w cm b7:=
  ⟨fun b o al=>h.gE b o (aA b o al),fun x af=>h.dQ x (hk x af),aD,fun b al=>by
   obtain⟨x,af,xb⟩:=List.mem_filterMap.1 al;have ab:=h.apart b (List.mem_filterMap.2 ⟨x,hk x af,xb⟩)
   cases ae:cm b with
   |none=>rfl
   |some o=>rw[aA b o ae]at ab;cases ab⟩
theorem hR.IE {cm:aa} {b7:Nat→List ay} {ord:kX} {bR:h4} {cb:Array Bool}
 (vX:yG ops=true→cb.size=ops.size→cw ops cb (idx bR) ord=true→(∀j,j<ops.size→cb.getD j false=true)→∀a w,gq C.n σ ds a→Sat w I δ→er C.aG C.I0 C.cl w I δ→Q .normal a w)
 (afE:yG ops=true→cb.size=ops.size→cw ops cb (idx bR) ord=true→(∀i,(eg (b7 i)).Nodup)→(∀p∈bR,l4 C ops cm (b7 p.1) σ ds p.1 p.2.1 p.2.2)→(∀p∈bR,cm.le I∧∀x∈b7 p.1,x∈δ)→(∀p∈bR,∀q∈bR,m5 ops q.1 p.1=true∨q.2.1∉jo ops p.1)→(∀p∈bR,cb.getD p.1 false=true)→
 ∀j∈Region.ready .any ops cb,∀(U:h4) (l:Array Bool) (fuel:Nat) (a:Act) (w:World),(∀p∈U,p∈bR)→l.size=ops.size→(∀j,l.getD j false=true↔cb.getD j false=true∧∀p∈U,p.1≠j)→CI ops l≤fuel+1→
 j∈Region.ready .any ops l→Part C.n σ ds (U.map (·.2.1)) a→Sat w I δ→er C.aG C.I0 C.cl w I δ→wpOpIn C.F 0 C.P ops Q j (wpAnyIn C.F 0 C.P .any ops Q fuel (l.setIfInBounds j true)) a w):
 hR C ops Q cm b7 ord bR cb σ ds I δ:=by
 refine⟨fun al bD iN eY mH hk eR pc=> ?_⟩
 have TU:∀(U:h4) (l:Array Bool) (a:Act) (w:World),(∀p∈U,p∈bR)→l.size=ops.size→(∀j,l.getD j false=true↔cb.getD j false=true∧∀p∈U,p.1≠j)→
     Part C.n σ ds (U.map (·.2.1)) a→Sat w I δ→er C.aG C.I0 C.cl w I δ→Region.ready .any ops l= []→Q .normal a w:=by
   intro U l a w cM aA pd az ao ar an
   have cE:=afC al aA an
   have afF:U= []:=by
    cases U with
    |nil=>rfl
    |cons p U=>exfalso;obtain⟨o,bQ,_⟩:=mH p (cM p (List.mem_cons_self ..));have av:p.1<ops.size:=(Array.getElem?_eq_some_iff.1 bQ).1;exact((pd p.1).1 (cE p.1 av)).2 p (List.mem_cons_self ..) rfl
   subst afF
   refine vX al bD iN (fun j au=>((pd j).1 (cE j au)).1) a w ⟨az.size,fun d v aH=>az.val d v aH (by simp),az.defers⟩ ao ar
 intro U l fuel
 induction fuel generalizing U l with
 |zero=>
  intro a w cM aA pd EP az ao ar
  have an:Region.ready .any ops l= []:=by
   cases an:Region.ready .any ops l with
   |nil=>rfl
   |cons j rs=>
    exfalso;have hm:j∈Region.ready .any ops l:=by rw[an];exact List.mem_cons_self ..
    obtain⟨aB,o,bQ,_⟩:=mem_ready.1 hm;have av:j<ops.size:=(Array.getElem?_eq_some_iff.1 bQ).1
    have:l.getD j false=false:=by
     have:l.getD j true=l.getD j false:=by simp[aA,av]
     rw[←this];exact aB
    have:=M5 aA av this;omega
  exact⟨an,TU U l a w cM aA pd az ao ar an⟩
 |succ fuel aY=>
  intro a w cM aA pd EP az ao ar;refine⟨TU U l a w cM aA pd az ao ar,fun i aj=> ?_⟩;obtain⟨aB,o,bQ,IF⟩:=mem_ready.1 aj;have av:i<ops.size:=(Array.getElem?_eq_some_iff.1 bQ).1
  have jq:l.getD i false=false:=by
   have:l.getD i true=l.getD i false:=by simp[aA,av]
   rw[←this];exact aB
  by_cases gw:∃p∈U,p.1=i;obtain⟨p,ti,rfl⟩:=gw;obtain⟨o',xf,o9,M6,TV,iM⟩:=mH p (cM p ti);have:o'=o:=by rw[bQ]at xf;exact(Option.some.inj xf).symm
  subst this;have eu:jo ops p.1=o'.looksAt ops:=by simp[jo,bQ]
  have M7:∀t∈o'.looksAt ops,t∉U.map (·.2.1):=by
   intro t uO yJ;obtain⟨q,yK,rfl⟩:=List.mem_map.1 yJ;rcases eR p (cM p ti) q (cM q yK)with he|aD
   simp only[m5,bQ]at he;obtain⟨e,ER,Ax⟩:=Array.any_eq_true'.1 he;simp only[Bool.and_eq_true,beq_iff_eq]at Ax;have:=IF e ER Ax.1;rw[Ax.2]at this;exact((pd q.1).1 this).2 q yK rfl;exact aD (eu▸uO)
  have q_:=hk p (cM p ti);obtain⟨afG,afH⟩:=iM _ a w az M7 (ao.afD q_.1 q_.2 (eY p.1))
  have ly:wpAnyIn C.F 0 C.P .any ops Q fuel (l.setIfInBounds p.1 true) (a.put (some p.2.1) p.2.2) w:=by
   refine aY (U.filter fun q=>q.1 !=p.1) _ _ _ (fun q aC=>cM q (List.mem_filter.1 aC).1) (by simpa using aA) (fun j=> ?_) (by have:=M5 aA av jq;omega) ⟨by simp[Act.put,az.size],by simpa[Act.put]using az.defers,fun t u ar aD=> ?_,fun t ar=> ?_⟩ ao ar;rw[yI (by omega)];by_cases au:p.1=j;subst au;simp only[if_true,true_iff];exact⟨pc p (cM p ti),fun q aC e=>by have:=(List.mem_filter.1 aC).2;simp[e]at this⟩;rw[if_neg au,pd j];refine⟨fun⟨ab,ae⟩=>⟨ab,fun q aC=>ae q (List.mem_filter.1 aC).1⟩,fun⟨ab,ae⟩=>⟨ab,fun q aC e=> ?_⟩⟩;exact ae q (List.mem_filter.2 ⟨aC,by simp only[bne_iff_ne,ne_eq];intro jc;exact au (jc.symm.trans e)⟩) e;have afI:p.2.1<a.tmps.size:=by rw[az.size];exact az.lt _ (List.mem_map_of_mem ti)
   by_cases aH:p.2.1=t;subst aH;rw[M6]at ar;cases ar;simp[Act.put,afI];have hold:a.tmps[t]? =some u:=az.val t u ar (fun hm=>by obtain⟨q,yK,CK⟩:=List.mem_map.1 hm;by_cases pe:q.1=p.1;obtain⟨gx,pf,CL,_⟩:=mH q (cM q yK);rw[pe,bQ]at pf;cases pf;rw[o9]at CL;exact aH (by rw[←CK];exact Option.some.inj CL);exact aD (List.mem_map.2 ⟨q,List.mem_filter.2 ⟨yK,by simpa using pe⟩,CK⟩));simp[Act.put,Array.getElem?_setIfInBounds_ne aH,hold];obtain⟨q,aC,rfl⟩:=List.mem_map.1 ar;exact az.lt _ (List.mem_map_of_mem (List.mem_filter.1 aC).1)
  unfold wpOpIn;simp only[bQ];rcases afH with⟨lx,l5⟩|⟨M8,qb⟩
  rw[if_pos lx];unfold Oper.wpIn;refine⟨fun _ _=>trivial,?_⟩;rw[semAt_eq _ _ _ afG,l5,Oper.uponIn_value,o9];exact ly;rw[if_neg (by simp[M8])];refine⟨fun _ _=>trivial,?_⟩;rw[o9,←qb];exact ly
  have pg:cb.getD i false=false:=by
   cases aq:cb.getD i false with
   |false=>rfl
   |true=>
     have:=(pd i).2 ⟨aq,fun p az e=>gw ⟨p,az,e⟩⟩
     rw[jq]at this;cases this
  refine afE al bD iN eY mH hk eR pc i ?_ U l fuel a w cM aA pd EP aj az ao ar;rw[mem_ready]
  refine ⟨by have:cb.getD i true=cb.getD i false:=by simp[bD,av]
             rw[this];exact pg,o,bQ,fun e he CJ=>((pd e.on).1 (IF e he CJ)).1⟩
theorem afJ{cm:aa}{b7:Nat→List ay}{bR:h4}{cb:Array Bool}(h:bf C Q .normal σ ds I δ):hR C ops Q cm b7 .done bR cb σ ds I δ:=by
 refine hR.IE (fun _ _ _ _ a w he ao ar=>h a w he ao ar) ?_;intro _ bD iN _ _ _ _ _ j au;exfalso;obtain⟨aB,o,bQ,_⟩:=mem_ready.1 au;have av:j<ops.size:=(Array.getElem?_eq_some_iff.1 bQ).1;have ab:=List.all_eq_true.1 iN j (List.mem_range.2 av);have ae:cb.getD j true=cb.getD j false:=by simp[bD,av]
 rw[ae]at aB;have aF:cb.getD j false=true:=ab;rw[aF]at aB;cases aB
theorem Ay {cm:aa} {b7:Nat→List ay} {ord:kX} {bR:h4} {cb:Array Bool} {i d:Nat} {v:Value} (o9:(ops[i]?).bind (·.dst)=some d) (aH:Nat.blt d C.n=true) (mH:d∉jo ops i→l4 C ops cm (b7 i) ((d,v)::σ) ds i d v) (uP:cm.le I) (bT:∀x∈b7 i,x∈δ)
 (k:hR C ops Q cm b7 ord ((i,d,v)::bR) (cb.setIfInBounds i true) ((d,v)::σ) ds I δ):hR C ops Q cm b7 (.ct i ord) bR cb σ ds I δ:=by
 refine⟨fun al bD iN eY afK hk eR pc=> ?_⟩;simp only[cw,o9,Bool.and_eq_true,Bool.not_eq_eq_eq_not,Bool.not_true]at iN;obtain⟨⟨⟨⟨jq,M9⟩,q_⟩,TV⟩,ly⟩:=iN;have TW:d∉jo ops i:=by simpa using TV
 have aj:i<ops.size:=by
  cases bQ:ops[i]? with
  |none=>simp[bQ]at o9
  |some o=>exact(Array.getElem?_eq_some_iff.1 bQ).1
 have M_:∀p∈bR,d∉jo ops p.1∧p.2.1≠d:=fun p az=>by have:=List.all_eq_true.1 q_ (p.1,p.2.1) (List.mem_map_of_mem (f:=fun p:Nat×Nat×Value=>(p.1,p.2.1)) az);simpa using this
 have afL:∀p∈bR,m5 ops p.1 i=true∨p.2.1∉jo ops i:=fun p az=>by have:=List.all_eq_true.1 M9 (p.1,p.2.1) (List.mem_map_of_mem (f:=fun p:Nat×Nat×Value=>(p.1,p.2.1)) az);simpa using this
 have ir:=k.run al (by simpa using bD) ly eY (fun p az=>by
     rcases List.mem_cons.1 az with rfl|az
     · exact mH TW
     · exact(afK p az).ext (M_ p az).1 (M_ p az).2) (fun p az=>by
     rcases List.mem_cons.1 az with rfl|az
     · exact⟨uP,bT⟩
     · exact hk p az)
   (fun p az q aC=>by
    rcases List.mem_cons.1 az with rfl|az<;>rcases List.mem_cons.1 aC with rfl|aC
    exact .inr TW;exact afL q aC;exact .inr (M_ p az).1;exact eR p az q aC)
   (fun p az=>by
    rw[yI (by omega)];split;rfl;rcases List.mem_cons.1 az with rfl|az
    rename_i cu;exact absurd rfl cu;exact pc p az)
 intro U l fuel a w cM aA pd EP az ao ar;have ES:d<C.n:=by simpa[Nat.blt_eq]using aH
 refine ir ((i,d,v)::U) l fuel a w (fun p az=> ?_) aA (fun j=> ?_) EP ⟨az.size,az.defers,fun t u uO aD=> ?_,fun t yJ=> ?_⟩ ao ar;rcases List.mem_cons.1 az with rfl|az
 exact List.mem_cons_self ..;exact List.mem_cons_of_mem _ (cM p az);rw[pd j,yI (by omega)];by_cases ob:i=j;subst ob;simp only[if_true,true_and];constructor;rintro⟨ab,_⟩;rw[jq]at ab;cases ab;intro h;exact absurd rfl (h (i,d,v) (List.mem_cons_self ..));simp only[if_neg ob];refine and_congr Iff.rfl ⟨fun h p az=> ?_,fun h p az=>h p (List.mem_cons_of_mem _ az)⟩;rcases List.mem_cons.1 az with rfl|az
 exact ob;exact h p az;simp only[List.map_cons,List.mem_cons,not_or]at aD;rw[tb,if_neg (fun e=>aD.1 e.symm)]at uO;exact az.val t u uO aD.2;simp only[List.map_cons,List.mem_cons]at yJ;rcases yJ with rfl|yJ
 exact ES;exact az.lt t yJ
def Next(C:Ctx)(ops:Array Oper)(Q:Exit→Act→World→Prop)(cm:aa)(b7:Nat→List ay)(ord:kX)(bR:h4)(cb:Array Bool)(σ:Env)(ds:List dN)(dst:Option Nat):Act→World→Prop:=fun a w=>
  ∃aL ai δ',(aL=σ∨∃d v,dst=some d∧aL=(d,v)::σ)∧(∀p∈bR,cm.le ai∧∀x∈b7 p.1,x∈δ')∧gq C.n aL ds a∧Sat w ai δ'∧er C.aG C.I0 C.cl w ai δ'∧
    hR C ops Q cm b7 ord bR cb aL ds ai δ'
def still(ops:Array Oper)(bR:h4)(j:Nat):h4:=bR.filter fun p=> !m5 ops p.1 j
theorem CM {cm:aa} {b7:Nat→List ay} {ord:kX} {bR:h4} {cb:Array Bool} {i:Nat} {o:Oper} (bQ:ops[i]? =some o) (kv:∀cs b,o.op≠ .select cs b) (Az:∀c,o.op≠ .defer c)
 (k:aK C ops (Exit.then (Next C ops Q cm b7 ord (still ops bR i) (cb.setIfInBounds i true) σ ds o.dst) (q9 Q)) [o] σ ds I δ)
 (al:yG ops=true) (bD:cb.size=ops.size) (cn:yH ops (idx bR) i=true) (ly:cw ops (cb.setIfInBounds i true) ((idx bR).filter fun p=> !m5 ops p.1 i) ord=true) (eY:∀i,(eg (b7 i)).Nodup)
 (mH:∀p∈bR,l4 C ops cm (b7 p.1) σ ds p.1 p.2.1 p.2.2) (hk:∀p∈bR,cm.le I∧∀x∈b7 p.1,x∈δ) (eR:∀p∈bR,∀q∈bR,m5 ops q.1 p.1=true∨q.2.1∉jo ops p.1) (pc:∀p∈bR,cb.getD p.1 false=true) (tj:i∈Region.ready .any ops cb)
 (U:h4) (l:Array Bool) (fuel:Nat) (a:Act) (w:World) (cM:∀p∈U,p∈bR) (aA:l.size=ops.size) (pd:∀j,l.getD j false=true↔cb.getD j false=true∧∀p∈U,p.1≠j) (EP:CI ops l≤fuel+1)
 (e0:i∈Region.ready .any ops l) (az:Part C.n σ ds (U.map (·.2.1)) a) (ao:Sat w I δ) (ar:er C.aG C.I0 C.cl w I δ):wpOpIn C.F 0 C.P ops Q i (wpAnyIn C.F 0 C.P .any ops Q fuel (l.setIfInBounds i true)) a w:=by
 have eu:jo ops i=o.looksAt ops:=by simp[jo,bQ]
 have au:i<ops.size:=(Array.getElem?_eq_some_iff.1 bQ).1;simp only[yH,Bool.and_eq_true]at cn;obtain⟨M9,q_⟩:=cn;obtain⟨aB,o',xf,IF⟩:=mem_ready.1 e0;have:o'=o:=by rw[bQ]at xf;exact(Option.some.inj xf).symm
 subst this
 have jq:l.getD i false=false:=by
  have:l.getD i true=l.getD i false:=by simp[aA,au]
  rw[←this];exact aB
 have pg:cb.getD i false=false:=by
  have aB:=(mem_ready.1 tj).1;have:cb.getD i true=cb.getD i false:=by simp[bD,au]
  rw[←this];exact aB
 have TX:∀p∈U,m5 ops p.1 i=false:=fun p ti=>by
  cases he:m5 ops p.1 i with
  |false=>rfl
  |true=>exfalso;simp only[m5,bQ]at he;obtain⟨e,ER,Ax⟩:=Array.any_eq_true'.1 he;simp only[Bool.and_eq_true,beq_iff_eq]at Ax;have:=IF e ER Ax.1;rw[Ax.2]at this;exact((pd p.1).1 this).2 p ti rfl
 have afM:∀p∈U,p∈still ops bR i:=fun p ti=>List.mem_filter.2 ⟨cM p ti,by simp[TX p ti]⟩;have M7:∀t∈o'.looksAt ops,t∉U.map (·.2.1):=by intro t uO yJ;obtain⟨q,yK,rfl⟩:=List.mem_map.1 yJ;have:=List.all_eq_true.1 M9 (q.1,q.2.1) (List.mem_map_of_mem (f:=fun p:Nat×Nat×Value=>(p.1,p.2.1)) (cM q yK));simp only[TX q yK,Bool.false_or,eu]at this;simp[uO]at this
 obtain⟨b,CJ,CN⟩:=az.complete;have iM:=afy (Q:=Q) bQ CN kv Az M7 (k b w CJ ao ar);refine wpOpIn_mono ?_ iM;rintro eQ w' ⟨b',afN,aL,ai,δ',Na,ir,o_,kt,l1,afO⟩;have TY:(idx bR).filter (fun p=> !m5 ops p.1 i)=idx (still ops bR i):=by simp only[idx,still,List.filter_map];rfl
 rw[TY]at ly;have ET:∀p∈still ops bR i,p∈bR:=fun p az=>(List.mem_filter.1 az).1;refine afO.run al (by simpa using bD) ly eY (fun p sd=> ?_) ir (fun p az q aC=>eR p (ET p az) q (ET q aC)) (fun p sd=> ?_) U _ fuel eQ w' afM (by simpa using aA) (fun j=> ?_) (by have:=M5 aA au jq;omega) (afN.back o_ az.lt) kt l1;rcases Na with rfl|⟨d,v,aH,rfl⟩
 exact mH p (ET p sd);have Nb:=q_;simp only[bQ,Option.bind_some,aH]at Nb;rw[TY]at Nb;have:=List.all_eq_true.1 Nb (p.1,p.2.1) (List.mem_map_of_mem (f:=fun p:Nat×Nat×Value=>(p.1,p.2.1)) sd);simp at this;exact(mH p (ET p sd)).ext this.1 this.2;rw[yI (by omega)];split;rfl;exact pc p (ET p sd);rw[yI (by omega),yI (by omega)];by_cases ob:i=j;subst ob;simp only[if_true,true_and,true_iff];intro p ti e;have:=pc p (cM p ti);rw[e,pg]at this;cases this;simp only[if_neg ob];exact pd j
theorem Nc{cb:Array Bool}{j:Nat}(au:j<ops.size)(bD:cb.size=ops.size)(cE:∀j,j<ops.size→cb.getD j false=true)(hm:j∈Region.ready .any ops cb):False:=by
 have aB:=(mem_ready.1 hm).1;have ae:cb.getD j true=cb.getD j false:=by simp[bD,au]
 rw[ae,cE j au]at aB;cases aB
theorem afP {cm:aa} {b7:Nat→List ay} {ord:kX} {bR:h4} {cb:Array Bool} {j:Nat} {o:Oper} (bQ:ops[j]? =some o) (kv:∀cs b,o.op≠ .select cs b) (Az:∀c,o.op≠ .defer c)
 (k:aK C ops (Exit.then (Next C ops Q cm b7 ord (still ops bR j) (cb.setIfInBounds j true) σ ds o.dst) (q9 Q)) [o] σ ds I δ):hR C ops Q cm b7 (.cA j ord) bR cb σ ds I δ:=by
 have au:j<ops.size:=(Array.getElem?_eq_some_iff.1 bQ).1;refine hR.IE (fun _ bD iN cE=> ?_) ?_;exfalso;simp only[cw,Bool.and_eq_true,beq_iff_eq]at iN;exact Nc au bD cE (by rw[iN.1];exact List.mem_cons_self ..);intro al bD iN eY mH hk eR pc i aj;simp only[cw,Bool.and_eq_true,beq_iff_eq]at iN;obtain⟨an,cn,ly⟩:=iN;have tj:=aj;rw[an,List.mem_singleton]at aj;subst aj;exact CM bQ kv Az k al bD cn ly eY mH hk eR pc tj
theorem afQ {cm:aa} {b7:Nat→List ay} {ord CO:kX} {bR:h4} {cb:Array Bool} {j mI:Nat} {o o':Oper} (bQ:ops[j]? =some o) (kv:∀cs b,o.op≠ .select cs b) (Az:∀c,o.op≠ .defer c)
 (xf:ops[mI]? =some o') (Nd:∀cs b,o'.op≠ .select cs b) (Nf:∀c,o'.op≠ .defer c)
 (k:aK C ops (Exit.then (Next C ops Q cm b7 ord (still ops bR j) (cb.setIfInBounds j true) σ ds o.dst) (q9 Q)) [o] σ ds I δ)
 (cB:aK C ops (Exit.then (Next C ops Q cm b7 CO (still ops bR mI) (cb.setIfInBounds mI true) σ ds o'.dst) (q9 Q)) [o'] σ ds I δ):hR C ops Q cm b7 (.two j mI ord CO) bR cb σ ds I δ:=by
 have au:j<ops.size:=(Array.getElem?_eq_some_iff.1 bQ).1;refine hR.IE (fun _ bD iN cE=> ?_) ?_;exfalso;simp only[cw,Bool.and_eq_true,beq_iff_eq]at iN;exact Nc au bD cE (by rw[iN.1];exact List.mem_cons_self ..);intro al bD iN eY mH hk eR pc i aj;simp only[cw,Bool.and_eq_true,beq_iff_eq]at iN;obtain⟨an,⟨cn,ly⟩,AA,Ng⟩:=iN;have tj:=aj;rw[an]at aj;rcases List.mem_cons.1 aj with rfl|aj
 exact CM bQ kv Az k al bD cn ly eY mH hk eR pc tj;rw[List.mem_singleton]at aj;subst aj;exact CM xf Nd Nf cB al bD AA Ng eY mH hk eR pc tj
theorem TZ {cm:aa} {b7:Nat→List ay} {ord CO T0:kX} {bR:h4} {cb:Array Bool} {j mI IG:Nat} {o o' EU:Oper} (bQ:ops[j]? =some o) (kv:∀cs b,o.op≠ .select cs b) (Az:∀c,o.op≠ .defer c)
 (xf:ops[mI]? =some o') (Nd:∀cs b,o'.op≠ .select cs b) (Nf:∀c,o'.op≠ .defer c) (afR:ops[IG]? =some EU) (afS:∀cs b,EU.op≠ .select cs b) (afT:∀c,EU.op≠ .defer c)
 (k:aK C ops (Exit.then (Next C ops Q cm b7 ord (still ops bR j) (cb.setIfInBounds j true) σ ds o.dst) (q9 Q)) [o] σ ds I δ)
 (cB:aK C ops (Exit.then (Next C ops Q cm b7 CO (still ops bR mI) (cb.setIfInBounds mI true) σ ds o'.dst) (q9 Q)) [o'] σ ds I δ)
 (afU:aK C ops (Exit.then (Next C ops Q cm b7 T0 (still ops bR IG) (cb.setIfInBounds IG true) σ ds EU.dst) (q9 Q)) [EU] σ ds I δ):hR C ops Q cm b7 (.three j mI IG ord CO T0) bR cb σ ds I δ:=by
 have au:j<ops.size:=(Array.getElem?_eq_some_iff.1 bQ).1;refine hR.IE (fun _ bD iN cE=> ?_) ?_;exfalso;simp only[cw,Bool.and_eq_true,beq_iff_eq]at iN;exact Nc au bD cE (by rw[iN.1];exact List.mem_cons_self ..);intro al bD iN eY mH hk eR pc i aj;simp only[cw,Bool.and_eq_true,beq_iff_eq]at iN;obtain⟨an,⟨cn,ly⟩,⟨AA,Ng⟩,afV,afW⟩:=iN;have tj:=aj;rw[an]at aj;rcases List.mem_cons.1 aj with rfl|aj
 exact CM bQ kv Az k al bD cn ly eY mH hk eR pc tj;rcases List.mem_cons.1 aj with rfl|aj
 exact CM xf Nd Nf cB al bD AA Ng eY mH hk eR pc tj;rw[List.mem_singleton]at aj;subst aj;exact CM afR afS afT afU al bD afV afW eY mH hk eR pc tj
theorem tk {id:Nat} {l:List Oper} (ord:kX) (b7:Nat→List ay) (hm:C.P.follows .mixedOrders=true) (al:yG l.toArray=true) (aq:cw l.toArray (Array.replicate l.toArray.size false) [] ord=true) (hk:∀i,(b7 i).Sublist δ)
 (k:hR C l.toArray Q I b7 ord [] (Array.replicate l.toArray.size false) σ ds I δ):bJ C (.region id l.toArray true) Q σ ds I δ:=by
 intro a w he ao ar;refine wpIn_region_any hm ?_;obtain⟨s',t'⟩:=ao.drew;refine k.run al (by simp) aq (fun i=>ao.nodup.sublist ((hk i).filterMap _)) (fun p az=>by cases az) (fun p az=>by cases az) (fun p az=>by cases az) (fun p az=>by cases az) [] _ _ a _ (fun p az=>by cases az) (by simp) (fun j=> ?_) ?_ ⟨he.size,he.defers,fun d v aH _=>he.val d v aH,fun d aH=>by cases aH⟩ s' (ar.trans t');constructor;intro h;exact⟨h,fun p az=>by cases az⟩;intro h;exact h.1;exact Nat.le_trans (List.length_filter_le _ _) (by simp)
theorem jY {cm:aa} {b7:Nat→List ay} {ord:kX} {bR:h4} {cb:Array Bool} {d:Nat} {v:Value} {dst:Option Nat} (aH:dst=some d) (hk:xe cm I b7 bR δ)
    (k:hR C ops Q cm b7 ord bR cb ((d,v)::σ) ds I δ):bf C (Exit.then (Next C ops Q cm b7 ord bR cb σ ds dst) (q9 Q)) .normal ((d,v)::σ) ds I δ:=
  fun _ _ he ao ar=>⟨_,I,δ,.inr ⟨d,v,aH,rfl⟩,hk,he,ao,ar,k⟩
theorem yL {cm:aa} {b7:Nat→List ay} {ord:kX} {bR:h4} {cb:Array Bool} {dst:Option Nat} (hk:xe cm I b7 bR δ)
    (k:hR C ops Q cm b7 ord bR cb σ ds I δ):bf C (Exit.then (Next C ops Q cm b7 ord bR cb σ ds dst) (q9 Q)) .normal σ ds I δ:=
  fun _ _ he ao ar=>⟨_,I,δ,.inl rfl,hk,he,ao,ar,k⟩
theorem T1{cm:aa}{b7:Nat→List ay}{bR:h4}(h:bR= []):xe cm I b7 bR δ:=by subst h;intro p az;cases az
theorem kY{cm:aa}{b7:Nat→List ay}{bR:h4}(ab:cm.le I)(ae:∀i,∀x∈b7 i,x∈δ):xe cm I b7 bR δ:=fun p _=>⟨ab,ae p.1⟩
def two(k:Nat)(A B:List ay)(i:Nat):List ay:=bif Nat.blt i k then A else B
theorem xg{k:Nat}{A B:List ay}(ab:A.Sublist δ)(ae:B.Sublist δ)(i:Nat):(two k A B i).Sublist δ:=by unfold two;cases Nat.blt i k<;>assumption
theorem EV{cm:aa}{k:Nat}{A B:List ay}{bR:h4}(az:bR.all (fun p=> !(Nat.blt p.1 k))=true)(ab:cm.le I)(ae:∀x∈B,x∈δ):xe cm I (two k A B) bR δ:=fun p hm=>by have:=List.all_eq_true.1 az p hm;simp only[Bool.not_eq_true']at this;exact⟨ab,by unfold two;rw[this];exact ae⟩
end
section
variable {C:Ctx} {Q:Exit→Act→World→Prop} {σ:Env} {ds:List dN} {I:aa} {δ:List ay} {ops:Array Oper} {rest:List Oper}
variable {d:Nat} {ty:TypeId} {pos:String} {after:Array Edge}
theorem m7 {t e:TypeId} {x y:Operand} {ad:Option Addr} {n c h size:Nat} (ar:C.P.underlying t=some (.slice e)) (bD:(C.P.info? e).map (·.size)=some size)
    (af:bp σ x=some (.slice ad n c)) (aw:bp σ y=some (.int .i64 (h:Int))) (bK:h≤c):cz C σ ds I δ (.slice t x none (some y) none) (.slice ad h c):=
  fun _ _ _ _ _ a w he _=>by
   have hu:(underlying t).run C.P w=.ok (.slice e) w:=by simp[underlying,program,Sem.run,ar]
   cases aC:C.P.info? e with
   |none=>simp[aC]at bD
   |some inf=>simp[aC]at bD;simp[execOp,he.cr af,he.cr aw,Instr.sliceAt,Instr.slice,Instr.sliceBounds,Instr.sliceBound,asIntOf,hu,sizeOf,typeInfo,program,Sem.run,aC,bK];cases ad<;>simp[Addr.add]
def cutAt(ad:Option Addr)(c m size:Nat):Option Addr:=if c=m then ad else ad.map (·.add (m*size))
theorem uQ {t e:TypeId} {x y:Operand} {ad:Option Addr} {n c m size:Nat} (ar:C.P.underlying t=some (.slice e)) (bD:(C.P.info? e).map (·.size)=some size)
    (af:bp σ x=some (.slice ad n c)) (aw:bp σ y=some (.int .i64 (m:Int))) (hm:m≤n) (axU:n≤c):cz C σ ds I δ (.slice t x (some y) none none) (.slice (cutAt ad c m size) (n-m) (c-m)):=
  fun _ _ _ _ _ a w he _=>by
   have hu:(underlying t).run C.P w=.ok (.slice e) w:=by simp[underlying,program,Sem.run,ar]
   cases aC:C.P.info? e with
   |none=>simp[aC]at bD
   |some inf=>
    simp[aC]at bD;have:¬n<m:=by omega
    simp[execOp,he.cr af,he.cr aw,Instr.sliceAt,Instr.slice,Instr.sliceBounds,Instr.sliceBound,asIntOf,hu,sizeOf,typeInfo,program,Sem.run,aC,bD,hm,cutAt]
theorem afX{ad:Option Addr}{c m size:Nat}(h:ad.isSome=true):(cutAt ad c m size).isSome=true:=by unfold cutAt;split<;>simpa using h
theorem IH{x y:Operand}{a b:Int}{ts:Array TypeId}(af:bp σ x=some (.int .i64 a))(aw:bp σ y=some (.int .i64 b)):
    cz C σ ds I δ (.call {callee:=.builtin .max,args:= #[x,y],argTypes:=ts}) (.int .i64 (max a b)):=
  fun _ _ _ _ _ ac w he _=>by simp[execOp,resolve,invoke,builtin,Builtin.max_,Builtin.max2,he.cr af,he.cr aw];split<;>omega
theorem Nh{x y:Operand}{a b:Int}{ts:Array TypeId}(af:bp σ x=some (.int .i64 a))(aw:bp σ y=some (.int .i64 b)):
    cz C σ ds I δ (.call {callee:=.builtin .min,args:= #[x,y],argTypes:=ts}) (.int .i64 (min a b)):=
  fun _ _ _ _ _ ac w he _=>by simp[execOp,resolve,invoke,builtin,Builtin.min_,Builtin.min2,he.cr af,he.cr aw];split<;>omega
def yM:Nat→List Operand→List (Nat×Operand)
  |_,[]=> []
  |k,x::r=>(k,x)::yM (k+1) r
def cat:List Value→List Value
  | []=> []
  |v::r=>c9 v++cat r
def sized(size:Nat):List Value→Bool
  | []=>true
  |v::r=>Nat.beq (c9 v).length size&&sized size r
theorem T2{size:Nat}:∀{vs:List Value},sized size vs=true→(cat vs).length=vs.length*size
  | [],_=>by simp[cat]
  |v::r,h=>by simp only[sized,Bool.and_eq_true]at h;have ab:(c9 v).length=size:=Nat.eq_of_beq_eq_true h.1;have ae:=T2 h.2;simp[cat,ab,ae,Nat.add_mul,Nat.add_comm]
theorem afY(vs:List Value):∀(k off:Nat) (pre fR:List Value),pre.length=off+k→vs.length≤fR.length→
 (vs.zipIdx k).foldl (fun cs (x:Value×Nat)=>cs.setIfInBounds (off+x.2) x.1) (pre++fR).toArray=(pre++vs++fR.drop vs.length).toArray:=by
 induction vs with
 |nil=>intro k off pre fR _ _;simp
 |cons v r aY=>
  intro k off pre fR az ao
  match fR,ao with
  |s::fR,ao=>
   simp only[List.zipIdx_cons,List.foldl_cons];have ab:(pre++s::fR).toArray.setIfInBounds (off+k) v=((pre++ [v])++fR).toArray:=by simp[List.setIfInBounds_toArray,←az]
   rw[ab,aY (k+1) off (pre++ [v]) fR (by simp[az];omega) (by simpa using ao)];simp
theorem T3{size:Nat}:∀(vs:List Value) (k:Nat) (pre fR:List Value),sized size vs=true→pre.length=k*size→fR.length=vs.length*size→
    Instr.fill (fun i=>some (i*size,size)) (pre++fR).toArray (vs.zipIdx k|>.map fun p=>(p.2,p.1))=some (pre++cat vs).toArray
  | [],k,pre,fR,_,_,ao=>by have:fR= []:=List.eq_nil_of_length_eq_zero (by simpa using ao);simp[Instr.fill,cat,this]
  |v::r,k,pre,fR,ax,az,ao=>by
   simp only[sized,Bool.and_eq_true]at ax;have ab:(c9 v).length=size:=Nat.eq_of_beq_eq_true ax.1;have hlen:(v::r).length*size=size+r.length*size:=by simp[Nat.add_mul,Nat.add_comm]
   simp only[List.zipIdx_cons,List.map_cons,Instr.fill];rw[if_neg (by simp[xd,ab,az];omega)];have a7:=afY (c9 v) 0 (k*size) pre fR (by simpa using az) (by omega);have a2:v.cells.zipIdx=((c9 v).zipIdx 0).toArray:=by rw[xd];simp
   rw[a2];have EW:(List.toArray ((c9 v).zipIdx 0)).foldl (fun cs (x:Value×Nat)=>cs.setIfInBounds (k*size+x.2) x.1) (pre++fR).toArray=(pre++c9 v++fR.drop (c9 v).length).toArray:=by rw[←a7];simp
   rw[EW,T3 r (k+1) (pre++c9 v) (fR.drop (c9 v).length) ax.2 (by simp[az,ab,Nat.add_mul]) (by simp[ab];omega)];simp[cat]
theorem T4(a:Act){n:Nat}(he:gq n σ ds a):∀(xs:List Operand) (vs:List Value) (k:Nat),lq σ xs=some vs→(yM k xs).map (fun p=>(p.1,a.eval p.2))=(vs.zipIdx k).map fun p=>(p.2,p.1)
  | [],vs,k,h=>by simp[lq]at h;subst h;simp[yM]
  |x::r,vs,k,h=>by
   simp only[lq]at h
   cases ab:bp σ x with
   |none=>simp[ab]at h
   |some v=>
    cases ae:lq σ r with
    |none=>simp[ab,ae]at h
    |some us=>simp[ab,ae]at h;subst h;simp[yM,he.cr ab,T4 a he r us (k+1) ae]
theorem afZ{w:World}{g:Nat}{e:TypeId}{size n:Nat}{cs:List Value}(h:w.heap[g]? =some (.cells cs.toArray e (0,0)))(aA:cs.length=n*size)(aD:n≤maxLen):(ay.row (.slice (some ⟨g,0,none⟩) n n) e size n cs).holds w:=
  ⟨aA,.inr ⟨g,n,cs.toArray,rfl,Nat.zero_le _,h,Nat.le_refl _,aD,by simpa using aA,by simp[←aA]⟩⟩
theorem EX {t e:TypeId} {z:Value} {size bytes len:Nat} {parts:List (Nat×Operand)} {xs:List Operand} {vs:List Value} (ar:C.P.underlying t=some (.slice e)) (al:(C.P.info? e).map (fun i=>(i.zero,i.size,i.bytes))=some (some z,size,bytes))
    (az:parts=yM 0 xs) (af:lq σ xs=some vs) (ax:sized size vs=true) (hlen:vs.length=len) (aH:Nat.blt d C.n=true) (k:∀b,aK C ops Q rest ((d,.slice (some ⟨b,0,none⟩) len len)::σ) ds I (.row (.slice (some ⟨b,0,none⟩) len len) e size len (cat vs)::δ))
    (axV:z.cells.size=size:=by rfl) (hle:Nat.ble (len*size) 1000=true:=by rfl) (tl:Nat.ble len 1000=true:=by rfl):
    aK C ops Q ({dst:=some d,op:=.buildSlice t len parts.toArray,type:=ty,pos:=pos,after:=after,guard:=none}::rest) σ ds I δ:=
  q5 rfl rfl aH (by intro c aq;cases aq) (fun a w he ao=>by
   subst az;have aA:len≤1000:=by simpa[Nat.ble_eq]using tl
   have TQ:len*size≤1000:=by simpa[Nat.ble_eq]using hle
   have T5:=T2 ax;rw[hlen]at T5;have lx:(w.alloc (.cells (cat vs).toArray e)).heap[w.heap.size]? =some (.cells (cat vs).toArray e (0,0)):=heap_alloc_new w _;obtain⟨s',t'⟩:=ao.alloc (.row (.slice (some ⟨w.heap.size,0,none⟩) len len) e size len (cat vs)) (.cells (cat vs).toArray e) rfl (afZ lx T5 (by unfold maxLen;omega));refine⟨_,_,_,_,?_,s',t',k w.heap.size⟩;have hu:(underlying t).run C.P w=.ok (.slice e) w:=by simp[underlying,program,Sem.run,ar]
   cases aC:C.P.info? e with
   |none=>simp[aC]at al
   |some inf=>
    simp[aC]at al;obtain⟨g3,ia,mJ⟩:=al;have EY:(yM 0 xs).toArray.map (fun(p:Nat×Operand)=>(p.1,a.eval p.2))=((vs.zipIdx 0).map fun p=>(p.2,p.1)).toArray:=by simp[T4 a he xs vs 0 af]
    have xh:∀(zs:Array Value),((Array.range (len*size)).map (zs[· %zs.size]!))=(([]:List Value)++((List.range (len*size)).map (zs[· %zs.size]!))).toArray:=fun zs=>by apply Array.ext;simp;intro i ab ae;simp
    have II:∀zs:Array Value,Instr.fill (fun i=>some (i*size,size)) ((Array.range (len*size)).map (zs[· %zs.size]!)) ((vs.zipIdx 0).map fun p=>(p.2,p.1))=some (cat vs).toArray:=fun zs=>by rw[xh zs,T3 vs 0 [] _ ax (by simp) (by simp[hlen])];simp
    have g_:¬len*size>2^24:=by omega
    have se:(zeroValue e).run C.P w=.ok z w:=by simp[zeroValue,typeInfo,program,Sem.run,aC,g3]
    have af0:(yM 0 xs).toArray.map (fun(x:Nat×Operand)=>match x with|(i,x)=>(i,a.eval x))=((vs.zipIdx 0).map fun p=>(p.2,p.1)).toArray:=EY;simp only[execOp,af0,Instr.buildSlice,Sem.run_bind,hu,Result.andThen];have bD:(sizeOf e).run C.P w=.ok size w:=by simp[sizeOf,typeInfo,program,Sem.run,aC,ia]
    simp only[bD,if_neg g_];by_cases aB:len*size=0;simp only[aB,if_true,Sem.run_bind,Sem.run_pure,Result.andThen];have:=II #[];simp only[aB]at this;rw[this];simp[newRow,newObj,Sem.run];simp only[if_neg aB,Sem.run_bind,se,Result.andThen,Sem.run_pure];have:=II z.cells;rw[this];simp[newRow,newObj,Sem.run])
def Src(I:aa)(δ:List ay)(A:Option Addr)(ys:List Value):Prop:=ys= []∨∃a,A=some a∧∀w,Sat w I δ→∀j u,ys[j]? =some u→w.cell? (a.add j)=some u
theorem Src.m8{A:Option Addr}{ys:List Value}(h:Cells I A ys):Src I δ A ys:=by
 cases ys with
 |nil=>exact .inl rfl
 |cons y ys=>
   have aB:=h 0 y rfl
   cases A with
   |none=>simp[aa.nw]at aB
   |some a=>exact .inr ⟨a,rfl,fun w ao j u au=>ao.cell (h j u au)⟩
theorem Src.ofRow{A:Option Addr}{m c:Nat}{e:TypeId}{size n:Nat}{ys:List Value}(h:Has δ (.row (.slice A m c) e size n ys))(bo:A.isSome=true):Src I δ A ys:=by
 obtain⟨a,rfl⟩:=Option.isSome_iff_exists.1 bo;refine .inr ⟨a,rfl,fun w ao j u au=> ?_⟩;have an:w.ownsRow 0 e size (.slice (some a) m c) n ys:=ao.dQ _ h.mem;rcases an.2 with⟨he,_⟩|⟨g,cap,cur,he,_⟩
 cases he;have:a=⟨g,0,none⟩:=by injection he with he;injection he
 subst this;exact an.cells (g:=g) rfl j u au
theorem run_append_nil{P:Program}{w:World}{t e ty:TypeId}{size n m c:Nat}{v:Value}{A:Option Addr}{xs:List Value}(ar:P.underlying t=some (.slice e))(aj:(P.info? e).map (·.size)=some size)(h:w.ownsRow 0 e size v n xs)(hm:m=0):
 (Builtin.append_ #[t,t] ty #[v,.slice A m c]).run P w=.ok v w:=by
 subst hm;have hu:(underlying t).run P w=.ok (.slice e) w:=by simp[underlying,program,Sem.run,ar]
 cases aC:P.info? e with
 |none=>simp[aC]at aj
 |some inf=>
   have bD:(sizeOf e).run P w=.ok inf.size w:=by simp[sizeOf,typeInfo,program,Sem.run,aC]
   have IJ:∀a:Addr,(loadCells a 0).run P w=.ok #[] w:=fun a=>by simp[loadCells,loadCellsFrom]
   rcases h.2 with⟨rfl,rfl⟩|⟨g,cap,cur,rfl,_,_,lu,_⟩
   · cases A<;>simp[Builtin.append_,hu,bD,Builtin.lenOf,Builtin.firstCells,IJ]
   · cases A<;>simp[Builtin.append_,hu,bD,Builtin.lenOf,Builtin.firstCells,lu,IJ,storeCells]
theorem T6{w:World}{b:Nat}{e:TypeId}{size n:Nat}{v:Value}{xs:List Value}(h:w.ownsRow b e size v n xs):∃A c,v=.slice A n c:=by
 rcases h.2 with⟨rfl,rfl⟩|⟨g,cap,cur,rfl,_⟩
 exact⟨none,0,rfl⟩;exact⟨_,cap,rfl⟩
theorem T7 {t e:TypeId} {z:Value} {size bytes n m c:Nat} {s x:Operand} {v:Value} {A:Option Addr} {xs ys:List Value} {G:Value→List ay} (ar:C.P.underlying t=some (.slice e)) (al:(C.P.info? e).map (fun i=>(i.zero,i.size,i.bytes))=some (some z,size,bytes))
    (ao:bp σ s=some v) (af:bp σ x=some (.slice A m c)) (aH:Nat.blt d C.n=true) (ph:∀jb,bc δ (.row v e size n xs) (G jb) (.row jb e size (n+m) (xs++ys))) (AB:Src I δ A ys) (aA:ys.length=m*size) (ab:∀u∈ys,u.oneCell'=true)
    (ha:n+m≤9223372036854775807) (m9:(n+m)*bytes≤140737488355328) (k:∀c7 cJ,aK C ops Q rest ((d,.slice c7 (n+m) cJ)::σ) ds I (G (.slice c7 (n+m) cJ))) (a2:z.cells.size=size:=by rfl) (bD:Nat.blt 0 size=true:=by rfl):
    aK C ops Q ({dst:=some d,op:=.call {callee:=.builtin .append,args:= #[s,x],argTypes:= #[t,t]},type:=ty,pos:=pos,after:=after,guard:=none}::rest) σ ds I δ:=
  q5 rfl rfl aH (by intro c aq;cases aq) (fun a w he gg=>by
   have IK:0<size:=by simpa[Nat.blt_eq]using bD
   obtain⟨l,r,fi,_⟩:=(ph v).split;have rb:w.ownsRow 0 e size v n xs:=gg.dQ (.row v e size n xs) (by rw[fi];simp);have hex:∀r,(Builtin.append_ #[t,t] ty #[v,.slice A m c]).run C.P w=r→(execOp a.eval {dst:=some d,op:=.call {callee:=.builtin .append,args:= #[s,x],argTypes:= #[t,t]},type:=ty,pos:=pos,after:=after,guard:=none}).run C.P w=r.andThen fun v w'=>.ok (.value v) w':=fun r an=>by simp[execOp,resolve,invoke,builtin,he.cr ao,he.cr af,an]
   rcases AB with rfl|⟨ad,rfl,EZ⟩
   have hm:m=0:=by
    rcases Nat.eq_zero_or_pos m with h|h
    exact h;have:=Nat.mul_pos h IK;simp at aA;omega
   have an:=run_append_nil (P:=C.P) (ty:=ty) (c:=c) (A:=A) ar (by cases aC:C.P.info? e<;>simp_all) rb hm;subst hm;obtain⟨c7,cJ,rfl⟩:=T6 rb;have l6:G (.slice c7 (n+0) cJ)=δ:=by have ae:=ph (.slice c7 (n+0) cJ);obtain⟨l,r,aQ,aT⟩:=ae.split;rw[aQ,aT];simp
   exact⟨_,w,I,G _,(hex _ an).trans rfl,by rw[l6];exact gg,by rw[l6];exact er.refl _ _ _,k c7 cJ⟩
   cases aC:C.P.info? e with
   |none=>simp[aC]at al
   |some inf=>
    simp[aC]at al;obtain⟨g3,ia,mJ⟩:=al;obtain⟨jb,w',an,IL,aM,_,aW⟩:=run_append_own_at (P:=C.P) (w:=w) 0 t ty e inf z size bytes ar aC g3 ia mJ a2 IK v n xs rb ad m c ys aA (EZ w gg) ab (by simpa[maxLen]using ha) m9 (Nat.zero_le _)
    obtain⟨s',t'⟩:=gg.swap (ph jb) aM.os aM.tape aM.output aM.size (fun b av cu=>aM.block b av (fun e=>cu (by simpa[ay.gR]using e.symm))) IL (fun b al=>by
     have uM:jb.ownBlock=some b:=al;rcases aW with h|h
     exact .inl (by rw[←uM,h];rfl);rw[h]at uM;cases uM;exact .inr (Nat.le_refl _))
    obtain⟨c7,cJ,rfl⟩:=T6 IL;exact⟨_,w',I,G _,(hex _ an).trans rfl,s',t',k c7 cJ⟩)
theorem View.gh(e:TypeId)(size:Nat):View I δ I (.row (.slice none 0 0) e size 0 []::δ):=fun w h=>
  ⟨⟨h.gE,fun x af=>by
      rcases List.mem_cons.1 af with rfl|af
      · exact World.ownsRow_nil w 0 e size
      · exact h.dQ x af,h.nodup,fun b al=>h.apart b al⟩,
    ⟨rfl,rfl,rfl,Nat.le_refl _,fun _ _ _=>rfl,aa.le_refl _,fun b o ab ae=>(by rw[ab]at ae;cases ae),fun b al=>.inl al⟩⟩
def CP(cp:List (Nat×Nat)):List Value→List (Nat×Value)→Option (List Value)
  |cs,[]=>some cs
  |cs,(i,v)::r=>
    match cp[i]? with
    |some (off,size)=>bif Nat.beq (c9 v).length size&&Nat.blt 0 size then(cS cs off (c9 v)).bind fun gu=>CP cp gu r else none
    |none=>none
def yN(σ:Env):List (Nat×Operand)→Option (List (Nat×Value))
  | []=>some []
  | (i,x)::r=>match bp σ x,yN σ r with
    |some v,some vs=>some ((i,v)::vs)
    |_,_=>none
theorem Ni{n:Nat}{a:Act}(he:gq n σ ds a):∀{xs:List (Nat×Operand)} {vs:List (Nat×Value)},yN σ xs=some vs→xs.map (fun p=>(p.1,a.eval p.2))=vs
  | [],vs,h=>by simp[yN]at h;simp[←h]
  | (i,x)::r,vs,h=>by
   simp only[yN]at h
   cases ab:bp σ x with
   |none=>simp[ab]at h
   |some v=>
    cases ae:yN σ r with
    |none=>simp[ab,ae]at h
    |some us=>simp[ab,ae]at h;subst h;simp[he.cr ab,Ni he ae]
theorem af1(vs:List Value):∀(cs gu:List Value) (off k:Nat),cS cs (off+k) vs=some gu→(vs.zipIdx k).foldl (fun cs (x:Value×Nat)=>cs.setIfInBounds (off+x.2) x.1) cs.toArray=gu.toArray:=by
 induction vs with
 |nil=>intro cs gu off k h;cases cs<;>cases hk:off+k<;>simp_all[cS]
 |cons v r aY=>
  intro cs gu off k h;obtain⟨_,ae,aF,bb⟩:=CG _ _ _ _ h;have hle:=aF (by simp);simp only[List.length_cons]at hle
  have ch:∃d,cS (cs.set (off+k) v) (off+(k+1)) r=some d∧d=gu:=by
   have key:∀(cs:List Value) (o:Nat) (d:List Value),cS cs o (v::r)=some d→cS (cs.set o v) (o+1) r=some d:=by
    intro cs
    induction cs with
    |nil=>intro o d h;cases o<;>simp[cS]at h
    |cons c cs af2=>
     intro o d h
     cases o with
     |zero=>
      simp only[cS,Option.map_eq_some_iff]at h;obtain⟨q,aC,rfl⟩:=h
      cases r with
      |nil=>cases cs<;>simp[cS]at aC⊢<;>simp[aC]
      |cons u r=>simp[cS,aC]
     |succ o=>
      simp only[cS,Option.map_eq_some_iff]at h;obtain⟨q,aC,rfl⟩:=h;have:=af2 o q aC
      cases r with
      |nil=>cases fl:(cs.set o v)<;>simp[cS,fl]at this⊢<;>simp[this]
      |cons u r=>simp[cS,this]
   exact⟨gu,key cs (off+k) gu h,rfl⟩
  obtain⟨d,aH,rfl⟩:=ch;simp only[List.zipIdx_cons,List.foldl_cons];have ab:cs.toArray.setIfInBounds (off+k) v=(cs.set (off+k) v).toArray:=by simp
  rw[ab];exact aY _ _ _ _ aH
theorem T8(cp:List (Nat×Nat)):∀(vs:List (Nat×Value)) (cs gu:List Value),CP cp cs vs=some gu→Instr.fill (fun i=>cp[i]?) cs.toArray vs=some gu.toArray
  | [],cs,gu,h=>by simp[CP]at h;simp[Instr.fill,h]
  | (i,v)::r,cs,gu,h=>by
   simp only[CP]at h
   cases az:cp[i]? with
   |none=>simp[az]at h
   |some p=>
    obtain⟨off,size⟩:=p;simp only[az]at h
    cases al:(Nat.beq (c9 v).length size&&Nat.blt 0 size)with
    |false=>simp only[al,cond_false]at h;cases h
    |true=>
     simp only[al,cond_true,Option.bind_eq_some_iff]at h;obtain⟨d,aH,an⟩:=h;simp only[Bool.and_eq_true,Nat.blt_eq]at al;have aA:(c9 v).length=size:=Nat.eq_of_beq_eq_true al.1;obtain⟨ab,ae,aF,_⟩:=CG _ _ _ _ aH;have hle:off+(c9 v).length≤cs.length:=aF (fun e=>by rw[e]at aA;simp at aA;omega);simp only[Instr.fill,az];have a2:v.cells.zipIdx=((c9 v).zipIdx 0).toArray:=by rw[xd];simp
     have a7:=af1 (c9 v) cs d off 0 aH;have EW:(List.toArray ((c9 v).zipIdx 0)).foldl (fun cs (x:Value×Nat)=>cs.setIfInBounds (off+x.2) x.1) cs.toArray=d.toArray:=by rw[←a7];simp
     have yO:v.cells.size=size:=by rw[xd];simpa using aA
     rw[if_neg (by simp[yO];omega),a2,EW];exact T8 cp r d gu an
structure jZ(P:Program)(t:TypeId)(z:List Value)(cp:List (Nat×Nat)):Prop where
  desc:∃dE,P.underlying t=some (.struct dE)∧dE.toList.mapM (fun f=>(P.info? f.type).map fun i=>(f.offset,i.size))=some cp
  zero:(P.info? t).bind (·.zero)=some (.agg z.toArray)
theorem T9{P:Program}{w:World}:∀(dE:List Field) (cp:List (Nat×Nat)),dE.mapM (fun f=>(P.info? f.type).map fun i=>(f.offset,i.size))=some cp→
    (dE.mapM (m:=Sem) fun f=>do pure (f.offset,←sizeOf f.type)).run P w=.ok cp w
  | [],cp,h=>by simp at h;subst h;simp
  |f::dE,cp,h=>by
   simp only[List.mapM_cons,Option.bind_eq_bind,Option.bind_eq_some_iff,Option.pure_def,Option.some.injEq]at h;obtain⟨p,az,q,aC,rfl⟩:=h
   cases aj:P.info? f.type with
   |none=>simp[aj]at az
   |some i=>simp[aj]at az;subst az;have:=T9 (w:=w) dE q aC;simp only[List.mapM_cons,Sem.run_bind];simp[sizeOf,typeInfo,program,Sem.run,aj]at this⊢;rw[this];rfl
theorem T_{t:TypeId}{parts:List (Nat×Operand)}{z cs:List Value}{cp:List (Nat×Nat)}{vs:List (Nat×Value)}(al:jZ C.P t z cp)(af:yN σ parts=some vs)(a7:CP cp z vs=some cs):
    cz C σ ds I δ (.build t parts.toArray) (.agg cs.toArray):=
  fun _ _ _ _ _ a w he _=>by
   obtain⟨dE,g4,qc⟩:=al.desc;have a2:=al.zero;have hu:(underlying t).run C.P w=.ok (.struct dE) w:=by simp[underlying,program,Sem.run,g4]
   have se:(zeroValue t).run C.P w=.ok (.agg z.toArray) w:=by
    cases aC:C.P.info? t with
    |none=>simp[aC]at a2
    |some i=>simp[aC]at a2;simp[zeroValue,typeInfo,program,Sem.run,aC,a2]
   have EY:parts.toArray.map (fun(x:Nat×Operand)=>match x with|(i,x)=>(i,a.eval x))=vs.toArray:=by rw[←Ni he af];simp
   have hm:(dE.mapM (m:=Sem) fun f=>do pure (f.offset,←sizeOf f.type)).run C.P w=.ok cp.toArray w:=by
    have ab:=T9 (w:=w) dE.toList cp qc;have ae:dE=dE.toList.toArray:=by simp
    rw[ae,List.mapM_toArray,Sem.run_map,ab];rfl
   have II:=T8 cp vs z cs a7;simp only[execOp,EY,Instr.build,Sem.run_bind,se,hu,Result.andThen,hm];have dr:(fun i:Nat=>cp.toArray[i]?)=(fun i:Nat=>cp[i]?):=by funext i;simp
   simp only[Value.cells,dr];rw[II];rfl
end
section
def Iter(P:Program)(f:FuncId)(caps:List Value)(I:aa)(δi:List ay){α:Type}(enc:aa→α→List Value→Prop)(xs:List α):Prop:=
  ∀(fs:Value) (J:List α→aa→List ay→Prop) (δ:List ay),(∀l en dV δ,en.le dV→J l en δ→J l dV δ)→J [] I δ→
    (∀pre x post ai δ' vs,xs=pre++x::post→I.le ai→J pre ai δ'→enc ai x vs→cR P fs vs ai δ' (fun v qd nx=>v=.bool true∧J (pre++ [x]) qd nx))→
    aS P f (fs::caps) I (δi++δ) (fun _ ai δ'=>∃dx,J xs ai dx∧δ'=δi++dx)
def AD(P:Program)(f:FuncId)(caps:List Value)(I:aa)(δi:List ay){α:Type}(enc:aa→α→List Value→Prop)(St:List α→α→Prop)(Fin:List α→Prop):Prop:=
  ∀(fs:Value) (J:List α→aa→List ay→Prop) (δ:List ay),(∀l en dV δ,en.le dV→J l en δ→J l dV δ)→J [] I δ→
    (∀pre x ai δ' vs,St pre x→I.le ai→J pre ai δ'→enc ai x vs→cR P fs vs ai δ' (fun v qd nx=>v=.bool true∧J (pre++ [x]) qd nx))→
    aS P f (fs::caps) I (δi++δ) (fun _ ai δ'=>∃l dx,Fin l∧J l ai dx∧δ'=δi++dx)
def uR:List Nat→List Value→Env→Env
  |p::cp,v::vs,σ=>uR cp vs ((p,v)::σ)
  |_,_,σ=>σ
theorem Ua{n:Nat}:∀(cp:List Nat) (vs:List Value) (σ:Env) (tmps:Array Value),cp.all (fun p=>Nat.blt p n)=true→tmps.size=n→(∀d v,look d σ=some v→tmps[d]? =some v)→
    ((cp.zip vs).foldl (fun(ts:Array Value) (x:Nat×Value)=>ts.setIfInBounds x.1 x.2) tmps).size=n∧∀d v,look d (uR cp vs σ)=some v→((cp.zip vs).foldl (fun(ts:Array Value) (x:Nat×Value)=>ts.setIfInBounds x.1 x.2) tmps)[d]? =some v
  | [],_,σ,tmps,_,ao,h=>⟨by simpa using ao,fun d v aH=>by simpa[uR]using h d v (by simpa[uR]using aH)⟩
  |p::cp,[],σ,tmps,_,ao,h=>⟨by simpa using ao,fun d v aH=>by simpa using h d v (by simpa[uR]using aH)⟩
  |p::cp,v::vs,σ,tmps,az,ao,h=>by simp only[List.all_cons,Bool.and_eq_true,Nat.blt_eq]at az;simp only[List.zip_cons_cons,List.foldl_cons,uR];refine Ua cp vs ((p,v)::σ) (tmps.setIfInBounds p v) az.2 (by simp[ao]) (fun d u aH=> ?_);rw[tb]at aH;by_cases e:p=d;subst e;simp at aH;subst aH;simp[ao,az.1];simp[e]at aH;rw[Array.getElem?_setIfInBounds_ne e];exact h d u aH
def CQ(C:Ctx)(l:Nat)(body:Code)(R:Ending→World→Prop):Exit→Act→World→Prop:=
  Exit.then (fun re rf=>∃IM,(Instr.beginRound l).run C.P rf=.ok () IM∧body.wpIn C.F 0 C.P (roundPost C.P l R) re IM) (fun _ _ _=>False)
variable {C:Ctx} {Q:Exit→Act→World→Prop} {σ:Env} {ds:List dN} {I:aa} {δ δ':List ay}
theorem yP {l:Nat} {body:Code} {R:Ending→World→Prop} {r:Loop} (an:r.state=.ready) (ao:bc δ (.obj l (.loop r)) δ' (.obj l (.loop {r with state:=.busy})))
 (h:bJ C body (roundPost C.P l R) σ ds I δ'):bf C (CQ C l body R) .normal σ ds I δ:=by
 intro a w he gg ar;obtain⟨x,y,ab,ae⟩:=ao.split;have hw:w.heap[l]? =some (.loop r):=gg.dQ (.obj l (.loop r)) (by rw[ab];simp);have av:l<w.heap.size:=(Array.getElem?_eq_some_iff.1 hw).1
 obtain⟨s',t'⟩:=gg.swap (w':=w.putObj l (.loop {r with state:=.busy})) ao rfl rfl rfl (by simp[World.putObj])
   (fun b _ al=>World.putObj_heap_other (fun e=>al (by rw[e];rfl))) (show(w.putObj l (.loop {r with state:=.busy})).heap[l]? =some (.loop {r with state:=.busy})by simp[World.putObj,av]) (fun b al=>.inl al)
 exact⟨_,run_beginRound hw an,h _ _ he s' (ar.trans t')⟩
theorem oc{l:Nat}{r:Loop}{aG:World}{I0:aa}{cl:List ay}{R:Value→aa→List ay→Prop}(ao:bc δ (.obj l (.loop {r with state:=.busy})) δ' (.obj l (.loop r)))(an:r.state=.ready)(az:r.pending=none)(bL:R (.bool true) I δ')(aB:C.aG=aG∧C.I0=I0∧C.cl=cl:=by exact⟨rfl,rfl,rfl⟩):
 bf C (roundPost C.P l (h_ aG I0 cl R)) .normal σ ds I δ:=by
 intro a w he gg ar;obtain⟨rfl,rfl,rfl⟩:=aB;obtain⟨x,y,ab,ae⟩:=ao.split;have hw:w.heap[l]? =some (.loop {r with state:=.busy}):=gg.dQ (.obj l (.loop {r with state:=.busy})) (by rw[ab];simp);have av:l<w.heap.size:=(Array.getElem?_eq_some_iff.1 hw).1;have vY:({{r with state:=LoopState.busy}with state:=if(none:Option Code).isNone then .ready else .done,pending:=none}:Loop)=r:=by cases r;simp at an az;subst an;subst az;rfl
 have vX:=run_endRound (P:=C.P) none hw;rw[vY]at vX
 obtain⟨s',t'⟩:=gg.swap (w':=w.putObj l (.loop r)) ao rfl rfl rfl (by simp[World.putObj])
   (fun b _ al=>World.putObj_heap_other (fun e=>al (by rw[e];rfl))) (show(w.putObj l (.loop r)).heap[l]? =some (.loop r)by simp[World.putObj,av]) (fun b al=>.inl al)
 exact⟨_,_,vX,.bool true,I,δ',rfl,s',ar.trans t',bL⟩
theorem Nj {P:Program} {n l:Nat} {r:Loop} {cp:List Nat} {vs:List Value} {σ:Env} {R:Value→aa→List ay→Prop} (qc:r.params=cp.toArray) (cE:cp.all (fun p=>Nat.blt p n)=true) (hlen:vs.length=cp.length)
 (bD:r.tmps.size=n) (Na:∀d v,look d σ=some v→r.tmps[d]? =some v) (hm:Has δ (.obj l (.loop r)))
 (h:∀aG,bJ ⟨P,some l,n,aG,I,δ⟩ r.assign (CQ ⟨P,some l,n,aG,I,δ⟩ l r.body (h_ aG I δ R)) (uR cp vs σ) [] I δ):cR P (.func (.yield l) #[] #[]) vs I δ R:=by
 intro w ao;have hw:w.heap[l]? =some (.loop r):=ao.dQ (.obj l (.loop r)) hm.mem;have aw:=run_yield (P:=P) (args:=vs.toArray) hw (by simp[qc,hlen]);obtain⟨ab,ae⟩:=Ua cp vs σ r.tmps cE bD Na;have EW:(r.params.zip vs.toArray).foldl (fun(tmps:Array Value) (x:Nat×Value)=>match x with|(t,a)=>tmps.setIfInBounds t a) r.tmps=(cp.zip vs).foldl (fun(ts:Array Value) (x:Nat×Value)=>ts.setIfInBounds x.1 x.2) r.tmps:=by rw[qc];simp
 rw[←EW]at ab ae;generalize od:(r.params.zip vs.toArray).foldl (fun(tmps:Array Value) (x:Nat×Value)=>match x with|(t,a)=>tmps.setIfInBounds t a) r.tmps=ts at aw ab ae;refine⟨{target:=.fn (.yield l) #[],args:=vs.toArray},by simp[Deferred.ofValue],.inr ⟨l,r.fn,ts,r.assign,r.body,aw,?_⟩⟩;exact roundIn_of_wpIn trivial (h w {tmps:=ts,defers:= []} w ⟨ab,ae,rfl⟩ ao (er.refl _ _ _))
theorem Nk {α:Type} {g:Operand} {cp:List Nat} {assign body:Code} {f:FuncId} {caps:List Value} {enc:aa→α→List Value→Prop} {St:List α→α→Prop} {Fin:List α→Prop} {δb δi δr:List ay} (B:List α→aa→List ay→Prop)
 (an:C.r=none) (aM:bp σ g=some (.func (.func f) #[] caps.toArray)) (dr:eb C.P f=true) (cE:cp.all (fun p=>Nat.blt p C.n)=true) (sf:AD C.P f caps I δi enc St Fin) (az:df δ (δi++δb) δr) (aB:B [] I δb)
 (hlen:∀I x vs,enc I x vs→vs.length=cp.length) (eJ:∀l en dV δ,en.le dV→B l en δ→B l dV δ)
 (round:∀(l:Nat) (r:Loop) (aG:World) pre x ai δ' vs,r.state=.ready→r.pending=none→St pre x→I.le ai→B pre ai δ'→enc ai x vs→
 bJ ⟨C.P,some l,C.n,aG,ai,.obj l (.loop r)::δ'⟩ assign (CQ ⟨C.P,some l,C.n,aG,ai,.obj l (.loop r)::δ'⟩ l body (h_ aG ai (.obj l (.loop r)::δ') (fun v qd nx=>v=.bool true∧∃cI,nx=.obj l (.loop r)::cI∧B (pre++ [x]) qd cI))) (uR cp vs σ) [] ai (.obj l (.loop r)::δ'))
 (k:∀(gR:Nat) xs ai δ',I.le ai→Fin xs→B xs ai δ'→bf C Q .normal σ (gR::ds) ai (.obj gR (.deferred (some []))::((δi++δ')++δr))):
 bJ C (.rangeFunc g cp.toArray assign body) Q σ ds I δ:=by
 intro a w he ao ar;have iu:C.F=Fence.wide:=Ir an;rw[iu];refine wpIn_rangeFunc fun fn _=> ?_;have db:=ao.perm az;have te:=ar.kr az;let r:Loop:= {state:=.ready,pending:=none,fn:=fn,tmps:=a.tmps,params:=cp.toArray,assign:=assign,body:=body,defers:=w.heap.size}
 obtain⟨s1,t1⟩:=db.alloc (.obj w.heap.size (.deferred (some []))) (.deferred (some [])) rfl (heap_alloc_new w _);obtain⟨s2,t2⟩:=s1.alloc (.obj (w.alloc (.deferred (some []))).heap.size (.loop r)) (.loop r) rfl (heap_alloc_new _ _);have aA:(w.alloc (.deferred (some []))).heap.size=w.heap.size+1:=by simp
 rw[aA]at s2 t2;have p8:=(te.trans t1).trans t2;have hb:(ay.obj (w.heap.size+1) (.loop r)::ay.obj w.heap.size (.deferred (some []))::((δi++δb)++δr)).Perm ((δi++(.obj (w.heap.size+1) (.loop r)::δb))++(.obj w.heap.size (.deferred (some []))::δr)):=by refine List.Perm.trans (List.Perm.cons _ List.perm_middle.symm) ?_;rw[←List.cons_append];exact List.Perm.append_right _ List.perm_middle.symm
 have mK:=s2.perm hb;have CR:=p8.kr hb;let fs:Value:=.func (.yield (w.heap.size+1)) #[] #[];have bT:Sat ((w.alloc (.deferred (some []))).alloc (.loop r)) I (δi++(.obj (w.heap.size+1) (.loop r)::δb)):=by have al:eg ((δi++(.obj (w.heap.size+1) (.loop r)::δb))++(.obj w.heap.size (.deferred (some []))::δr))=eg (δi++(.obj (w.heap.size+1) (.loop r)::δb))++eg (.obj w.heap.size (.deferred (some []))::δr):=List.filterMap_append;have eY:=mK.nodup;rw[al,List.nodup_append]at eY;exact⟨mK.gE,fun y aw=>mK.dQ y (List.mem_append_left _ aw),eY.1,fun b g3=>mK.apart b (by rw[al];exact List.mem_append_left _ g3)⟩
 have AE:=sf fs (fun pre ai δ'=>∃cI,δ'=.obj (w.heap.size+1) (.loop r)::cI∧B pre ai cI) (.obj (w.heap.size+1) (.loop r)::δb) (fun l en dV δ hle ⟨cI,ab,ae⟩=>⟨cI,ab,eJ l en dV cI hle ae⟩) ⟨δb,rfl,aB⟩ (fun pre x ai δ' vs af iq eJ ax=>by obtain⟨cI,rfl,eJ⟩:=eJ;exact Nj (r:=r) rfl cE (hlen _ _ _ ax) he.size he.val Has.here (fun aG=>round _ r aG pre x ai cI vs rfl rfl af iq eJ ax));refine⟨w.heap.size+1,[{target:=.collected w.heap.size,args:= #[]}],(w.alloc (.deferred (some []))).alloc (.loop r),{target:=.fn (.func f) caps.toArray,args:= #[fs]},(w.alloc (.deferred (some []))).alloc (.loop r),f,(fs::caps).toArray,(w.alloc (.deferred (some []))).alloc (.loop r),run_enterLoop_outer fn a.tmps cp.toArray assign body,?_,fun _ _=>trivial,?_,fun h=>(by simp[Fence.wide]at h),?_⟩;have xi:=he.cr aM;have aq:a.eval (.const (.func (.yield (w.heap.size+1)) #[] #[]))=fs:=rfl;simp[resolve,xi,aq,Deferred.ofValue];simp only[invoke];rw[Aq dr];simp;refine CallsIn.mono ((callsIn_wide (n:=0-1)).2 (AE _ bT)) ?_;rintro e lz ⟨v,ai,δ',rfl,qe,CS,xs,dx,pj,⟨cI,rfl,eJ⟩,rfl⟩;obtain⟨f1,f2⟩:=frame mK qe CS;have rh:lz.heap[w.heap.size+1]? =some (.loop r):=f1.dQ (.obj (w.heap.size+1) (.loop r)) (by simp);refine⟨none,lz.putObj (w.heap.size+1) (.loop {r with state:=.exhausted}),run_endLoop rh (by simp[r]),?_⟩;have av:w.heap.size+1<lz.heap.size:=(Array.getElem?_eq_some_iff.1 rh).1;have uS:((δi++(ay.obj (w.heap.size+1) (.loop r)::cI))++(ay.obj w.heap.size (.deferred (some []))::δr)).Perm (.obj (w.heap.size+1) (.loop r)::((δi++cI)++(.obj w.heap.size (.deferred (some []))::δr))):=by rw[←List.cons_append];exact List.Perm.append_right _ List.perm_middle
 replace f1:=f1.perm uS;replace f2:=f2.kr uS
 obtain⟨uT,t4⟩:=f1.swap (w':=lz.putObj (w.heap.size+1) (.loop {r with state:=.exhausted})) (x':=.obj (w.heap.size+1) (.loop {r with state:=.exhausted})) .here rfl rfl rfl (by simp[World.putObj])
   (fun b _ al=>World.putObj_heap_other (fun e=>al (by rw[e];rfl))) (show(lz.putObj (w.heap.size+1) (.loop {r with state:=.exhausted})).heap[w.heap.size+1]? =some (.loop {r with state:=.exhausted})by simp[World.putObj,av]) (fun b al=>.inl al)
 have AF:=((CR.trans f2).trans t4).trans uT.drop.2;have E0:=uT.drop.1;have yQ:((δi++cI)++(ay.obj w.heap.size (.deferred (some []))::δr)).Perm (.obj w.heap.size (.deferred (some []))::((δi++cI)++δr)):=List.perm_middle;exact k w.heap.size xs ai cI f2.gE pj eJ _ _ ⟨he.size,he.val,by simp[he.defers,marksOf,dN.val]⟩ (E0.perm yQ) (AF.kr yQ)
def Ub(P:Program)(f:FuncId)(caps:List Value)(I:aa)(δi:List ay){α:Type}(enc:aa→α→List Value→Prop)(St:List α→α→Prop)(Fin:List α→Prop):Prop:=
  ∀(fs:Value) (J:List α→aa→List ay→Prop) (S:aa→List ay→Prop) (δ:List ay),(∀l en dV δ,en.le dV→J l en δ→J l dV δ)→(∀en dV δ,en.le dV→S en δ→S dV δ)→J [] I δ→
    (∀pre x ai δ' vs,St pre x→I.le ai→J pre ai δ'→enc ai x vs→cR P fs vs ai δ' (fun v qd nx=>(v=.bool true∧J (pre++ [x]) qd nx)∨(v=.bool false∧S qd nx)))→
    aS P f (fs::caps) I (δi++δ) (fun _ ai δ'=>∃dx,δ'=δi++dx∧((∃l,Fin l∧J l ai dx)∨S ai dx))
theorem af3{l:Nat}{r:Loop}{aG:World}{I0:aa}{cl:List ay}{R:Value→aa→List ay→Prop}(ao:bc δ (.obj l (.loop {r with state:=.busy})) δ' (.obj l (.loop {r with state:=.done,pending:=some .ret})))(bL:R (.bool false) I δ')(aB:C.aG=aG∧C.I0=I0∧C.cl=cl:=by exact⟨rfl,rfl,rfl⟩):
 bf C (roundPost C.P l (h_ aG I0 cl R)) .ret σ ds I δ:=by
 intro a w he gg ar;obtain⟨rfl,rfl,rfl⟩:=aB;obtain⟨x,y,ab,ae⟩:=ao.split;have hw:w.heap[l]? =some (.loop {r with state:=.busy}):=gg.dQ (.obj l (.loop {r with state:=.busy})) (by rw[ab];simp);have av:l<w.heap.size:=(Array.getElem?_eq_some_iff.1 hw).1;have vX:=run_endRound (P:=C.P) (some .ret) hw
 obtain⟨s',t'⟩:=gg.swap (w':=w.putObj l (.loop {r with state:=.done,pending:=some .ret})) ao rfl rfl rfl (by simp[World.putObj])
   (fun b _ al=>World.putObj_heap_other (fun e=>al (by rw[e];rfl))) (show(w.putObj l (.loop {r with state:=.done,pending:=some .ret})).heap[l]? =some (.loop {r with state:=.done,pending:=some .ret})by simp[World.putObj,av]) (fun b al=>.inl al)
 exact⟨_,_,vX,.bool false,I,δ',rfl,s',ar.trans t',bL⟩
theorem af4 {α:Type} {g:Operand} {cp:List Nat} {assign body:Code} {f:FuncId} {caps:List Value} {enc:aa→α→List Value→Prop} {St:List α→α→Prop} {Fin:List α→Prop} {δb δi δr:List ay} (B:List α→aa→List ay→Prop) (S:aa→List ay→Prop)
 (an:C.r=none) (aM:bp σ g=some (.func (.func f) #[] caps.toArray)) (dr:eb C.P f=true) (cE:cp.all (fun p=>Nat.blt p C.n)=true) (sf:Ub C.P f caps I δi enc St Fin) (az:df δ (δi++δb) δr) (aB:B [] I δb)
 (hlen:∀I x vs,enc I x vs→vs.length=cp.length) (eJ:∀l en dV δ,en.le dV→B l en δ→B l dV δ) (eO:∀en dV δ,en.le dV→S en δ→S dV δ)
 (round:∀(l:Nat) (r:Loop) (aG:World) pre x ai δ' vs,r.state=.ready→r.pending=none→St pre x→I.le ai→B pre ai δ'→enc ai x vs→
 bJ ⟨C.P,some l,C.n,aG,ai,.obj l (.loop r)::δ'⟩ assign (CQ ⟨C.P,some l,C.n,aG,ai,.obj l (.loop r)::δ'⟩ l body (h_ aG ai (.obj l (.loop r)::δ') (fun v qd nx=>(v=.bool true∧∃cI,nx=.obj l (.loop r)::cI∧B (pre++ [x]) qd cI)∨(v=.bool false∧∃cI,nx=.obj l (.loop {r with state:=.done,pending:=some .ret})::cI∧S qd cI)))) (uR cp vs σ) [] ai (.obj l (.loop r)::δ'))
 (k:∀(gR:Nat) xs ai δ',I.le ai→Fin xs→B xs ai δ'→bf C Q .normal σ (gR::ds) ai (.obj gR (.deferred (some []))::((δi++δ')++δr)))
 (b6:∀(gR:Nat) ai δ',I.le ai→S ai δ'→bf C Q .ret σ (gR::ds) ai (.obj gR (.deferred (some []))::((δi++δ')++δr))):
 bJ C (.rangeFunc g cp.toArray assign body) Q σ ds I δ:=by
 intro a w he ao ar;have iu:C.F=Fence.wide:=Ir an;rw[iu];refine wpIn_rangeFunc fun fn _=> ?_;have db:=ao.perm az;have te:=ar.kr az;let r:Loop:= {state:=.ready,pending:=none,fn:=fn,tmps:=a.tmps,params:=cp.toArray,assign:=assign,body:=body,defers:=w.heap.size}
 obtain⟨s1,t1⟩:=db.alloc (.obj w.heap.size (.deferred (some []))) (.deferred (some [])) rfl (heap_alloc_new w _);obtain⟨s2,t2⟩:=s1.alloc (.obj (w.alloc (.deferred (some []))).heap.size (.loop r)) (.loop r) rfl (heap_alloc_new _ _);have aA:(w.alloc (.deferred (some []))).heap.size=w.heap.size+1:=by simp
 rw[aA]at s2 t2;have p8:=(te.trans t1).trans t2;have hb:(ay.obj (w.heap.size+1) (.loop r)::ay.obj w.heap.size (.deferred (some []))::((δi++δb)++δr)).Perm ((δi++(.obj (w.heap.size+1) (.loop r)::δb))++(.obj w.heap.size (.deferred (some []))::δr)):=by refine List.Perm.trans (List.Perm.cons _ List.perm_middle.symm) ?_;rw[←List.cons_append];exact List.Perm.append_right _ List.perm_middle.symm
 have mK:=s2.perm hb;have CR:=p8.kr hb;let fs:Value:=.func (.yield (w.heap.size+1)) #[] #[];have bT:Sat ((w.alloc (.deferred (some []))).alloc (.loop r)) I (δi++(.obj (w.heap.size+1) (.loop r)::δb)):=by have al:eg ((δi++(.obj (w.heap.size+1) (.loop r)::δb))++(.obj w.heap.size (.deferred (some []))::δr))=eg (δi++(.obj (w.heap.size+1) (.loop r)::δb))++eg (.obj w.heap.size (.deferred (some []))::δr):=List.filterMap_append;have eY:=mK.nodup;rw[al,List.nodup_append]at eY;exact⟨mK.gE,fun y aw=>mK.dQ y (List.mem_append_left _ aw),eY.1,fun b g3=>mK.apart b (by rw[al];exact List.mem_append_left _ g3)⟩
 have AE:=sf fs (fun pre ai δ'=>∃cI,δ'=.obj (w.heap.size+1) (.loop r)::cI∧B pre ai cI) (fun ai δ'=>∃cI,δ'=.obj (w.heap.size+1) (.loop {r with state:=.done,pending:=some .ret})::cI∧S ai cI) (.obj (w.heap.size+1) (.loop r)::δb) (fun l en dV δ hle ⟨cI,ab,ae⟩=>⟨cI,ab,eJ l en dV cI hle ae⟩) (fun en dV δ hle ⟨cI,ab,ae⟩=>⟨cI,ab,eO en dV cI hle ae⟩) ⟨δb,rfl,aB⟩ (fun pre x ai δ' vs af iq eJ ax=>by obtain⟨cI,rfl,eJ⟩:=eJ;exact Nj (r:=r) rfl cE (hlen _ _ _ ax) he.size he.val Has.here (fun aG=>round _ r aG pre x ai cI vs rfl rfl af iq eJ ax));refine⟨w.heap.size+1,[{target:=.collected w.heap.size,args:= #[]}],(w.alloc (.deferred (some []))).alloc (.loop r),{target:=.fn (.func f) caps.toArray,args:= #[fs]},(w.alloc (.deferred (some []))).alloc (.loop r),f,(fs::caps).toArray,(w.alloc (.deferred (some []))).alloc (.loop r),run_enterLoop_outer fn a.tmps cp.toArray assign body,?_,fun _ _=>trivial,?_,fun h=>(by simp[Fence.wide]at h),?_⟩;have xi:=he.cr aM;have aq:a.eval (.const (.func (.yield (w.heap.size+1)) #[] #[]))=fs:=rfl;simp[resolve,xi,aq,Deferred.ofValue];simp only[invoke];rw[Aq dr];simp;refine CallsIn.mono ((callsIn_wide (n:=0-1)).2 (AE _ bT)) ?_;rintro e lz ⟨v,ai,δ',rfl,qe,CS,dx,rfl,cj|cj⟩;obtain⟨xs,pj,cI,rfl,eJ⟩:=cj;obtain⟨f1,f2⟩:=frame mK qe CS;have rh:lz.heap[w.heap.size+1]? =some (.loop r):=f1.dQ (.obj (w.heap.size+1) (.loop r)) (by simp);refine⟨none,lz.putObj (w.heap.size+1) (.loop {r with state:=.exhausted}),run_endLoop rh (by simp[r]),?_⟩;have av:w.heap.size+1<lz.heap.size:=(Array.getElem?_eq_some_iff.1 rh).1;have uS:((δi++(ay.obj (w.heap.size+1) (.loop r)::cI))++(ay.obj w.heap.size (.deferred (some []))::δr)).Perm (.obj (w.heap.size+1) (.loop r)::((δi++cI)++(.obj w.heap.size (.deferred (some []))::δr))):=by rw[←List.cons_append];exact List.Perm.append_right _ List.perm_middle
 replace f1:=f1.perm uS;replace f2:=f2.kr uS
 obtain⟨uT,t4⟩:=f1.swap (w':=lz.putObj (w.heap.size+1) (.loop {r with state:=.exhausted})) (x':=.obj (w.heap.size+1) (.loop {r with state:=.exhausted})) .here rfl rfl rfl (by simp[World.putObj])
   (fun b _ al=>World.putObj_heap_other (fun e=>al (by rw[e];rfl))) (show(lz.putObj (w.heap.size+1) (.loop {r with state:=.exhausted})).heap[w.heap.size+1]? =some (.loop {r with state:=.exhausted})by simp[World.putObj,av]) (fun b al=>.inl al)
 have AF:=((CR.trans f2).trans t4).trans uT.drop.2;have E0:=uT.drop.1;have yQ:((δi++cI)++(ay.obj w.heap.size (.deferred (some []))::δr)).Perm (.obj w.heap.size (.deferred (some []))::((δi++cI)++δr)):=List.perm_middle;exact k w.heap.size xs ai cI f2.gE pj eJ _ _ ⟨he.size,he.val,by simp[he.defers,marksOf,dN.val]⟩ (E0.perm yQ) (AF.kr yQ);obtain⟨cI,rfl,eJ⟩:=cj;obtain⟨f1,f2⟩:=frame mK qe CS;have rh:lz.heap[w.heap.size+1]? =some (.loop {r with state:=.done,pending:=some .ret}):=f1.dQ (.obj (w.heap.size+1) (.loop {r with state:=.done,pending:=some .ret})) (by simp);refine⟨some .ret,lz.putObj (w.heap.size+1) (.loop {r with state:=.exhausted,pending:=some .ret}),run_endLoop rh (by simp[r]),?_⟩;have av:w.heap.size+1<lz.heap.size:=(Array.getElem?_eq_some_iff.1 rh).1;have uS:((δi++(ay.obj (w.heap.size+1) (.loop {r with state:=.done,pending:=some .ret})::cI))++(ay.obj w.heap.size (.deferred (some []))::δr)).Perm (.obj (w.heap.size+1) (.loop {r with state:=.done,pending:=some .ret})::((δi++cI)++(.obj w.heap.size (.deferred (some []))::δr))):=by rw[←List.cons_append];exact List.Perm.append_right _ List.perm_middle
 replace f1:=f1.perm uS;replace f2:=f2.kr uS
 obtain⟨uT,t4⟩:=f1.swap (w':=lz.putObj (w.heap.size+1) (.loop {r with state:=.exhausted,pending:=some .ret})) (x':=.obj (w.heap.size+1) (.loop {r with state:=.exhausted,pending:=some .ret})) .here rfl rfl rfl (by simp[World.putObj])
   (fun b _ al=>World.putObj_heap_other (fun e=>al (by rw[e];rfl))) (show(lz.putObj (w.heap.size+1) (.loop {r with state:=.exhausted,pending:=some .ret})).heap[w.heap.size+1]? =some (.loop {r with state:=.exhausted,pending:=some .ret})by simp[World.putObj,av]) (fun b al=>.inl al)
 have AF:=((CR.trans f2).trans t4).trans uT.drop.2;have E0:=uT.drop.1;have yQ:((δi++cI)++(ay.obj w.heap.size (.deferred (some []))::δr)).Perm (.obj w.heap.size (.deferred (some []))::((δi++cI)++δr)):=List.perm_middle;exact wpIn_ret (b6 w.heap.size ai cI f2.gE eJ _ _ ⟨he.size,he.val,by simp[he.defers,marksOf,dN.val]⟩ (E0.perm yQ) (AF.kr yQ))
theorem af5 {α:Type} {g:Operand} {cp:List Nat} {assign body:Code} {f:FuncId} {caps:List Value} {enc:aa→α→List Value→Prop} {St:List α→α→Prop} {Fin:List α→Prop} {δb δi δr:List ay} (B:List α→aa→List ay→Prop)
 {l0:Nat} {r0:Loop} (an:C.r=some l0) (kx:Has δ (.obj l0 (.loop r0))) (aM:bp σ g=some (.func (.func f) #[] caps.toArray)) (dr:eb C.P f=true) (cE:cp.all (fun p=>Nat.blt p C.n)=true) (sf:AD C.P f caps I δi enc St Fin) (az:df δ (δi++δb) δr) (aB:B [] I δb)
 (hlen:∀I x vs,enc I x vs→vs.length=cp.length) (eJ:∀l en dV δ,en.le dV→B l en δ→B l dV δ)
 (round:∀(l:Nat) (r:Loop) (aG:World) pre x ai δ' vs,r.state=.ready→r.pending=none→St pre x→I.le ai→B pre ai δ'→enc ai x vs→
 bJ ⟨C.P,some l,C.n,aG,ai,.obj l (.loop r)::δ'⟩ assign (CQ ⟨C.P,some l,C.n,aG,ai,.obj l (.loop r)::δ'⟩ l body (h_ aG ai (.obj l (.loop r)::δ') (fun v qd nx=>v=.bool true∧∃cI,nx=.obj l (.loop r)::cI∧B (pre++ [x]) qd cI))) (uR cp vs σ) [] ai (.obj l (.loop r)::δ'))
 (k:∀xs ai δ',I.le ai→Fin xs→B xs ai δ'→bf C Q .normal σ ds ai ((δi++δ')++δr)):
 bJ C (.rangeFunc g cp.toArray assign body) Q σ ds I δ:=by
 intro a w he ao ar;have iu:C.F=Fence.wide.inRound l0:=MP an;have E1:C.F.round=some l0:=by rw[iu];rfl
 have M8:w.heap[l0]? =some (.loop r0):=ao.dQ _ kx.mem;refine wpIn_rangeFunc fun fn _=> ?_;have db:=ao.perm az;have te:=ar.kr az;let r:Loop:= {state:=.ready,pending:=none,fn:=fn,tmps:=a.tmps,params:=cp.toArray,assign:=assign,body:=body,defers:=r0.defers}
 obtain⟨s2,t2⟩:=db.alloc (.obj w.heap.size (.loop r)) (.loop r) rfl (heap_alloc_new w _);have p8:=te.trans t2;have hb:(ay.obj w.heap.size (.loop r)::((δi++δb)++δr)).Perm ((δi++(.obj w.heap.size (.loop r)::δb))++δr):=by rw[←List.cons_append];exact List.Perm.append_right _ List.perm_middle.symm
 have mK:=s2.perm hb;have CR:=p8.kr hb;let fs:Value:=.func (.yield w.heap.size) #[] #[];have bT:Sat (w.alloc (.loop r)) I (δi++(.obj w.heap.size (.loop r)::δb)):=by have al:eg ((δi++(.obj w.heap.size (.loop r)::δb))++δr)=eg (δi++(.obj w.heap.size (.loop r)::δb))++eg δr:=List.filterMap_append;have eY:=mK.nodup;rw[al,List.nodup_append]at eY;exact⟨mK.gE,fun y aw=>mK.dQ y (List.mem_append_left _ aw),eY.1,fun b g3=>mK.apart b (by rw[al];exact List.mem_append_left _ g3)⟩
 have AE:=sf fs (fun pre ai δ'=>∃cI,δ'=.obj w.heap.size (.loop r)::cI∧B pre ai cI) (.obj w.heap.size (.loop r)::δb) (fun l en dV δ hle ⟨cI,ab,ae⟩=>⟨cI,ab,eJ l en dV cI hle ae⟩) ⟨δb,rfl,aB⟩ (fun pre x ai δ' vs af iq eJ ax=>by obtain⟨cI,rfl,eJ⟩:=eJ;exact Nj (r:=r) rfl cE (hlen _ _ _ ax) he.size he.val Has.here (fun aG=>round _ r aG pre x ai cI vs rfl rfl af iq eJ ax));refine⟨w.heap.size,[],w.alloc (.loop r),{target:=.fn (.func f) caps.toArray,args:= #[fs]},w.alloc (.loop r),f,(fs::caps).toArray,w.alloc (.loop r),by rw[E1];exact run_enterLoop_inner M8 fn a.tmps cp.toArray assign body,?_,fun _ _=>trivial,?_,fun h=>(by simp[iu,Fence.inRound,Fence.wide]at h),?_⟩;have xi:=he.cr aM;have aq:a.eval (.const (.func (.yield w.heap.size) #[] #[]))=fs:=rfl;simp[resolve,xi,aq,Deferred.ofValue];simp only[invoke];rw[Aq dr];simp;refine CallsIn.mono (MQ (n:=0-1) (AE _ bT)) ?_;rintro e lz ⟨v,ai,δ',rfl,qe,CS,xs,dx,pj,⟨cI,rfl,eJ⟩,rfl⟩;obtain⟨f1,f2⟩:=frame mK qe CS;have rh:lz.heap[w.heap.size]? =some (.loop r):=f1.dQ (.obj w.heap.size (.loop r)) (by simp);refine⟨none,lz.putObj w.heap.size (.loop {r with state:=.exhausted}),run_endLoop rh (by simp[r]),?_⟩;have av:w.heap.size<lz.heap.size:=(Array.getElem?_eq_some_iff.1 rh).1;have uS:((δi++(ay.obj w.heap.size (.loop r)::cI))++δr).Perm (.obj w.heap.size (.loop r)::((δi++cI)++δr)):=by rw[←List.cons_append];exact List.Perm.append_right _ List.perm_middle
 replace f1:=f1.perm uS;replace f2:=f2.kr uS
 obtain⟨uT,t4⟩:=f1.swap (w':=lz.putObj w.heap.size (.loop {r with state:=.exhausted})) (x':=.obj w.heap.size (.loop {r with state:=.exhausted})) .here rfl rfl rfl (by simp[World.putObj])
   (fun b _ al=>World.putObj_heap_other (fun e=>al (by rw[e];rfl))) (show(lz.putObj w.heap.size (.loop {r with state:=.exhausted})).heap[w.heap.size]? =some (.loop {r with state:=.exhausted})by simp[World.putObj,av]) (fun b al=>.inl al)
 have AF:=((CR.trans f2).trans t4).trans uT.drop.2;exact k xs ai cI f2.gE pj eJ _ _ ⟨he.size,he.val,by simp[he.defers]⟩ uT.drop.1 AF
theorem IN {α:Type} {g:Operand} {cp:List Nat} {assign body:Code} {f:FuncId} {caps:List Value} {enc:aa→α→List Value→Prop} {xs:List α} {δb δi δr:List ay} (B:List α→aa→List ay→Prop)
    (an:C.r=none) (aM:bp σ g=some (.func (.func f) #[] caps.toArray)) (dr:eb C.P f=true) (cE:cp.all (fun p=>Nat.blt p C.n)=true) (sf:Iter C.P f caps I δi enc xs) (az:df δ (δi++δb) δr) (aB:B [] I δb)
    (hlen:∀I x vs,enc I x vs→vs.length=cp.length) (eJ:∀l en dV δ,en.le dV→B l en δ→B l dV δ)
    (round:∀(l:Nat) (r:Loop) (aG:World) pre x post ai δ' vs,r.state=.ready→r.pending=none→xs=pre++x::post→I.le ai→B pre ai δ'→enc ai x vs→
      bJ ⟨C.P,some l,C.n,aG,ai,.obj l (.loop r)::δ'⟩ assign (CQ ⟨C.P,some l,C.n,aG,ai,.obj l (.loop r)::δ'⟩ l body (h_ aG ai (.obj l (.loop r)::δ') (fun v qd nx=>v=.bool true∧∃cI,nx=.obj l (.loop r)::cI∧B (pre++ [x]) qd cI))) (uR cp vs σ) [] ai (.obj l (.loop r)::δ'))
    (k:∀(gR:Nat) ai δ',I.le ai→B xs ai δ'→bf C Q .normal σ (gR::ds) ai (.obj gR (.deferred (some []))::((δi++δ')++δr))):
    bJ C (.rangeFunc g cp.toArray assign body) Q σ ds I δ:=
  Nk (St:=fun pre x=>∃post,xs=pre++x::post) (Fin:=fun l=>l=xs) B an aM dr cE
    (fun fs J δ hm aB aw=>(sf fs J δ hm aB fun pre x post ai δ' vs af=>aw pre x ai δ' vs ⟨post,af⟩).mono fun _ _ _ _ ⟨dx,ab,ae⟩=>⟨xs,dx,rfl,ab,ae⟩) az aB hlen eJ
    (fun l r aG pre x ai δ' vs ab ae ⟨post,aF⟩=>round l r aG pre x post ai δ' vs ab ae aF) (fun gR ys ai δ' ab ae=>by subst ae;exact k gR ai δ' ab)
def IP(C:Ctx)(Inv:Nat→Env→List dN→aa→List ay→Prop)(m:Nat):Act→World→Prop:=fun a w=>
  ∃eI aL c0 ai δ',eI<m∧Inv eI aL c0 ai δ'∧gq C.n aL c0 a∧Sat w ai δ'∧er C.aG C.I0 C.cl w ai δ'
theorem Uc {c:Code} (Inv:Nat→Env→List dN→aa→List ay→Prop) (uN:Nat) (kT:Env) (aB:Inv uN kT ds I δ) (bT:m3 kT σ)
 (round:∀m aL c0 ai δ',Inv m aL c0 ai δ'→bJ C c (Exit.then (IP C Inv m) Q) aL c0 ai δ'):bJ C (.loop c) Q σ ds I δ:=by
 intro a w he ao ar;let J:Nat→Act→World→Prop:=fun m a w=>∃aL c0 ai δ',Inv m aL c0 ai δ'∧gq C.n aL c0 a∧Sat w ai δ'∧er C.aG C.I0 C.cl w ai δ'
 have key:∀m a w,J m a w→(Code.loop c).wpIn C.F 0 C.P Q a w:=by
  classical
  intro m a w cj;refine wpIn_loop (fun a w=>∃m,J m a w) (fun a w=>if h:∃m,J m a w then(least h).choose else 0) ⟨m,cj⟩ ?_;intro dW hp hex;obtain⟨aL,c0,ai,δ',aj,o_,kt,l1⟩:=(least hex).choose_spec.1;refine wpIn_mono (round _ aL c0 ai δ' aj dW hp o_ kt l1) ?_;intro e fm r8 aC
  cases e with
  |normal=>
   obtain⟨eI,EH,E2,dV,cI,av,eF,ny,gr,p8⟩:=aC;have Au:∃m,J m fm r8:=⟨eI,EH,E2,dV,cI,eF,ny,gr,p8⟩
   refine⟨Au,?_⟩;simp only[dif_pos hex,dif_pos Au];exact Nat.lt_of_le_of_lt ((least Au).choose_spec.2 _ ⟨EH,E2,dV,cI,eF,ny,gr,p8⟩) av
  |exit id=>exact aC
  |goto l=>exact aC
  |ret=>exact aC
  |panic h3=>exact aC
  |outgrown=>exact aC
 exact key uN a w ⟨kT,ds,I,δ,aB,he.sub bT,ao,ar⟩
theorem Ud{Inv:Nat→Env→List dN→aa→List ay→Prop}{m:Nat}(eI:Nat)(aL:Env)(av:eI<m)(aj:Inv eI aL ds I δ)(bT:m3 aL σ):
    bf C (Exit.then (IP C Inv m) Q) .normal σ ds I δ:=
  fun _ _ he ao ar=>⟨eI,aL,ds,I,δ,av,aj,he.sub bT,ao,ar⟩
theorem gH {t e:TypeId} {x:Operand} {A:Option Addr} {m c size n k i:Nat} {agg:Bool} {xs:List Value} {v:Value} (ar:dt C.P t agg k) (af:bp σ x=some (dh A i)) (bK:Has δ (.row (.slice A m c) e size n xs)) (bo:A.isSome=true)
    (ax:kU agg k (xs.drop i)=some v):cz C σ ds I δ (.load t x) v:=
  fun _ _ _ _ _=>(fun a w he ao=>by
   obtain⟨a0,rfl⟩:=Option.isSome_iff_exists.1 bo;have an:w.ownsRow 0 e size (.slice (some a0) m c) n xs:=ao.dQ _ bK.mem
   obtain⟨g,rfl⟩:∃g,a0=⟨g,0,none⟩:=by
    rcases an.2 with⟨he,_⟩|⟨g,cap,cur,he,_⟩
    cases he;exact⟨g,by injection he with he;injection he⟩
   obtain⟨us,aA,rfl,hu⟩:=Ix ax ar.one;have ks:(⟨g,0,none⟩:Addr).add i=⟨g,i,none⟩:=by rw[add_plain];simp
   have:=EI ar (w:=w) (a:=⟨g,i,none⟩) aA (fun j v au=>by have ab:=hu j v au;rw[List.getElem?_drop]at ab;have ae:=an.cells (g:=g) rfl (i+j) v ab;rw[add_plain];rw[add_plain]at ae;simpa using ae);simp[execOp,he.cr af,dh,ks,this])
theorem View.short{e:TypeId}{size n h c:Nat}{A:Option Addr}{xs:List Value}(δ':List ay)(aH:bc δ (.row (.slice A n c) e size n xs) δ' (.row (.slice A h c) e size h (xs.take (h*size))))(bK:h≤n):View I δ I δ':=fun w ao=>by
 obtain⟨l,r,rfl,rfl⟩:=aH.split;have bm:w.ownsRow 0 e size (.slice A n c) n xs:=ao.dQ (.row (.slice A n c) e size n xs) (by simp);have al:eg (l++ .row (.slice A n c) e size n xs::r)=eg (l++ .row (.slice A h c) e size h (xs.take (h*size))::r):=by simp only[eg,List.filterMap_append,List.filterMap_cons];cases A<;>rfl
 have iv:w.ownsRow 0 e size (.slice A h c) h (xs.take (h*size)):=by
  obtain⟨aA,af⟩:=bm;have hle:h*size≤n*size:=Nat.mul_le_mul_right _ bK;refine⟨by rw[List.length_take,aA];omega,?_⟩;rcases af with⟨he,aD⟩|⟨g,cap,cur,he,ab,ae,aF,bb,eX,ft⟩
  cases he
  exact .inl ⟨by have:h=0:=by omega
                 rw[this],by omega⟩
  cases he;exact .inr ⟨g,c,cur,rfl,ab,ae,by omega,bb,eX,by rw[←ft,List.take_take,Nat.min_eq_left hle]⟩
 refine⟨⟨ao.gE,fun y aw=> ?_,al▸ao.nodup,al▸ao.apart⟩,⟨rfl,rfl,rfl,Nat.le_refl _,fun _ _ _=>rfl,aa.le_refl _,fun b o ab ae=>(by rw[ab]at ae;cases ae),fun b g3=>.inl (al▸g3)⟩⟩;rcases List.mem_append.1 aw with aw|aw
 exact ao.dQ y (List.mem_append_left _ aw);rcases List.mem_cons.1 aw with rfl|aw
 exact iv;exact ao.dQ y (List.mem_append_right _ (List.mem_cons_of_mem _ aw))
end
end Go.Proofs.YtciibkomnoicdaaGreat.Lg
