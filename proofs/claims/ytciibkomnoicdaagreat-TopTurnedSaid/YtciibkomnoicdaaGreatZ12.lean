/- Own texts: a small program logic, plain facts, walks through the program's functions. No condition. -/
import Derived.Shelf.SortM.Plain
import Derived.Shelf.SortM.SortNone
import Derived.Test.YtciibkomnoicdaaGreatZ11
set_option maxRecDepth 10000
set_option maxHeartbeats 4000000
set_option linter.unusedVariables false
set_option linter.unusedSimpArgs false
set_option linter.unnecessarySimpa false
set_option linter.unusedSectionVars false
namespace Go.Proofs.YtciibkomnoicdaaGreat
open Go Lg Tryz
mutual
theorem BL:∀t:T,c2 t=0→hM t
  |.mk h us,e=>by obtain⟨ab,ae⟩:=PI e;rw[hM];exact⟨ab,aaK us fun x af=>by obtain⟨i,aj,rfl⟩:=List.getElem_of_mem af;exact ae i aj⟩
theorem aaK:∀us:List T,(∀x∈us,c2 x=0)→t_ us
  | [],_=>trivial
  |t::r,e=>by rw[t_];exact⟨BL t (e t (List.mem_cons_self ..)),aaK r fun x af=>e x (List.mem_cons_of_mem _ af)⟩
end
theorem Lo{t:T}(h:c2 t=0):∀x∈t.args,c2 x=0:=fun x af=>by
 cases t with
 |mk k us=>obtain⟨_,ae⟩:=PI h;obtain⟨i,aj,rfl⟩:=List.getElem_of_mem af;exact ae i aj
inductive At(bs:List bx):T→T→Prop
  |fn {t:T}:0≤t.head→At bs t t
  |free {t:T}:t.head<0→cd bs (-1-t.head)=none→At bs t t
  |step {t u v:T}:t.head<0→cd bs (-1-t.head)=some u→At bs u v→At bs t v
theorem At.end_{bs:List bx}{t v:T}(h:At bs t v):v.head<0→cd bs (-1-v.head)=none:=by
 induction h with
 |fn aB=>intro h;omega
 |free _ h=>intro _;exact h
 |step _ _ _ aY=>exact aY
theorem At.prop{bs:List bx}{t v:T}(h:At bs t v){P:T→Prop}(aB:P t)(al:∀x u,cd bs x=some u→P u):P v:=by
 induction h with
 |fn _=>exact aB
 |free _ _=>exact aB
 |step _ h _ aY=>exact aY (al _ _ h)
theorem At.inst{bs:List bx}{t v:T}(h:At bs t v){γ:Int→G}(bl:oN γ bs):inst γ v=inst γ t:=by
 induction h with
 |fn _=>rfl
 |free _ _=>rfl
 | @step t u v aB al _ aY=>
  rw[aY];have:=bl _ _ al;rw[←this]
  cases t with
  |mk k us=>rw[lg,if_pos (by simpa[T.head]using aB)];rfl
theorem At.st{bs:List bx}{N:Nat}(dM:hN bs N){t v:T}(h:At bs t v):bI (ea bs N) v=bI (ea bs N) t:=by
 induction h with
 |fn _=>rfl
 |free _ _=>rfl
 | @step t u v aB al _ aY=>rw[aY,wX aB,dM.bound ah al]
def QN(gs:List aE)(a b:List T):Prop:=∀p∈a.zip b,b9 gs p.1∧b9 gs p.2∧cy gs p.1=cy gs p.2
structure h8(a b:List T)(bs:List bx)(st:List (T×T)):Prop where
  BM:∃N,hN bs N
  gT:∀v u,cd bs v=some u→0≤v∧v≤255∧c2 u=0
  dC:∀p∈st,c2 p.1=0∧c2 p.2=0
  BN:∀γ:Int→G,(∀p∈a.zip b,inst γ p.1=inst γ p.2)↔(oN γ bs∧∀p∈st,inst γ p.1=inst γ p.2)
  lh:∀gs,QN gs a b→(∀v u,cd bs v=some u→b9 gs u∧cy gs u=false)∧∀p∈st,b9 gs p.1∧b9 gs p.2∧cy gs p.1=cy gs p.2
section
variable {a b:List T} {bs:List bx} {st:List (T×T)} {p q x y:T}
theorem h8.same(h:h8 a b bs (st++ [(p,q)]))(af:At bs p x)(aw:At bs q y)(e:x=y):h8 a b bs st where
  BM:=h.BM
  gT:=h.gT
  dC:=fun r an=>h.dC r (List.mem_append_left _ an)
  BN:=fun γ=>by
   rw[h.BN γ];constructor;rintro⟨ab,ae⟩;exact⟨ab,fun r an=>ae r (List.mem_append_left _ an)⟩;rintro⟨ab,ae⟩;refine⟨ab,fun r an=> ?_⟩;rcases List.mem_append.1 an with an|an
   exact ae r an;rw[List.mem_singleton]at an;subst an;show inst γ p=inst γ q;rw[←af.inst ab,←aw.inst ab,e]
  lh:=fun gs ao=>⟨(h.lh gs ao).1,fun r an=>(h.lh gs ao).2 r (List.mem_append_left _ an)⟩
theorem h8.eqs(h:h8 a b bs (st++ [(p,q)]))(af:At bs p x)(aw:At bs q y)(γ:Int→G):(∀r∈a.zip b,inst γ r.1=inst γ r.2)↔(oN γ bs∧(∀r∈st,inst γ r.1=inst γ r.2)∧inst γ x=inst γ y):=by
 rw[h.BN γ];constructor;rintro⟨ab,ae⟩;refine⟨ab,fun r an=>ae r (List.mem_append_left _ an),?_⟩;rw[af.inst ab,aw.inst ab];exact ae (p,q) (List.mem_append_right _ (by simp));rintro⟨ab,ae,aF⟩;refine⟨ab,fun r an=> ?_⟩;rcases List.mem_append.1 an with an|an
 exact ae r an;rw[List.mem_singleton]at an;subst an;rw[af.inst ab,aw.inst ab]at aF;exact aF
theorem h8.ends(h:h8 a b bs (st++ [(p,q)]))(af:At bs p x)(aw:At bs q y):c2 x=0∧c2 y=0∧∀gs,QN gs a b→b9 gs x∧b9 gs y∧cy gs x=cy gs y:=by
 obtain⟨ab,ae⟩:=h.dC (p,q) (List.mem_append_right _ (by simp));refine⟨af.prop (P:=fun t=>c2 t=0) ab fun _ _ e=>(h.gT _ _ e).2.2,aw.prop (P:=fun t=>c2 t=0) ae fun _ _ e=>(h.gT _ _ e).2.2,fun gs ao=> ?_⟩;obtain⟨t1,t2⟩:=h.lh gs ao;obtain⟨ij,gx,zr⟩:=t2 (p,q) (List.mem_append_right _ (by simp))
 have key:∀{t v:T},At bs t v→b9 gs t→b9 gs v∧cy gs v=cy gs t:=by
  intro t v bk
  induction bk with
  |fn _=>intro o;exact⟨o,rfl⟩
  |free _ _=>intro o;exact⟨o,rfl⟩
  |step aB al _ aY=>intro _;obtain⟨c8,b6⟩:=t1 _ _ al;obtain⟨hs,rR⟩:=aY c8;refine⟨hs,?_⟩;rw[rR,b6];unfold cy;rw[decide_eq_false ah];rfl
 obtain⟨c8,b6⟩:=key af ij;obtain⟨hs,rR⟩:=key aw gx;exact⟨c8,hs,by rw[b6,rR];exact zr⟩
theorem aaL{γ:Int→G}{t:T}(h:t.head<0):inst γ t=γ (-1-t.head):=by
 cases t with
 |mk k us=>rw[lg,if_pos (by simpa[T.head]using h)];rfl
theorem h8.bind(h:h8 a b bs (st++ [(p,q)])){N:Nat}(dM:hN bs N)(qp:(At bs p x∧At bs q y)∨(At bs p y∧At bs q x))(aB:x.head<0)(aD:x.head∉cq (bI (ea bs N) y)):h8 a b ((-1-x.head,y)::bs) st:=by
 have apZ:c2 x=0∧c2 y=0∧(∀gs,QN gs a b→b9 gs y∧cy gs y=false)∧cd bs (-1-x.head)=none∧∀γ:Int→G,(∀r∈a.zip b,inst γ r.1=inst γ r.2)↔(oN γ bs∧(∀r∈st,inst γ r.1=inst γ r.2)∧inst γ x=inst γ y):=by
  have gF:∀gs,cy gs x=false:=fun gs=>by unfold cy;rw[decide_eq_false ah];rfl
  rcases qp with⟨af,aw⟩|⟨aw,af⟩
  obtain⟨aQ,aT,dA⟩:=h.ends af aw;exact⟨aQ,aT,fun gs ao=>⟨(dA gs ao).2.1,by rw[←(dA gs ao).2.2];exact gF gs⟩,af.end_ aB,fun γ=>h.eqs af aw γ⟩;obtain⟨aQ,aT,dA⟩:=h.ends aw af;refine⟨aT,aQ,fun gs ao=>⟨(dA gs ao).1,by rw[(dA gs ao).2.2];exact gF gs⟩,af.end_ aB,fun γ=> ?_⟩;rw[h.eqs aw af γ];exact⟨fun⟨a,b,c⟩=>⟨a,b,c.symm⟩,fun⟨a,b,c⟩=>⟨a,b,c.symm⟩⟩
 obtain⟨zO,yb,sT,sU,heq⟩:=apZ;have ay5:-256≤x.head:=KZ zO _ (by rw[←T.eta x,ji];exact List.mem_cons_self ..);constructor;exact⟨_,dM.bind sU (fun v u e=>BL _ (h.gT v u e).2.2) (BL _ yb) (by rw[show-1-(-1-x.head)=x.head by omega];exact aD)⟩;intro v u e;rw[oO]at e;by_cases q:-1-x.head=v;rw[if_pos q]at e;cases e;exact⟨by omega,by omega,yb⟩;rw[if_neg q]at e;exact h.gT v u e;exact fun r an=>h.dC r (List.mem_append_left _ an);intro γ;rw[heq γ];have ao:oN γ ((-1-x.head,y)::bs)↔oN γ bs∧inst γ x=inst γ y:=by rw[aaL aB];constructor;intro ao;refine⟨fun v u e=>ao v u ?_,ao _ _ (by rw[oO,if_pos rfl])⟩;rw[oO,if_neg];exact e;intro q;subst q;rw[sU]at e;cases e;rintro⟨ab,ae⟩ v u e;rw[oO]at e;by_cases q:-1-x.head=v;rw[if_pos q]at e;cases e;rw[←q];exact ae;rw[if_neg q]at e;exact ab v u e
 rw[ao];exact⟨fun⟨a,b,c⟩=>⟨⟨a,c⟩,b⟩,fun⟨⟨a,c⟩,b⟩=>⟨a,b,c⟩⟩;intro gs aaM;obtain⟨t1,t2⟩:=h.lh gs aaM;refine⟨fun v u e=> ?_,fun r an=>t2 r (List.mem_append_left _ an)⟩;rw[oO]at e;by_cases q:-1-x.head=v;rw[if_pos q]at e;cases e;exact sT gs aaM;rw[if_neg q]at e;exact t1 v u e
theorem aaN{γ:Int→G}{x y:T}(aB:0≤x.head)(ab:0≤y.head):inst γ x=inst γ y↔x.head=y.head∧x.args.length=y.args.length∧∀r∈x.args.zip y.args,inst γ r.1=inst γ r.2:=by
 rw[tV aB,tV ab]
 have key:∀l m:List T,gN γ l=gN γ m↔l.length=m.length∧∀r∈l.zip m,inst γ r.1=inst γ r.2:=by
  intro l
  induction l with
  |nil=>intro m;cases m<;>simp[gN]
  |cons x l aY=>
   intro m
   cases m with
   |nil=>simp[gN]
   |cons y m=>rw[gN,gN,List.cons.injEq,aY m];simp only[List.length_cons,List.zip_cons_cons,List.mem_cons,forall_eq_or_imp,Nat.add_right_cancel_iff];exact⟨fun⟨a,b,c⟩=>⟨b,a,c⟩,fun⟨b,a,c⟩=>⟨a,b,c⟩⟩
 rw[G.mk.injEq,key];constructor;rintro⟨a,b⟩;exact⟨by omega,b⟩;rintro⟨a,b⟩;exact⟨by rw[a],b⟩
theorem h8.args(h:h8 a b bs (st++ [(p,q)]))(af:At bs p x)(aw:At bs q y)(aB:0≤x.head)(he:x.head=y.head)(aA:x.args.length=y.args.length):h8 a b bs (st++(x.args.zip y.args).reverse) where
  BM:=h.BM
  gT:=h.gT
  dC:=fun r an=>by
   obtain⟨aQ,aT,_⟩:=h.ends af aw;rcases List.mem_append.1 an with an|an
   exact h.dC r (List.mem_append_left _ an);have:=List.of_mem_zip (List.mem_reverse.1 an);exact⟨Lo aQ _ this.1,Lo aT _ this.2⟩
  BN:=fun γ=>by
   rw[h.eqs af aw γ,aaN aB ah];constructor;rintro⟨ab,ae,_,_,aF⟩;refine⟨ab,fun r an=> ?_⟩;rcases List.mem_append.1 an with an|an
   exact ae r an;exact aF r (List.mem_reverse.1 an);rintro⟨ab,ae⟩;exact⟨ab,fun r an=>ae r (List.mem_append_left _ an),he,aA,fun r an=>ae r (List.mem_append_right _ (List.mem_reverse.2 an))⟩
  lh:=fun gs ao=>by
   obtain⟨t1,t2⟩:=h.lh gs ao;refine⟨t1,fun r an=> ?_⟩;rcases List.mem_append.1 an with an|an
   exact t2 r (List.mem_append_left _ an);obtain⟨_,_,dA⟩:=h.ends af aw;obtain⟨ij,gx,_⟩:=dA gs ao;have:=List.of_mem_zip (List.mem_reverse.1 an);obtain⟨i,aj,aQ⟩:=List.getElem_of_mem this.1;obtain⟨j,au,aT⟩:=List.getElem_of_mem this.2;refine⟨ij.args _ this.1,gx.args _ this.2,?_⟩;rw[←aQ,←aT,KK ij i aj,KK gx j au]
theorem h8.ap0(h:h8 a b bs (st++ [(p,q)]))(af:At bs p x)(aw:At bs q y)(aB:0≤x.head)(ab:0≤y.head)(aD:x.head≠y.head∨x.args.length≠y.args.length)(γ:Int→G):¬∀r∈a.zip b,inst γ r.1=inst γ r.2:=fun ao=>by
 have:=((h.eqs af aw γ).1 ao).2.2;rw[aaN aB ab]at this;rcases aD with aD|aD
 exact aD this.1;exact aD this.2.1
theorem h8.ap1(h:h8 a b bs (st++ [(p,q)])){N:Nat}(qp:(At bs p x∧At bs q y)∨(At bs p y∧At bs q x))(aB:x.head<0)(ab:0≤y.head)(aD:x.head∈cq (bI (ea bs N) y))(γ:Int→G):¬∀r∈a.zip b,inst γ r.1=inst γ r.2:=fun ao=>by
 have key:oN γ bs∧inst γ x=inst γ y:=by
  rcases qp with⟨af,aw⟩|⟨aw,af⟩
  have:=(h.eqs af aw γ).1 ao;exact⟨this.1,this.2.2⟩;have:=(h.eqs aw af γ).1 ao;exact⟨this.1,this.2.2.symm⟩
 rw[aaL aB]at key;exact anV key.1 (v:= -1-x.head) ah ab (by rw[show-1-(-1-x.head)=x.head by omega];exact aD) key.2
end
def fH(x y:T):T×T:=if y.head<0∧(0≤x.head∨y.head<x.head)then(y,x)else(x,y)
abbrev DV:=List bx×List (T×T)
def sV(bs:List bx)(st:List (T×T))(x y:T):DV:=
  if x.head<0 then(if x.head=y.head then(bs,st)else((-1-x.head,y)::bs,st))else(bs,st++(x.args.zip y.args).reverse)
def um(bs:List bx)(x y:T):Prop:=
  (x.head<0→x.head≠y.head→∀N,hN bs N→x.head∉cq (bI (ea bs N) y))∧(0≤x.head→x.head=y.head∧x.args.length=y.args.length)
def QO(s s':DV):Prop:=∃st p q x y,s.2=st++ [(p,q)]∧At s.1 p x∧At s.1 q y∧um s.1 (fH x y).1 (fH x y).2∧s'=sV s.1 st (fH x y).1 (fH x y).2
theorem Lp{bs:List bx}{p q x y:T}(af:At bs p x)(aw:At bs q y):(At bs p (fH x y).1∧At bs q (fH x y).2)∨(At bs p (fH x y).2∧At bs q (fH x y).1):=by
 unfold fH;split;exact .inr ⟨af,aw⟩;exact .inl ⟨af,aw⟩
theorem Lq{x y:T}(h:0≤(fH x y).1.head):fH x y=(x,y)∧0≤y.head:=by
 unfold fH at*;split at h;rename_i q;simp only at h;omega;rename_i q;rw[if_neg q];simp only at h;exact⟨rfl,by omega⟩
theorem aaO{x y:T}(af:hM x)(aw:hM y)(aB:x.head<0)(e:x.head=y.head):x=y:=by
 rw[←T.eta x,←T.eta y,e,af.leaf aB,aw.leaf ah]
section
variable {a b:List T} {bs:List bx} {st:List (T×T)}
theorem h8.next{s:DV}(h:h8 a b s.1 s.2){s':DV}(k:QO s s'):h8 a b s'.1 s'.2:=by
 obtain⟨st,p,q,x,y,e,af,aw,bQ,rfl⟩:=k;rw[e]at h;obtain⟨N,dM⟩:=h.BM;obtain⟨fE,dT,_⟩:=h.ends af aw;have qp:=Lp af aw;unfold sV;split;rename_i aB;split;rename_i ab;refine h.same af aw ?_;have pk:=BL _ fE;have ql:=BL _ dT;unfold fH at aB ab;split at aB;rename_i q;rw[if_pos q]at ab;exact(aaO ql pk aB ab).symm;rename_i q;rw[if_neg q]at ab;exact aaO pk ql aB ab;rename_i ab;exact h.bind dM qp aB (bQ.1 aB ab N dM);rename_i aB;obtain⟨aQ,aT⟩:=Lq (x:=x) (y:=y) ah;have NT:0≤x.head:=by rw[aQ]at aB;exact Int.not_lt.1 aB
 obtain⟨dA,oh⟩:=bQ.2 ah;rw[aQ]at dA oh⊢;exact h.args af aw NT dA oh
def uo(bs:List bx):Nat→Nat
  |0=>0
  |n+1=>uo bs n+(if cd bs (n:Int)=none then 1 else 0)
theorem aaP{bs:List bx}{v:Int}{t:T}:∀n:Nat,uo ((v,t)::bs) n≤uo bs n
  |0=>Nat.le_refl _
  |n+1=>by have:=aaP (bs:=bs) (v:=v) (t:=t) n;simp only[uo,oO];by_cases e:v=(n:Int);simp only[if_pos e];simp;omega;simp only[if_neg e];omega
theorem aaQ{bs:List bx}{v:Int}{t:T}(aB:0≤v)(ax:cd bs v=none):∀n:Nat,v<n→uo ((v,t)::bs) n<uo bs n
  |0,h=>by omega
  |n+1,h=>by have ab:=aaP (bs:=bs) (v:=v) (t:=t) n;simp only[uo,oO];by_cases e:v=(n:Int);subst e;simp[ax];omega;have:=aaQ (t:=t) aB ax n ah;simp only[if_neg e];omega
def nW(bs:List bx)(N:Nat)(st:List (T×T)):Nat:=(st.map fun r=>(bI (ea bs N) r.1).size+(bI (ea bs N) r.2).size).sum
theorem aaR{N:Nat}(st ew:List (T×T)):nW bs N (st++ew)=nW bs N st+nW bs N ew:=by unfold nW;rw[List.map_append,List.sum_append]
theorem ap2{N:Nat}(p q:T):nW bs N [(p,q)]=(bI (ea bs N) p).size+(bI (ea bs N) q).size:=by simp[nW]
theorem ap3{N:Nat}(st:List (T×T)):nW bs N st.reverse=nW bs N st:=by unfold nW;rw[List.map_reverse,List.sum_reverse]
theorem aaS{N:Nat}:∀l m:List T,nW bs N (l.zip m)≤bG (fN (ea bs N) l)+bG (fN (ea bs N) m)
  | [],m=>by simp[nW]
  |x::l,[]=>by simp[nW]
  |x::l,y::m=>by have:=aaS (N:=N) l m;simp only[nW,List.zip_cons_cons,List.map_cons,List.sum_cons,jQ,bG]at*;omega
def QP(p q:Nat×Nat):Prop:=p.1<q.1∨(p.1=q.1∧p.2<q.2)
theorem ap4:WellFounded QP:=by
 refine Subrelation.wf (r:=Prod.Lex (fun x y:Nat=>x<y) (fun x y:Nat=>x<y)) (fun{p q} h=> ?_) (Prod.lex (inferInstance:WellFoundedRelation Nat) (inferInstance:WellFoundedRelation Nat)).wf;obtain⟨mE,n_⟩:=p;obtain⟨dj,cY⟩:=q;rcases h with h|⟨ab,ae⟩
 exact .left _ _ h;simp only at ab ae;subst ab;exact .right _ ae
theorem ap5{s s':DV}(iq:h8 a b s.1 s.2){N:Nat}(dM:hN s.1 N)(kt:QO s s'):∃qT,hN s'.1 qT∧QP (uo s'.1 256,nW s'.1 qT s'.2) (uo s.1 256,nW s.1 N s.2):=by
 have QQ:=iq.next kt;obtain⟨st,p,q,x,y,e,af,aw,bQ,rfl⟩:=id kt;rw[e,aaR,ap2];have k6:=iq;rw[e]at k6;have eM:bI (ea s.1 N) x=bI (ea s.1 N) p:=af.st dM;have dz:bI (ea s.1 N) y=bI (ea s.1 N) q:=aw.st dM;have mE:=(bI (ea s.1 N) p).size_pos;by_cases aB:(fH x y).1.head<0;by_cases ab:(fH x y).1.head=(fH x y).2.head;have aT:sV s.1 st (fH x y).1 (fH x y).2=(s.1,st):=by unfold sV;rw[if_pos aB,if_pos ab]
 rw[aT];exact⟨N,dM,.inr ⟨rfl,by simp only;omega⟩⟩;have aT:sV s.1 st (fH x y).1 (fH x y).2=((-1-(fH x y).1.head,(fH x y).2)::s.1,st):=by unfold sV;rw[if_pos aB,if_neg ab]
 rw[aT]at QQ⊢
 have sU:cd s.1 (-1-(fH x y).1.head)=none:=by
  rcases Lp af aw with⟨h,_⟩|⟨_,h⟩
  exact h.end_ aB;exact h.end_ aB
 have al:=QQ.gT _ _ (by show cd ((-1-(fH x y).1.head,(fH x y).2)::s.1) _=some _;rw[oO,if_pos rfl]);obtain⟨qT,ap6⟩:=QQ.BM;exact⟨qT,ap6,.inl (aaQ (bs:=s.1) (t:=(fH x y).2) al.1 sU 256 ah)⟩;obtain⟨aQ,aF⟩:=Lq (x:=x) (y:=y) ah;rw[aQ]at aB;have aT:sV s.1 st (fH x y).1 (fH x y).2=(s.1,st++(x.args.zip y.args).reverse):=by rw[aQ];unfold sV;rw[if_neg aB]
 rw[aT];refine⟨N,dM,.inr ⟨rfl,?_⟩⟩;simp only;rw[aaR,ap3];have:=aaS (bs:=s.1) (N:=N) x.args y.args;have s1:(bI (ea s.1 N) x).size=1+bG (fN (ea s.1 N) x.args):=by rw[tX aB,wv];rfl
 have s2:(bI (ea s.1 N) y).size=1+bG (fN (ea s.1 N) y.args):=by rw[tX ah,wv];rfl
 rw[eM]at s1;rw[dz]at s2;omega
theorem h8.start(aA:a.length=b.length)(bk:∀x∈a,c2 x=0)(al:∀x∈b,c2 x=0):h8 a b [] (a.zip b).reverse where
  BM:=⟨0,hN.nil⟩
  gT:=fun v u h=>by simp[cd]at h
  dC:=fun p az=>by have:=List.of_mem_zip (List.mem_reverse.1 az);exact⟨bk _ this.1,al _ this.2⟩
  BN:=fun γ=>⟨fun h=>⟨fun v u e=>by simp[cd]at e,fun p az=>h p (List.mem_reverse.1 az)⟩,fun h p az=>h.2 p (List.mem_reverse.2 az)⟩
  lh:=fun gs ao=>⟨fun v u e=>by simp[cd]at e,fun p az=>ao p (List.mem_reverse.1 az)⟩
def Hc(bs:List bx)(N:Nat)(out:List bx):Prop:=∀v,cd out v=(cd bs v).map fun u=>bI (ea bs N) u
theorem Hc.sb{N:Nat}{out:List bx}(dM:hN bs N)(ha:∀v u,cd bs v=some u→0≤v)(h:Hc bs N out)(v:Int)(ax:0≤v):hX out v=ea bs N v:=by
 unfold hX;rw[h v]
 cases e:cd bs v with
 |none=>rw[xX e];rfl
 |some u=>rw[dM.bound ax e];rfl
theorem ap7{γ γ':Int→G}(h:∀v,0≤v→γ v=γ' v)(t:T):inst γ t=inst γ' t:=xW t fun k _ aB=>h _ ah
theorem h8.ap8{x y:T}{N:Nat}{out:List bx}(h:h8 [x] [y] bs [])(dM:hN bs N)(bQ:Hc bs N out)(ao:∀r∈out,r.2.size≤500):lj x y out true 0:=by
 have ha:∀v u,cd bs v=some u→0≤v:=fun v u e=>(h.gT v u e).1;have sb:=bQ.sb dM ha;have x9:∀γ:Int→G,oN (ki γ (hX out)) bs:=fun γ v u e=>by have:=YZ dM ha γ v u e;have ax:=ha v u e;simp only at this;unfold ki;rw[if_neg ah,sb v ax,this];exact(ap7 (fun w hw=>by rw[if_neg ah,sb w hw]) u).symm
 constructor;intro h;exact absurd rfl h;intro h;cases h;exact ao;intro _ γ bl v ax;have:=((h.BN γ).1 (by simpa using bl)).1;rw[sb v ax];exact YY this N v ax;intro _ γ;have:=(h.BN (ki γ (hX out))).2 ⟨x9 γ,by simp⟩;simpa using this;intro _ gs ij gx ap9 γ bl;have sT:=(h.lh gs (by intro r an;simp at an;subst an;exact⟨ij,gx,ap9⟩)).1
 have key:∀n v,0≤v→mU gs (inst γ (ea bs n v)):=by
  intro n
  induction n with
  |zero=>intro v ax;show mU gs (inst γ (h6 v));rw[DH γ v ax];exact bl v
  |succ n aY=>
   intro v ax;simp only[ea]
   cases e:cd bs v with
   |none=>simp only;rw[DH γ v ax];exact bl v
   |some u=>simp only;obtain⟨c8,b6⟩:=sT v u e;rw[qP γ (ea bs n) u];exact PL (G6 bl aY) _ u (Nat.le_refl _) c8 b6
 exact G6 bl fun v ax=>by rw[sb v ax];exact key N v ax
theorem lj.none{x y:T}{e:Int}(h:e=0→∀γ:Int→G,inst γ x≠inst γ y):lj x y [] false e where
  no:=fun _=>rfl
  Ll:=fun _=>h
  oT:=fun r an=>by simp at an
  aaz:=fun h=>by cases h
  un:=fun h=>by cases h
  lh:=fun h=>by cases h
theorem h8.stuck{s:DV}(h:h8 a b s.1 s.2){st:List (T×T)}{p q x y:T}(e:s.2=st++ [(p,q)])(af:At s.1 p x)(aw:At s.1 q y)(aD:¬um s.1 (fH x y).1 (fH x y).2)(γ:Int→G):¬∀r∈a.zip b,inst γ r.1=inst γ r.2:=by
 rw[e]at h;obtain⟨fE,dT,_⟩:=h.ends af aw;by_cases aB:(fH x y).1.head<0;have qp:=Lp af aw;refine Classical.byContradiction fun aq=>aD ⟨fun _ ab N dM hm=> ?_,fun h=>by omega⟩
 have ae:0≤(fH x y).2.head:=by
  refine Classical.byContradiction fun ae=> ?_
  have vX:cd s.1 (-1-(fH x y).2.head)=none:=by
   rcases qp with⟨_,h⟩|⟨h,_⟩
   exact h.end_ ah;exact h.end_ ah
  rw[wX ah,xX vX,zC]at hm;simp at hm;omega
 exact h.ap1 qp aB ae hm γ (Classical.not_not.1 aq);obtain⟨aQ,aF⟩:=Lq (x:=x) (y:=y) ah;rw[aQ]at aB aD;refine h.ap0 af aw (Int.not_lt.1 aB) aF ?_ γ;refine Classical.byContradiction fun aq=>aD ⟨fun h=>absurd h aB,fun _=> ?_⟩;simp only[not_or,Classical.not_not]at aq;exact aq
end
section
attribute [local irreducible] aK bf bJ
abbrev kk(sb mb:Nat)(xs:bU):List ay:= [.box sb 324 [.map (some mb)],.map mb xs]
theorem oU{I:aa}{sb mb:Nat}{xs:bU}{bs:List bx}{n:Nat}{t:T}{v:Value}(cc:g6 I xs bs)(ax:ba I v t)(bK:iH bs n t):
 aS Tryz.prog 246 [.pointer (some ⟨sb,0,none⟩),v] I (kk sb mb xs) (fun v ai δ'=>∃x,At bs t x∧ba ai v x∧δ'=kk sb mb xs):=by
 obtain⟨bz,bB,rfl,_⟩:=ax.shape;refine a1 func246 ntmps246 fun aG=> ?_;refine go2 ?_;refine bw fun b3=> ?_;refine bh fun b4=> ?_;refine a8 ?_;refine fD (fun m aL ai δ'=>∃(nJ:Nat) (u:T) (c3:Option Addr) (cK:Nat),m=nJ∧aL= [(0,.pointer (some ⟨sb,0,none⟩)),(3,.pointer (some ⟨b3,0,none⟩)),(4,.pointer (some ⟨b4,0,none⟩))]∧I.le ai∧δ'=.box b3 41 [.int .i64 u.head,.slice c3 u.args.length cK]:: .box b4 41 [.int .i64 0,.slice none 0 0]::kk sb mb xs∧iH bs nJ u∧ba ai (.agg #[.int .i64 u.head,.slice c3 u.args.length cK]) u∧(∀x,At bs u x→At bs t x)) ⟨n,t,_,_,rfl,rfl,aa.ag,rfl,bK,ax,fun x h=>h⟩ ⟨rfl,rfl,rfl,trivial⟩ ?_;rintro m _ e6 _ ⟨nJ,u,c3,cK,rfl,rfl,fz,rfl,aM,hu,aW⟩;have an:=Bn hu;unfold dZ at an;refine a_ ?_;by_cases pH:u.head<0;have hQ:u.head∈cq u:=by rw[←T.eta u,ji];exact List.mem_cons_self ..
 refine bg ?_;refine tk (.ct 0 (.ct 1 (.ct 2 (.ct 3 (.ct 4 (.ct 5 (.ct 6 (.two 7 11 (.ct 8 (.ct 9 (.ct 10 (.cA 11 (.cA 12 (.cA 13 .done)))))) (.cA 7 (.ct 8 (.ct 9 (.ct 10 (.cA 12 (.cA 13 .done)))))))))))))) (fun _=>_) mixed (by kernel_rfl) (by kernel_rfl) (fun _=>fQ) ?_;refine aZ ?_;by_cases k9:(cd bs (-1-u.head)).isSome=true;obtain⟨z,a2⟩:=Option.isSome_iff_exists.1 k9;obtain⟨aaT,mu,se⟩:=((cc.mono fz) (-1-u.head)).2 z a2;obtain⟨gZ,kK,rfl,_⟩:=se.shape;refine dg rfl (gG (c:= -1-u.head) rfl rfl rfl ah) ?_;refine na ?_ ?_;refine aI (jr (v:=.agg #[.int .i64 z.head,.slice gZ z.args.length kK]) (g:=true) underlying199 underlying3 z41 rfl rfl cW (by rw[mu];rfl) (by rw[mu];rfl)) ?_;refine aZ ?_;refine bh fun b5=> ?_;refine br ?_;refine dB ?_;refine fx ?_
 cases m with
 |zero=>rw[aM _ hQ pH]at a2;cases a2
 |succ nJ=>refine ec ⟨nJ,z,_,_,rfl,rfl,aa.ag,rfl,aM _ hQ pH z a2,se,fun x h=>aW x (.step pH a2 h)⟩ ⟨rfl,rfl,rfl,trivial⟩
 refine bh fun b5=> ?_;refine aR ?_;refine aI (jr (v:=.agg #[.int .i64 z.head,.slice gZ z.args.length kK]) (g:=true) underlying199 underlying3 z41 rfl rfl cW (by rw[mu];rfl) (by rw[mu];rfl)) ?_;refine bW ?_;refine dB ?_;refine fx ?_
 cases m with
 |zero=>rw[aM _ hQ pH]at a2;cases a2
 |succ nJ=>refine ec ⟨nJ,z,_,_,rfl,rfl,aa.ag,rfl,aM _ hQ pH z a2,se,fun x h=>aW x (.step pH a2 h)⟩ ⟨rfl,rfl,rfl,trivial⟩
 have a2:cd bs (-1-u.head)=none:=by simpa using k9
 have mu:=(cc (-1-u.head)).1 a2;refine dg rfl (gG (c:= -1-u.head) rfl rfl rfl ah) ?_;refine na ?_ ?_;refine aI (jr (v:=.agg #[.int .i64 0,.slice none 0 0]) (g:=false) underlying199 underlying3 z41 rfl rfl cW (by rw[mu];rfl) (by rw[mu];rfl)) ?_;refine aZ ?_;refine bh fun b5=> ?_;refine br ?_;refine dB ?_;refine bW ?_;refine vS rfl ?_;refine b_ ?_;exact hd (rs:= [.cell 4 41]) rfl (.cons (.cell rfl fc cW rfl) .nil) (⟨u,aW u (.free pH a2),hu,rfl⟩);refine bh fun b5=> ?_;refine aR ?_;refine aI (jr (v:=.agg #[.int .i64 0,.slice none 0 0]) (g:=false) underlying199 underlying3 z41 rfl rfl cW (by rw[mu];rfl) (by rw[mu];rfl)) ?_;refine bW ?_;refine dB ?_;refine bW ?_;refine vS rfl ?_;refine b_ ?_;exact hd (rs:= [.cell 4 41]) rfl (.cons (.cell rfl fc cW rfl) .nil) (⟨u,aW u (.free pH a2),hu,rfl⟩);refine fT ?_;exact hd (rs:= [.cell 4 41]) rfl (.cons (.cell rfl fc cW rfl) .nil) (⟨u,aW u (.fn ah),hu,rfl⟩)
theorem ap_{I:aa}{v b1:Value}{ts:List T}{cl:List ay}{p:T→Bool}(Inv:List ay→Prop)(ax:ed I v ts)(aB:Inv cl)(a7:∀J u t δ,I.le J→Inv δ→ba J u t→t∈ts→cR Tryz.prog b1 [u] J δ (fun v _ δ'=>v=.bool (p t)∧Inv δ')):
 aS Tryz.prog 142 [v,b1] I cl (fun v _ δ'=>v=.int .i64 (nR p ts)∧Inv δ'):=by
 obtain⟨ad,c,bj,ts,aq,al,aW,an,qG⟩:=ax;have bT:∀i (h:i<ts.length),ba I (.agg #[.int .i64 ts[i].head,.slice (bj i).1 ts[i].args.length (bj i).2]) ts[i]:=fun i aj=>ba.mk _ _ (an i aj) (qG i aj);refine a1 func142 ntmps142 fun aG=> ?_;refine dn ?_;refine ek (fun m aL ai δ'=>∃k:Nat,m=ts.length-k∧k≤ts.length∧aL= [(0,.slice ad ts.length c),(1,b1),(7,.int .i64 ts.length),(8,.int .i64 k)]∧I.le ai∧Inv δ'∧(ts.take k).any p=false) ts.length [(0,.slice ad ts.length c),(1,b1),(7,.int .i64 ts.length),(8,.int .i64 (0:Nat))] ⟨0,rfl,Nat.zero_le _,rfl,aa.le_refl _,aB,rfl⟩ ⟨rfl,rfl,rfl,rfl,trivial⟩ ?_;rintro m _ I0 dx ⟨k,rfl,hk,rfl,bO,aaU,az⟩;refine aZ ?_;refine bF rfl (fun aV=> ?_) (fun aV=> ?_);have av:k<ts.length:=by simpa using aV
 have db:=(aW k av).isSome;refine fT ?_;refine aI (cC ((aW k av).mono bO)) ?_;refine e8 rfl rfl rfl ((a7 _ _ ts[k] _ bO aaU ((bT k av).mono bO) (List.getElem_mem _))) df.all ?_;rintro mO jK cI jf ⟨rfl,aaV⟩;rw[List.append_nil];refine go2 ?_;refine bF rfl (fun bq=> ?_) (fun bq=> ?_);refine bW ?_;exact b0 rfl rfl (⟨by rw[J5 p ts k av az bq];rfl,aaV⟩) (hw:=v7);refine aP ?_;refine cV (ts.length-(k+1)) [(0,.slice ad ts.length c),(1,b1),(7,.int .i64 ts.length),(8,.int .i64 (k+1:Nat))] ah ⟨k+1,rfl,av,rfl,aa.le_trans bO jf,aaV,OU av az bq⟩ ⟨rfl,rfl,rfl,rfl,trivial⟩;have bV:k=ts.length:=by simp at aV;omega
 subst bV;rw[List.take_length]at az;refine bA ?_;exact b0 rfl rfl (⟨by rw[F9 p ts az];rfl,aaU⟩) (hw:=v7)
theorem aqa{I:aa}{v b1:Value}{ts:List T}{cl:List ay}{p:T→Bool}(Inv:List ay→Prop)(ax:ed I v ts)(aB:Inv cl)(a7:∀J u t δ,I.le J→Inv δ→ba J u t→t∈ts→cR Tryz.prog b1 [u] J δ (fun v _ δ'=>v=.bool (p t)∧Inv δ')):
 aS Tryz.prog 110 [v,b1] I cl (fun v _ δ'=>v=.bool (ts.any p)∧Inv δ'):=by
 refine a1 func110 ntmps110 fun aG=> ?_;refine br ?_;refine hr rfl (ap_ Inv ax aB a7) ?_;rintro mM je aqb kA ⟨rfl,aqc⟩;rw[List.append_nil];refine a_ ?_;exact b0 rfl rfl (⟨xu (by have:=(OT p ts).1;clear a7;cases h:ts.any p<;>simp_all),aqc⟩) (hw:=v7)
def aqd:Option Nat→bU→List ay
  |none,_=> []
  |some gn,ms=> [.map gn ms]
abbrev mY(lU:Nat)(Nx:TypeId)(o:Option Nat)(ms:bU)(δ:List ay):List ay:=.box lU Nx [.map o]::(δ++aqd o ms)
theorem Hd{x:ay}:∀{l:List ay},Has (l++ [x]) x
  | []=>Has.here
  |_::l=>Has.there (Hd (l:=l))
theorem QR{x y:ay}:∀{l:List ay},bc (l++ [x]) x (l++ [y]) y
  | []=>bc.here
  |_::l=>bc.there (QR (l:=l))
theorem aaW{x y:ay}{l:List ay}:(x::y::(l++ [])).Perm (y::(l++ [x])):=by
 rw[List.append_nil];exact(List.Perm.swap _ _ _).trans (List.Perm.cons _ (List.perm_append_comm (l₁:= [x])))
def jm{α:Type}(enc:α→Value)(val:Int→α→Prop)(ms:bU):Prop:=∀v u,dG ms v=some u→∃a,u=enc a∧val v a
theorem jm.nil{α:Type}{enc:α→Value}{val:Int→α→Prop}:jm enc val []:=fun v u h=>by cases h
theorem jm.put{α:Type}{enc:α→Value}{val:Int→α→Prop}{ms:bU}(h:jm enc val ms){n:Int}{a:α}(bk:val n a):jm enc val (gi ms n (enc a)):=fun v u hu=>by rw[vZ]at hu;split at hu;rename_i e;subst e;cases hu;exact⟨a,rfl,bk⟩;exact h v u hu
theorem aqe {I:aa} {lU:Nat} {o:Option Nat} {ms:bU} {n:Int} {b1:Value} {δf:List ay} {val:Int→Bool→Prop} (hk:jm Value.bool val ms)
 (a7:∀J gn ms,I.le J→jm Value.bool val ms→cR Tryz.prog b1 [] J (mY lU 378 (some gn) ms δf) (fun v _ δ'=>∃q fk,v=.bool q∧val n q∧jm Value.bool val fk∧δ'=mY lU 378 (some gn) fk δf)):
 aS Tryz.prog 275 [.pointer (some ⟨lU,0,none⟩),.int .i64 n,b1] I (mY lU 378 o ms δf) (fun v _ δ'=>∃q gn fk,v=.bool q∧val n q∧jm Value.bool val fk∧(∀k,o=some k→gn=k)∧δ'=mY lU 378 (some gn) fk δf):=by
 refine a1 func275 ntmps275 fun aG=> ?_;refine a_ ?_;refine mG (fun aL ai δ'=>∃(gn:Nat) (h9:bU),aL= [(0,.pointer (some ⟨lU,0,none⟩)),(1,.int .i64 n),(2,b1)]∧I=ai∧δ'=mY lU 378 (some gn) h9 δf∧jm Value.bool val h9∧(∀k,o=some k→gn=k)) ?_ ?_;refine aZ ?_;refine aI (AR (z:=o.isNone) underlying376 rfl rfl rfl) ?_;refine go2 ?_;refine bF rfl (fun aV=> ?_) (fun aV=> ?_)
 cases o with
 |some _=>cases aV
 |none=> ?_
 refine go2 ?_;refine tm rfl (fun BC=> ?_);refine a8 ?_;refine fS ⟨BC,[],rfl,rfl,rfl,jm.nil,fun k h=>by cases h⟩ ⟨rfl,rfl,rfl,trivial⟩ ((View.perm aaW))
 cases o with
 |none=>cases aV
 |some gn=> ?_
 refine aX ?_;refine fS ⟨_,_,rfl,rfl,rfl,hk,fun k h=>by cases h;rfl⟩ ⟨rfl,rfl,rfl,trivial⟩ (v7);rintro _ _ _ ⟨gn,h9,rfl,rfl,rfl,oV,qN⟩;refine bg ?_;by_cases k9:(dG h9 n).isSome=true;obtain⟨z,a2⟩:=Option.isSome_iff_exists.1 k9;obtain⟨q,rfl,aC⟩:=oV n z a2;refine aI (jr (v:=.bool q) (g:=true) underlying376 underlying3 z4 rfl rfl (Has.there Hd) (by rw[a2];rfl) (by rw[a2];rfl)) ?_;refine xo ?_;exact b0 rfl rfl (⟨q,gn,h9,rfl,aC,oV,qN,rfl⟩) (hw:=v7);have a2:dG h9 n=none:=by simpa using k9
 refine aI (jr (v:=.bool false) (g:=false) underlying376 underlying3 z4 rfl rfl (Has.there Hd) (by rw[a2];rfl) (by rw[a2];rfl)) ?_;refine iR ?_;refine e8 rfl rfl rfl ((a7 _ gn h9 aa.ag oV)) df.all ?_;rintro xJ xK _ xL ⟨q,gm,rfl,aC,hk2,rfl⟩;rw[List.append_nil];refine bA ?_;refine sg underlying376 underlying3 rfl rfl rfl rfl (bc.there QR) ?_;refine br ?_;exact b0 rfl rfl (⟨q,gn,_,rfl,aC,hk2.put aC,qN,rfl⟩) (hw:=v7)
def hasB(bs:List bx)(N:Nat)(v:Int)(t:T):Bool:=decide ((-1-v)∈cq (bI (ea bs N) t))
section
variable {bs:List bx} {N:Nat} {v:Int} {t:T}
theorem DW{θ:Int→T}{w:Int}(hw:0≤w):bI θ (h6 w)=θ w:=by
 have h:(h6 w).head<0:=by show-1-w<0;omega
 rw[wX h];show θ (-1-(-1-w))=_;rw[show-1-(-1-w)=w by omega]
theorem QS(aB:t.head<0):hasB bs N v t=hasB bs N v (h6 (-1-t.head)):=by
 unfold hasB;rw[wX aB,DW ah]
theorem aaX{w:Int}(hw:0≤w)(h:cd bs w=none):hasB bs N v (h6 w)=decide (w=v):=by
 unfold hasB;rw[DW hw,xX h,zC];simp only[List.mem_cons,List.not_mem_nil,or_false];exact decide_eq_decide.2 ⟨fun e=>by omega,fun e=>by omega⟩
theorem aqf(dM:hN bs N){w:Int}(hw:0≤w){u:T}(h:cd bs w=some u):hasB bs N v (h6 w)=hasB bs N v u:=by
 unfold hasB;rw[DW hw,dM.bound hw h]
theorem aqg(aB:0≤t.head)(ax:0≤v):hasB bs N v t=t.args.any (hasB bs N v):=by
 unfold hasB;rw[tX ah,ji,Bool.eq_iff_iff,decide_eq_true_eq,List.any_eq_true,List.mem_cons,jQ];constructor;rintro(h|h);omega;obtain⟨y,aw,h⟩:=List.mem_flatMap.1 h;obtain⟨x,af,rfl⟩:=List.mem_map.1 aw;exact⟨x,af,by simpa using h⟩;rintro⟨x,af,h⟩;exact .inr (List.mem_flatMap.2 ⟨_,List.mem_map_of_mem af,by simpa using h⟩)
end
abbrev aqh(vw jy qk rU:Nat):Value:=.func (.func 274) #[] #[.pointer (some ⟨vw,0,none⟩),.pointer (some ⟨jy,0,none⟩),.pointer (some ⟨qk,0,none⟩),.pointer (some ⟨rU,0,none⟩)]
abbrev He(vw jy qk rU:Nat)(v:Int)(sb mb:Nat)(xs:bU):List ay:=.box vw 3 [.int .i64 v]:: .box jy 322 [.pointer (some ⟨sb,0,none⟩)]:: .box rU 170 [aqh vw jy qk rU]::kk sb mb xs
abbrev Hf(bs:List bx)(N:Nat)(v:Int)(n:Int)(q:Bool):Prop:=q=hasB bs N v (h6 n)
theorem aaY{t x:T}(af:x∈t.args):∀k∈cq x,k∈cq t:=fun k hk=>by rw[←T.eta t,ji];exact List.mem_cons_of_mem _ (List.mem_flatMap.2 ⟨x,af,hk⟩)
theorem aaZ{t x:T}{s:Nat}(h:t.size≤s)(af:x∈t.args):x.size<s:=by
 obtain⟨i,aj,rfl⟩:=List.getElem_of_mem af;have:=KH aj;omega
theorem ba.Hg{I:aa}{v:Value}{t:T}(h:ba I v t):∃s,v=.agg #[.int .i64 t.head,s]∧ed I s t.args:=by obtain⟨s,t,_,h⟩:=h;exact⟨s,rfl,h⟩
theorem aqi {I:aa} {kl rU:Nat} {z:T} {gZ:Option Addr} {kK:Nat} {f:FuncId} {caps:List Value} {δ fv δr:List ay} {R R':Value→aa→List ay→Prop} (az:eb Tryz.prog f=true) (al:Has δ (.box kl 41 [.int .i64 z.head,.slice gZ z.args.length kK])) (aA:Has δ (.box rU 170 [.func (.func f) #[] caps.toArray]))
 (aH:aS Tryz.prog f (.agg #[.int .i64 z.head,.slice gZ z.args.length kK]::caps) I fv R) (BO:df δ fv δr) (bL:∀v ai dx,R v ai dx→∃cI,View ai (dx++δr) ai cI∧R' v ai cI):aS Tryz.prog 276 [.pointer (some ⟨rU,0,none⟩),.pointer (some ⟨kl,0,none⟩)] I δ R':=by
 refine a1 func276 ntmps276 fun aG=> ?_;refine aP ?_;refine aI (p9 NI rfl aA rfl) ?_;refine aI (p9 fc rfl al rfl) ?_;refine e8 rfl rfl rfl ((cR.fq (args:= [_]) (caps:=caps) az aH)) BO ?_;rintro v5 Zq ay6 Zr aqj;obtain⟨ay7,aqk,aql⟩:=bL _ _ _ aqj;refine a8 ?_;exact b0 rfl rfl (aql) (hw:=aqk)
theorem aqm{sb mb vw jy qk rU:Nat}{xs:bU}{bs:List bx}{N:Nat}{v:Int}(dM:hN bs N)(qb:0≤v)(sU:cd bs v=none):∀(n s:Nat) (t:T),iH bs n t→t.size≤s→∀(I:aa) (ja:Value) (o:Option Nat) (ms:bU),ba I ja t→g6 I xs bs→jm Value.bool (Hf bs N v) ms→
 aS Tryz.prog 274 [ja,.pointer (some ⟨vw,0,none⟩),.pointer (some ⟨jy,0,none⟩),.pointer (some ⟨qk,0,none⟩),.pointer (some ⟨rU,0,none⟩)] I (mY qk 378 o ms (He vw jy qk rU v sb mb xs)) (fun q ai δ'=>q=.bool (hasB bs N v t)∧∃o' fk,jm Value.bool (Hf bs N v) fk∧(∀k,o=some k→o'=some k)∧δ'=mY qk 378 o' fk (He vw jy qk rU v sb mb xs)):=by
 intro n
 induction n using Nat.strongRecOn with
 |_ n QT=>
 intro s
 induction s using Nat.strongRecOn with
 |_ s QU=>
 intro t aM bD I ja o ms ax cc hk;obtain⟨bz,bB,rfl,_⟩:=ax.shape;have an:=Bn ax;unfold dZ at an;have hQ:t.head∈cq t:=by rw[←T.eta t,ji];exact List.mem_cons_self ..
 refine a1 func274 ntmps274 fun aG=> ?_;refine go2 ?_;refine bw fun b5=> ?_;refine bg ?_;by_cases hT:t.head<0;refine bg ?_;refine aI (gG (c:= -1-t.head) rfl rfl rfl ah) ?_;refine bg ?_;by_cases qH:-1-t.head=v;refine bW ?_;exact b0 rfl rfl (⟨by rw[QS hT,qH,aaX qb sU];simp[dF],o,ms,hk,fun _ h=>h,rfl⟩) (hw:=(View.drop aO.here));refine cT ?_;by_cases k9:(cd bs (-1-t.head)).isSome=true;obtain⟨z,a2⟩:=Option.isSome_iff_exists.1 k9;obtain⟨aaT,mu,se⟩:=(cc (-1-t.head)).2 z a2;obtain⟨gZ,kK,rfl,_⟩:=se.shape;obtain⟨eI,yc,QV⟩:∃m,m<n∧iH bs m z:=by cases n with|zero=>(rw[aM _ hQ hT]at a2;cases a2)|succ m=>exact⟨m,Nat.lt_succ_self m,aM _ hQ hT z a2⟩
 refine aI (jr (v:=.agg #[.int .i64 z.head,.slice gZ z.args.length kK]) (g:=true) underlying199 underlying3 z41 rfl rfl cW (by rw[mu];rfl) (by rw[mu];rfl)) ?_;refine aR ?_;refine bh fun b8=> ?_;refine b_ ?_;refine aK.view (View.perm (List.perm_middle (l₁:= [_,_]))) ?_;refine cZ ?_;refine eo rfl (aqe (δf:=.box b8 41 [.int .i64 z.head,.slice gZ z.args.length kK]:: .box b5 41 [.int .i64 t.head,.slice bz t.args.length bB]::He vw jy qk rU v sb mb xs) hk (fun J gn h9 cj oV=>cR.fq (args:= []) (caps:= [_,_]) ajk (aqi (R':=fun v _ δ'=>∃q fk,v=.bool q∧Hf bs N _ (-1-t.head) q∧jm Value.bool (Hf bs N _) fk∧δ'=mY qk 378 (some gn) fk (.box b8 41 [.int .i64 z.head,.slice gZ z.args.length kK]:: .box b5 41 [.int .i64 t.head,.slice bz t.args.length bB]::He vw jy qk rU _ sb mb xs)) NN cW cW (QT eI yc z.size z QV (Nat.le_refl _) J _ (some gn) h9 (se.mono cj) (cc.mono cj) oV) js (fun v ai dx ⟨ab,gx,gm,ae,aF,e⟩=>by have bb:=aF gn rfl;subst bb;subst e;exact⟨_,hS,_,gm,ab,(aqf dM ah a2).symm,ae,rfl⟩)))) (df.all) ?_;rintro v32 rr _ ss ⟨q,gn,gm,rfl,aC,hk2,qN,rfl⟩;refine aZ ?_;exact b0 rfl rfl (⟨by rw[QS hT,aC];rfl,some gn,gm,hk2,fun k h=>by rw[qN k h],rfl⟩) (hw:=((View.drop (aO.there aO.here)).trans (View.drop (aO.there aO.here))));have a2:cd bs (-1-t.head)=none:=by simpa using k9
 have mu:=(cc (-1-t.head)).1 a2;refine aI (jr (v:=.agg #[.int .i64 0,.slice none 0 0]) (g:=false) underlying199 underlying3 z41 rfl rfl cW (by rw[mu];rfl) (by rw[mu];rfl)) ?_;refine aR ?_;refine bh fun b8=> ?_;refine b_ ?_;refine aK.view (View.perm (List.perm_middle (l₁:= [_,_]))) ?_;refine aP ?_;exact b0 rfl rfl (⟨by rw[QS hT,aaX ah a2,decide_eq_false qH];rfl,o,ms,hk,fun _ h=>h,rfl⟩) (hw:=((View.drop (aO.there aO.here)).trans (View.drop (aO.there aO.here))));refine bg ?_;obtain⟨_,Hh,aqn⟩:=ax.Hg;cases Hh;refine aR ?_;refine eo rfl (aqa (p:=hasB bs N v) (fun δ'=>∃o' fk,jm Value.bool (Hf bs N v) fk∧(∀k,o=some k→o'=some k)∧δ'=mY qk 378 o' fk (He vw jy qk rU v sb mb xs)) aqn ⟨o,ms,hk,fun _ h=>h,rfl⟩ (fun J u x dx cj ⟨ij,h9,oV,ns,e⟩ hu af=>by subst e;exact cR.fq (args:= [u]) (caps:= [_,_,_,_]) NN ((QU _ (aaZ bD af) x (aM.sub (aaY af)) (Nat.le_refl _) J u ij h9 hu (cc.mono cj) oV).mono fun q ai δ' _ ⟨ab,gx,gm,ae,aF,bb⟩=>⟨ab,gx,gm,ae,fun k hk=>aF k (ns k hk),bb⟩))) (List.perm_append_comm (l₁:= [_])) ?_;rintro Bk Bl _ Bm ⟨rfl,gx,gm,hk2,pf,rfl⟩;refine a8 ?_;exact b0 rfl rfl (⟨by rw[aqg ah qb];rfl,gx,gm,hk2,pf,rfl⟩) (hw:=(View.sub (List.sublist_append_left _ _)))
theorem aqo{I:aa}{sb mb:Nat}{xs:bU}{bs:List bx}{N:Nat}{v:Int}{t:T}{ja:Value}(dM:hN bs N)(qb:0≤v)(sU:cd bs v=none)(ax:ba I ja t)(cc:g6 I xs bs):
 aS Tryz.prog 261 [.pointer (some ⟨sb,0,none⟩),ja,.int .i64 v] I (kk sb mb xs) (fun q _ δ'=>q=.bool (hasB bs N v t)∧δ'=kk sb mb xs):=by
 obtain⟨bz,bB,rfl,_⟩:=ax.shape;refine a1 func261 ntmps261 fun aG=> ?_;refine go2 ?_;refine bw fun b3=> ?_;refine bw fun b4=> ?_;refine bw fun b5=> ?_;refine a_ ?_;refine bh fun dp=> ?_;refine a8 ?_;refine bh fun b8=> ?_;refine bW ?_;refine e8 rfl rfl rfl ((cR.fq (args:= [_]) (caps:= [_,_,_,_]) NN (aqm (sb:=sb) (mb:=mb) dM qb sU N t.size t (dM.term t) (Nat.le_refl _) _ _ none [] ax cc jm.nil))) js ?_;rintro wC nN _ mf ⟨rfl,o',fk,_,_,rfl⟩;refine a8 ?_;exact b0 rfl rfl (⟨rfl,rfl⟩)
def aqp(bs:List bx)(v:Int)(t:T)(q:Bool):List bx:=if q=true then(v,t)::bs else bs
theorem aqq{I:aa}{sb mb:Nat}{xs:bU}{bs:List bx}{N:Nat}{v:Int}{t:T}{ja:Value}(dM:hN bs N)(qb:0≤v)(sU:cd bs v=none)(ax:ba I ja t)(cc:g6 I xs bs):
 aS Tryz.prog 247 [.pointer (some ⟨sb,0,none⟩),.int .i64 v,ja] I (kk sb mb xs) (fun q ai δ'=>∃xs',q=.bool (!hasB bs N v t)∧g6 ai xs' (aqp bs v t (!hasB bs N v t))∧δ'=kk sb mb xs'):=by
 obtain⟨bz,bB,rfl,_⟩:=ax.shape;refine a1 func247 ntmps247 fun aG=> ?_;refine go2 ?_;refine bw fun b5=> ?_;refine br ?_;refine a6 rfl (aqo (mb:=mb) dM qb sU ax cc) ?_;rintro v10 j4 _ kB ⟨rfl,rfl⟩;refine go2 ?_;refine bF rfl (fun aV=> ?_) (fun aV=> ?_);refine aP ?_;exact b0 rfl rfl (⟨xs,by rw[aV];rfl,by rw[aV];exact cc.mono kB,rfl⟩);refine aR ?_;refine g5 [0,2,4,6,8,10,13] ?_;refine aP ?_;refine sg underlying199 underlying3 rfl rfl rfl rfl (by repeat (first|exact bc.here|apply bc.there)) ?_;refine aX ?_;refine fU ?_;refine bg ?_;exact b0 rfl rfl (⟨_,by rw[aV];rfl,by rw[aV];exact(cc.mono kB).put (ax.mono kB),rfl⟩)
end
mutual
def il:T→List T
  |.mk h us=>.mk h us::w5 us
def w5:List T→List T
  | []=> []
  |t::r=>il t++w5 r
end
mutual
theorem QW:∀t:T,(il t).length=t.size
  |.mk h us=>by simp only[il,List.length_cons,T.size,aa0 us];omega
theorem aa0:∀us:List T,(w5 us).length=bG us
  | []=>rfl
  |t::r=>by simp only[w5,List.length_append,bG,QW t,aa0 r]
end
theorem QX(t:T):t∈il t:=by cases t;simp[il]
theorem aa1{x y:T}:∀{us:List T},x∈us→y∈il x→y∈w5 us
  |t::r,h,k=>by
   rw[w5,List.mem_append];rcases List.mem_cons.1 h with rfl|h
   exact .inl k;exact .inr (aa1 h k)
mutual
theorem QY:∀(t:T) {x y:T},x∈il t→y∈x.args→y∈il t
  |.mk h us,x,y,af,aw=>by
   rw[il]at af⊢;rcases List.mem_cons.1 af with rfl|af
   exact List.mem_cons_of_mem _ (aa1 aw (QX y));exact List.mem_cons_of_mem _ (aa2 us af aw)
theorem aa2:∀(us:List T) {x y:T},x∈w5 us→y∈x.args→y∈w5 us
  | [],x,y,af,_=>by simp[w5]at af
  |t::r,x,y,af,aw=>by
   rw[w5,List.mem_append]at*;rcases af with af|af
   exact .inl (QY t af aw);exact .inr (aa2 r af aw)
end
abbrev hp(γ:Int→G)(t:T):Nat:=fe (fun _=>1) (inst γ t)
def QZ(bs:List bx)(c d:T):Prop:=∀γ,oN γ bs→hp γ c<hp γ d
inductive uq(bs:List bx):List (T×T)→List T→Prop
  |nil {st:List (T×T)}:st.length≤1→uq bs st []
  |cons {st g:List (T×T)} {c:T} {cs:List T}:uq bs st cs→g.length≤8→(∀r∈g,QZ bs r.1 c)→uq bs (st++g) (c::cs)
section
variable {bs jk:List bx} {st:List (T×T)} {cs:List T}
theorem uq.len(h:uq bs st cs):st.length≤1+8*cs.length:=by
 induction h with
 |nil h=>simp;exact h
 |cons _ ab _ aY=>simp only[List.length_append,List.length_cons];omega
theorem uq.mono(h:uq bs st cs)(ao:∀γ,oN γ jk→oN γ bs):uq jk st cs:=by
 induction h with
 |nil h=>exact .nil h
 |cons _ ab ae aY=>exact .cons aY ab fun r an γ bl=>ae r an γ (ao γ bl)
theorem uq.pop{r:T×T}:∀{Lr:List (T×T)} {cs:List T},uq bs Lr cs→∀{st:List (T×T)},Lr=st++ [r]→∃ds,uq bs st ds∧ds.Sublist cs∧∀c∈ds.head?,QZ bs r.1 c:=by
 intro Lr cs h
 induction h with
 |nil h=>intro st e;subst e;simp only[List.length_append,List.length_cons,List.length_nil]at h;exact⟨[],.nil ah,List.Sublist.refl _,fun c aq=>by simp at aq⟩
 | @cons Lr g c cs ab ae aF aY=>
  intro st e;rcases List.eq_nil_or_concat g with rfl|⟨g',x,rfl⟩
  rw[List.append_nil]at e;obtain⟨ds,c8,b6,hs⟩:=aY e;exact⟨ds,c8,b6.trans (List.sublist_cons_self ..),hs⟩;rw[List.concat_eq_append]at*;rw[←List.append_assoc]at e;obtain⟨aQ,aT⟩:=List.append_inj' e rfl;cases aT;subst aQ;simp only[List.length_append,List.length_cons,List.length_nil]at ae;refine⟨c::cs,.cons ab ah fun r an=>aF r (List.mem_append_left _ an),List.Sublist.refl _,fun d aH=> ?_⟩;simp at aH;subst aH;exact aF _ (List.mem_append_right _ (by simp))
end
structure nX(a b:T)(bs:List bx)(st:List (T×T)):Prop where
  gT:∀v u,cd bs v=some u→u∈il a++il b
  mem:∀r∈st,r.1∈il a++il b∧r.2∈il a++il b
  h3:∃cs,uq bs st cs∧cs.Pairwise (QZ bs)∧∀c∈cs,c∈il a++il b
section
variable {a b p q x y:T} {bs:List bx} {st:List (T×T)}
theorem aa3{x y:T}(h:x∈il a++il b)(aw:y∈x.args):y∈il a++il b:=by
 rw[List.mem_append]at*;exact h.imp (fun h=>QY a h aw) (fun h=>QY b h aw)
theorem nX.len(h:nX a b bs st){N:Nat}(dM:hN bs N)(az:∀v u,cd bs v=some u→0≤v)(bk:a.size≤400)(al:b.size≤400):st.length≤7000:=by
 obtain⟨cs,ab,ae,aF⟩:=h.h3;have ao:=YZ dM az (fun _=>.mk 0 []);have aD:cs.Nodup:=ae.imp fun{c d} Q0 e=>by subst e;have:=Q0 _ ao;omega
 have:=List.Nodup.length_le_of_subset aD fun c aq=>aF c aq;have:=ab.len;rw[List.length_append,QW,QW]at*;omega
theorem nX.start:nX a b [] [(a,b)] where
  gT:=fun v u e=>by simp[cd]at e
  mem:=fun r an=>by simp only[List.mem_cons,List.not_mem_nil,or_false]at an;subst an;exact⟨List.mem_append_left _ (QX a),List.mem_append_right _ (QX b)⟩
  h3:=⟨[],.nil (by simp),List.Pairwise.nil,fun c aq=>by simp at aq⟩
theorem nX.at_(h:nX a b bs st){t v:T}(ar:t∈il a++il b)(ax:At bs t v):v∈il a++il b:=ax.prop (P:=fun t=>t∈il a++il b) ar h.gT
theorem nX.same(h:nX a b bs (st++ [(p,q)])):nX a b bs st where
  gT:=h.gT
  mem:=fun r an=>h.mem r (List.mem_append_left _ an)
  h3:=by obtain⟨cs,ab,ae,aF⟩:=h.h3;obtain⟨ds,c8,b6,_⟩:=ab.pop rfl;exact⟨ds,c8,ae.sublist b6,fun c aq=>aF c (b6.subset aq)⟩
theorem nX.bind(h:nX a b bs (st++ [(p,q)])){v:Int}{t:T}(ax:cd bs v=none)(ar:t∈il a++il b):nX a b ((v,t)::bs) st:=by
 have ao:∀γ,oN γ ((v,t)::bs)→oN γ bs:=fun γ bl w u e=>bl w u (by rw[oO,if_neg (fun q=>by subst q;rw[ax]at e;cases e)];exact e);obtain⟨cs,ab,ae,aF⟩:=h.same.h3;refine⟨fun w u e=> ?_,h.same.mem,cs,ab.mono ao,ae.imp fun Q0 γ bl=>Q0 γ (ao γ bl),aF⟩;rw[oO]at e;split at e;cases e;exact ar;exact h.gT w u e
theorem aqr{γ:Int→G}{x y:T}(aB:0≤x.head)(aw:y∈x.args):hp γ y<hp γ x:=by
 show fe _ _<fe _ _;rw[tV aB,vh];exact Jo (fun _=>Nat.le_refl _) (List.mem_map_of_mem aw)
theorem nX.args(h:nX a b bs (st++ [(p,q)]))(af:At bs p x)(aw:At bs q y)(aB:0≤x.head)(aA:x.args.length≤8):nX a b bs (st++(x.args.zip y.args).reverse) where
  gT:=h.gT
  mem:=fun r an=>by
   rcases List.mem_append.1 an with an|an
   exact h.mem r (List.mem_append_left _ an);have a2:=List.of_mem_zip (List.mem_reverse.1 an);obtain⟨mE,n_⟩:=h.mem (p,q) (List.mem_append_right _ (by simp));exact⟨aa3 (h.at_ mE af) a2.1,aa3 (h.at_ n_ aw) a2.2⟩
  h3:=by
   obtain⟨cs,ab,ae,aF⟩:=h.h3;obtain⟨ds,c8,b6,hs⟩:=ab.pop rfl;obtain⟨mE,_⟩:=h.mem (p,q) (List.mem_append_right _ (by simp));have aH:=ae.sublist b6;refine⟨x::ds,.cons c8 (by rw[List.length_reverse,List.length_zip];omega) fun r an γ _=>aqr aB (List.of_mem_zip (List.mem_reverse.1 an)).1,List.pairwise_cons.2 ⟨fun d n3 γ bl=> ?_,aH⟩,fun c aq=> ?_⟩;have e:hp γ x=hp γ p:=congrArg (fe fun _=>1) (af.inst bl);rw[e]
   cases ds with
   |nil=>simp at n3
   |cons c ds=>
     have aq:hp γ p<hp γ c:=hs c (by simp) γ bl
     rcases List.mem_cons.1 n3 with rfl|n3
     · exact aq
     · have:=(List.pairwise_cons.1 aH).1 d n3 γ bl
       exact Nat.lt_trans aq this
   rcases List.mem_cons.1 aq with rfl|aq
   exact h.at_ mE af;exact aF c (b6.subset aq)
end
section
attribute [local irreducible] aK bf bJ
abbrev aqs(x:T×T)(la:Option Addr)(lc:Nat)(ra:Option Addr)(rc:Nat):List Value:= [.int .i64 x.1.head,.slice la x.1.args.length lc,.int .i64 x.2.head,.slice ra x.2.args.length rc]
def Ls:kH 4 (T×T) where
  R:=fun I x vs=>∃(la:Option Addr) (lc:Nat) (ra:Option Addr) (rc:Nat),vs=aqs x la lc ra rc∧ba I (.agg #[.int .i64 x.1.head,.slice la x.1.args.length lc]) x.1∧ba I (.agg #[.int .i64 x.2.head,.slice ra x.2.args.length rc]) x.2
  len:=by rintro I a vs ⟨_,_,_,_,rfl,_,_⟩;rfl
  one:=by rintro I a vs ⟨_,_,_,_,rfl,_,_⟩ u hu;simp only[List.mem_cons,List.not_mem_nil,or_false]at hu;rcases hu with rfl|rfl|rfl|rfl<;>rfl
  mono:=by rintro I J a vs aA ⟨la,lc,ra,rc,rfl,ab,ae⟩;exact⟨la,lc,ra,rc,rfl,ab.mono aA,ae.mono aA⟩
abbrev DX(A:Option Addr)(c n:Nat)(xs:List Value):ay:=.row (.slice A n c) 342 4 n xs
theorem aqt{a b:List T}(aA:a.length=b.length)(k:Nat)(hk:k<a.length)(hk2:k<b.length):((a.zip b).drop k).reverse=((a.zip b).drop (k+1)).reverse++ [(a[k],b[k])]:=by
 have h:k<(a.zip b).length:=by rw[List.length_zip];omega
 rw[List.drop_eq_getElem_cons h,List.reverse_cons,List.getElem_zip]
theorem aa4{I:aa}{fP pW:Nat}{A:Option Addr}{bz cN:Value}{a b:List T}{st:List (T×T)}{xs:List Value}(aA:a.length=b.length)(bk:ed I bz a)(al:ed I cN b)(ao:st.length≤8000)(zh:a.length≤8)(an:bd Ls I xs st):
 aS Tryz.prog 245 [bz,cN,.pointer (some ⟨fP,0,none⟩)] I [.box fP 340 [.slice A st.length pW],DX A pW st.length xs] (fun v ai δ'=>∃c7 BP xs' ew,v=.tuple #[]∧ew=st++(a.zip b).reverse∧bd Ls ai xs' ew∧δ'= [.box fP 340 [.slice c7 ew.length BP],DX c7 BP ew.length xs']):=by
 obtain⟨rE,ac,iS,a,aqu,nk,va,F_,sF⟩:=bk;obtain⟨dU,ke,sb,b,CN,F6,wJ,tK,kb⟩:=al;have aqv:∀i (h:i<a.length),ba I (.agg #[.int .i64 a[i].head,.slice (iS i).1 a[i].args.length (iS i).2]) a[i]:=fun i aj=>ba.mk _ _ (F_ i aj) (sF i aj);have aqw:∀i (h:i<b.length),ba I (.agg #[.int .i64 b[i].head,.slice (sb i).1 b[i].args.length (sb i).2]) b[i]:=fun i aj=>ba.mk _ _ (tK i aj) (kb i aj);refine a1 func245 ntmps245 fun aG=> ?_;refine a8 ?_;refine aI (gG rfl rfl rfl ah) ?_;refine a8 ?_;refine fD (fun m aL ai δ'=>∃(k:Nat) (c7:Option Addr) (BP:Nat) (xs':List Value) (ew:List (T×T)),m=k∧aL= [(0,.slice rE a.length ac),(1,.slice dU b.length ke),(2,.pointer (some ⟨fP,0,none⟩)),(5,.int .i64 ((k:Int)-1))]∧I.le ai∧δ'= [.box fP 340 [.slice c7 ew.length BP],DX c7 BP ew.length xs']∧k≤a.length∧ew=st++((a.zip b).drop k).reverse∧bd Ls ai xs' ew) ⟨a.length,A,pW,xs,st,rfl,rfl,aa.ag,rfl,Nat.le_refl _,by rw[List.drop_eq_nil_of_le (by rw[List.length_zip];omega)];simp,an⟩ ⟨rfl,rfl,rfl,rfl,trivial⟩ ?_;rintro m _ e6 _ ⟨k,c7,BP,xs',ew,rfl,rfl,fz,rfl,hk,ch,bm⟩;refine a8 ?_;by_cases xF:0<m;obtain⟨j,rfl⟩:∃j,m=j+1:=⟨m-1,by omega⟩
 rw[show((j+1:Nat):Int)-1=(j:Nat)by omega];have oH:j<b.length:=by omega
 have db:=(va j hk).isSome;have gr:=(wJ j oH).isSome;have oz:ew.length≤8010:=by rw[ch,List.length_append,List.length_reverse,List.length_drop,List.length_zip];omega
 refine bg ?_;refine eU [0,2,4,6,8,10,12,14,16,18,21,23,25] (fun _=> [.box fP 340 [.slice c7 ew.length BP]]) (fun _=>fQ) ?_;refine a8 ?_;refine dg rfl (cC ((va j hk).mono aa.ag)) ?_;refine aR ?_;refine dg rfl (cC ((wJ j oH).mono aa.ag)) ?_;refine go2 ?_;refine c_ fun Q1=> ?_;refine aR ?_;refine gl fun Bo wK=> ?_;refine a_ ?_;refine fU ?_;refine a_ ?_;refine aI (gG rfl rfl rfl ah) ?_;refine go2 ?_;rw[show ew.length+1=(ew++ [(a[j],b[j])]).length by simp];refine ec ⟨j,_,_,_,ew++ [(a[j],b[j])],rfl,rfl,aa.ag,rfl,by omega,by rw[ch,aqt aA j hk oH,List.append_assoc],bm.app (bd.single ⟨_,_,_,_,rfl,(aqv j hk).mono aa.ag,(aqw j oH).mono aa.ag⟩)⟩ ⟨rfl,rfl,rfl,rfl,trivial⟩;have hm:m=0:=by omega
 subst hm;refine bg ?_;exact lA rfl (⟨_,_,_,_,rfl,by rw[ch];rfl,bm,rfl⟩)
theorem aqx{t:T}(h:c2 t=0):t.args.length≤8:=by
 have:=sS h
 cases t with
 |mk k us=>rw[KI]at this;rw[Bool.or_eq_false_iff]at this;have ae:=this.1;unfold d_ at ae;rw[Bool.or_eq_false_iff,decide_eq_false_iff_not]at ae;exact Nat.not_lt.1 ae.2
theorem aqy{bs:List bx}{N M:Nat}(dM:hN bs N)(cc:hN bs M)(t:T):bI (ea bs N) t=bI (ea bs M) t:=by
 rcases Nat.le_total N M with h|h
 exact(PX (dM.term t) h).symm;exact PX (cc.term t) h
theorem aqz{I:aa}{sb mb:Nat}{bz cN:Value}{a b:T}(bk:ed I bz [a])(al:ed I cN [b])(bH:c2 a=0)(ga:c2 b=0):
 aS Tryz.prog 229 [.pointer (some ⟨sb,0,none⟩),bz,cN] I (kk sb mb []) (fun v ai δ'=>∃q xs,v=.bool q∧δ'=kk sb mb xs∧(q=false→∀γ:Int→G,inst γ a≠inst γ b)∧(q=true→∃bs N,g6 ai xs bs∧h8 [a] [b] bs []∧hN bs N)):=by
 have gZ:=gV bH;have sW:=gV ga;have aqA:(1:Nat)≤8:=by omega
 obtain⟨rE,ac,rfl⟩:=bk.shape;obtain⟨dU,ke,rfl⟩:=al.shape;refine a1 func229 ntmps229 fun aG=> ?_;refine aP ?_;refine bh fun dp=> ?_;refine cT ?_;refine aK.view (View.gh 342 4) ?_;refine e8 rfl rfl rfl ((cR.fq (args:= [_,_]) (caps:= [_]) U5 (aa4 (a:= [a]) (b:= [b]) (st:= []) rfl bk al (Nat.zero_le _) aqA bd.nil))) js ?_;rintro mO jK _ jf ⟨aqB,bu,aqC,_,rfl,rfl,ib,rfl⟩;refine a8 ?_;refine Uz (ap4) (fun m aL ai δ'=>∃(bs:List bx) (N:Nat) (st:List (T×T)) (xs:bU) (A:Option Addr) (pW:Nat) (rs:List Value),m=(uo bs 256,nW bs N st)∧aL= [(0,.pointer (some ⟨sb,0,none⟩)),(7,.pointer (some ⟨dp,0,none⟩)),(8,.func (.func 245) #[] #[.pointer (some ⟨dp,0,none⟩)])]∧jK.le ai∧δ'=.box dp 340 [.slice A st.length pW]::DX A pW st.length rs::kk sb mb xs∧bd Ls ai rs st∧g6 ai xs bs∧h8 [a] [b] bs st∧hN bs N∧nX a b bs st) ⟨[],0,[(a,b)],[],aqB,bu,aqC,rfl,rfl,aa.ag,rfl,ib,g6.nil _,h8.start (a:= [a]) (b:= [b]) rfl (by simpa using bH) (by simpa using ga),hN.nil,nX.start⟩ ⟨rfl,rfl,rfl,trivial⟩ ?_;rintro m _ e6 _ ⟨bs,N,st,xs,A,pW,rs,rfl,rfl,fz,rfl,bm,cc,cM,dM,eZ⟩;refine a_ ?_;rcases List.eq_nil_or_concat st with rfl|⟨ew,⟨p,q⟩,rfl⟩
 refine gk ?_;exact b0 rfl rfl (⟨true,xs,rfl,rfl,fun h=>(by cases h),fun _=>⟨bs,N,cc,cM,dM⟩⟩);rw[List.concat_eq_append]at*;have hlen:(ew++ [(p,q)]).length=ew.length+1:=by simp
 have aqD:=eZ.len dM (fun v u e=>(cM.gT v u e).1) gZ sW;rw[hlen]at aqD⊢;refine br ?_;obtain⟨vs,⟨dh,fO,g7,kh,rfl,az,aC⟩,_,Q2,jP⟩:=bm.at (i:=ew.length) (by simp);rw[show(ew++ [(p,q)])[ew.length]'(by simp)=(p,q)by simp]at az aC jP;dsimp only at az aC jP;have k5:=bm.take ew.length (by simp);rw[List.take_left]at k5;obtain⟨mp,e4⟩:=eZ.mem (p,q) (List.mem_append_right _ (by simp));refine aK.gK cW ah (fun bo eR=> ?_);refine aR ?_;refine aI (gG (c:=(ew.length:Nat)) rfl rfl ah ah) ?_;refine aX ?_;refine aI (gH UR rfl cW bo (by rw[jP];rfl)) ?_;refine bh fun hH=> ?_;refine bg ?_;refine aI (gG (c:=(ew.length:Nat)) rfl rfl ah ah) ?_;refine aI (m7 underlying340 US rfl rfl ah) ?_;refine aK.view (View.short _ (by repeat (first|exact bc.here|apply bc.there)) (Nat.le_succ _)) ?_;refine aR ?_;refine mG (fun aL ai δ'=>∃(x y:T) (fW e3:Option Addr) (eK ff dk cG:Nat),aL= [(0,.pointer (some ⟨sb,0,none⟩)),(7,.pointer (some ⟨dp,0,none⟩)),(8,.func (.func 245) #[] #[.pointer (some ⟨dp,0,none⟩)]),(10,.pointer (some ⟨dk,0,none⟩)),(11,.pointer (some ⟨cG,0,none⟩))]∧e6.le ai∧δ'=.box dk 41 [.int .i64 x.head,.slice fW x.args.length eK]:: .box cG 41 [.int .i64 y.head,.slice e3 y.args.length ff]:: .box dp 340 [.slice A ew.length pW]::DX A pW ew.length (rs.take (ew.length*4))::kk sb mb xs∧At bs p x∧At bs q y∧ba ai (.agg #[.int .i64 x.head,.slice fW x.args.length eK]) x∧ba ai (.agg #[.int .i64 y.head,.slice e3 y.args.length ff]) y) ?_ ?_;refine tk (.ct 0 (.ct 1 (.ct 2 (.ct 4 (.ct 5 (.ct 6 (.three 3 8 9 (.three 7 8 9 (.two 8 9 (.cA 9 (.cA 10 (.cA 11 .done))) (.cA 8 (.cA 10 (.cA 11 .done)))) (.two 7 9 (.cA 9 (.cA 10 (.cA 11 .done))) (.cA 7 (.cA 10 (.cA 11 .done)))) (.two 7 8 (.cA 8 (.cA 10 (.cA 11 .done))) (.cA 7 (.cA 10 (.cA 11 .done))))) (.two 3 9 (.two 7 9 (.cA 9 (.cA 10 (.cA 11 .done))) (.cA 7 (.cA 10 (.cA 11 .done)))) (.cA 3 (.cA 7 (.cA 10 (.cA 11 .done))))) (.two 3 8 (.two 7 8 (.cA 8 (.cA 10 (.cA 11 .done))) (.cA 7 (.cA 10 (.cA 11 .done)))) (.cA 3 (.cA 7 (.cA 10 (.cA 11 .done)))))))))))) (fun _=>_) mixed (by kernel_rfl) (by kernel_rfl) (fun _=>fQ) ?_;refine aZ ?_;refine TZ rfl (by intro cs b aq;cases aq) (by intro c aq;cases aq) rfl (by intro cs b aq;cases aq) (by intro c aq;cases aq) rfl (by intro cs b aq;cases aq) (by intro c aq;cases aq) ?_ ?_ ?_;refine a6 rfl (oU (sb:=sb) (mb:=mb) (cc.mono aa.ag) (az.mono aa.ag) (dM.term p)) ?_;rintro yZ qt _ py ⟨x,af,e9,rfl⟩;obtain⟨fW,eK,rfl,_⟩:=e9.shape;refine go2 ?_;refine TZ rfl (by intro cs b aq;cases aq) (by intro c aq;cases aq) rfl (by intro cs b aq;cases aq) (by intro c aq;cases aq) rfl (by intro cs b aq;cases aq) (by intro c aq;cases aq) ?_ ?_ ?_;refine a6 rfl (oU (sb:=sb) (mb:=mb) (cc.mono aa.ag) (aC.mono aa.ag) (dM.term q)) ?_;rintro qU oK _ nq ⟨y,aw,dJ,rfl⟩;obtain⟨e3,ff,rfl,_⟩:=dJ.shape;refine go2 ?_;refine na ?_ ?_;refine bh fun dk=> ?_;refine aR ?_;refine bh fun cG=> ?_;refine br ?_;refine fU ?_;refine aX ?_;refine fS ⟨x,y,fW,e3,eK,ff,dk,cG,rfl,aa.ag,rfl,af,aw,e9.mono aa.ag,dJ.mono aa.ag⟩ ⟨rfl,rfl,rfl,rfl,rfl,trivial⟩;refine bh fun cG=> ?_;refine aR ?_;refine bh fun dk=> ?_;refine br ?_;refine fU ?_;refine aX ?_;refine fS ⟨x,y,fW,e3,eK,ff,dk,cG,rfl,aa.ag,rfl,af,aw,e9.mono aa.ag,dJ.mono aa.ag⟩ ⟨rfl,rfl,rfl,rfl,rfl,trivial⟩;refine bh fun dk=> ?_;refine go2 ?_;refine na ?_ ?_;refine a6 rfl (oU (sb:=sb) (mb:=mb) (cc.mono aa.ag) (aC.mono aa.ag) (dM.term q)) ?_;rintro qU oK _ nq ⟨y,aw,dJ,rfl⟩;obtain⟨e3,ff,rfl,_⟩:=dJ.shape;refine aR ?_;refine bh fun cG=> ?_;refine br ?_;refine fU ?_;refine aX ?_;refine fS ⟨x,y,fW,e3,eK,ff,dk,cG,rfl,aa.ag,rfl,af,aw,e9.mono aa.ag,dJ.mono aa.ag⟩ ⟨rfl,rfl,rfl,rfl,rfl,trivial⟩;refine bh fun cG=> ?_;refine aR ?_;refine a6 rfl (oU (sb:=sb) (mb:=mb) (cc.mono aa.ag) (aC.mono aa.ag) (dM.term q)) ?_;rintro qU oK _ nq ⟨y,aw,dJ,rfl⟩;obtain⟨e3,ff,rfl,_⟩:=dJ.shape;refine br ?_;refine fU ?_;refine aX ?_;refine fS ⟨x,y,fW,e3,eK,ff,dk,cG,rfl,aa.ag,rfl,af,aw,e9.mono aa.ag,dJ.mono aa.ag⟩ ⟨rfl,rfl,rfl,rfl,rfl,trivial⟩;refine bh fun cG=> ?_;refine go2 ?_;refine na ?_ ?_;refine a6 rfl (oU (sb:=sb) (mb:=mb) (cc.mono aa.ag) (aC.mono aa.ag) (dM.term q)) ?_;rintro qU oK _ nq ⟨y,aw,dJ,rfl⟩;obtain⟨e3,ff,rfl,_⟩:=dJ.shape;refine aR ?_;refine bh fun dk=> ?_;refine br ?_;refine fU ?_;refine aX ?_;refine fS ⟨x,y,fW,e3,eK,ff,dk,cG,rfl,aa.ag,rfl,af,aw,e9.mono aa.ag,dJ.mono aa.ag⟩ ⟨rfl,rfl,rfl,rfl,rfl,trivial⟩;refine bh fun dk=> ?_;refine aR ?_;refine a6 rfl (oU (sb:=sb) (mb:=mb) (cc.mono aa.ag) (aC.mono aa.ag) (dM.term q)) ?_;rintro qU oK _ nq ⟨y,aw,dJ,rfl⟩;obtain⟨e3,ff,rfl,_⟩:=dJ.shape;refine br ?_;refine fU ?_;refine aX ?_;refine fS ⟨x,y,fW,e3,eK,ff,dk,cG,rfl,aa.ag,rfl,af,aw,e9.mono aa.ag,dJ.mono aa.ag⟩ ⟨rfl,rfl,rfl,rfl,rfl,trivial⟩;refine bh fun dk=> ?_;refine go2 ?_;refine na ?_ ?_;refine a6 rfl (oU (sb:=sb) (mb:=mb) (cc.mono aa.ag) (az.mono aa.ag) (dM.term p)) ?_;rintro yZ qt _ py ⟨x,af,e9,rfl⟩;obtain⟨fW,eK,rfl,_⟩:=e9.shape;refine go2 ?_;refine na ?_ ?_;refine a6 rfl (oU (sb:=sb) (mb:=mb) (cc.mono aa.ag) (aC.mono aa.ag) (dM.term q)) ?_;rintro qU oK _ nq ⟨y,aw,dJ,rfl⟩;obtain⟨e3,ff,rfl,_⟩:=dJ.shape;refine aR ?_;refine bh fun cG=> ?_;refine br ?_;refine fU ?_;refine aX ?_;refine fS ⟨x,y,fW,e3,eK,ff,dk,cG,rfl,aa.ag,rfl,af,aw,e9.mono aa.ag,dJ.mono aa.ag⟩ ⟨rfl,rfl,rfl,rfl,rfl,trivial⟩;refine bh fun cG=> ?_;refine aR ?_;refine a6 rfl (oU (sb:=sb) (mb:=mb) (cc.mono aa.ag) (aC.mono aa.ag) (dM.term q)) ?_;rintro qU oK _ nq ⟨y,aw,dJ,rfl⟩;obtain⟨e3,ff,rfl,_⟩:=dJ.shape;refine br ?_;refine fU ?_;refine aX ?_;refine fS ⟨x,y,fW,e3,eK,ff,dk,cG,rfl,aa.ag,rfl,af,aw,e9.mono aa.ag,dJ.mono aa.ag⟩ ⟨rfl,rfl,rfl,rfl,rfl,trivial⟩;refine bh fun cG=> ?_;refine aR ?_;refine a6 rfl (oU (sb:=sb) (mb:=mb) (cc.mono aa.ag) (az.mono aa.ag) (dM.term p)) ?_;rintro yZ qt _ py ⟨x,af,e9,rfl⟩;obtain⟨fW,eK,rfl,_⟩:=e9.shape;refine aR ?_;refine a6 rfl (oU (sb:=sb) (mb:=mb) (cc.mono aa.ag) (aC.mono aa.ag) (dM.term q)) ?_;rintro qU oK _ nq ⟨y,aw,dJ,rfl⟩;obtain⟨e3,ff,rfl,_⟩:=dJ.shape;refine br ?_;refine fU ?_;refine aX ?_;refine fS ⟨x,y,fW,e3,eK,ff,dk,cG,rfl,aa.ag,rfl,af,aw,e9.mono aa.ag,dJ.mono aa.ag⟩ ⟨rfl,rfl,rfl,rfl,rfl,trivial⟩;refine bh fun cG=> ?_;refine go2 ?_;refine na ?_ ?_;refine a6 rfl (oU (sb:=sb) (mb:=mb) (cc.mono aa.ag) (az.mono aa.ag) (dM.term p)) ?_;rintro yZ qt _ py ⟨x,af,e9,rfl⟩;obtain⟨fW,eK,rfl,_⟩:=e9.shape;refine go2 ?_;refine na ?_ ?_;refine a6 rfl (oU (sb:=sb) (mb:=mb) (cc.mono aa.ag) (aC.mono aa.ag) (dM.term q)) ?_;rintro qU oK _ nq ⟨y,aw,dJ,rfl⟩;obtain⟨e3,ff,rfl,_⟩:=dJ.shape;refine aR ?_;refine bh fun dk=> ?_;refine br ?_;refine fU ?_;refine aX ?_;refine fS ⟨x,y,fW,e3,eK,ff,dk,cG,rfl,aa.ag,rfl,af,aw,e9.mono aa.ag,dJ.mono aa.ag⟩ ⟨rfl,rfl,rfl,rfl,rfl,trivial⟩;refine bh fun dk=> ?_;refine aR ?_;refine a6 rfl (oU (sb:=sb) (mb:=mb) (cc.mono aa.ag) (aC.mono aa.ag) (dM.term q)) ?_;rintro qU oK _ nq ⟨y,aw,dJ,rfl⟩;obtain⟨e3,ff,rfl,_⟩:=dJ.shape;refine br ?_;refine fU ?_;refine aX ?_;refine fS ⟨x,y,fW,e3,eK,ff,dk,cG,rfl,aa.ag,rfl,af,aw,e9.mono aa.ag,dJ.mono aa.ag⟩ ⟨rfl,rfl,rfl,rfl,rfl,trivial⟩;refine bh fun dk=> ?_;refine aR ?_;refine a6 rfl (oU (sb:=sb) (mb:=mb) (cc.mono aa.ag) (az.mono aa.ag) (dM.term p)) ?_;rintro yZ qt _ py ⟨x,af,e9,rfl⟩;obtain⟨fW,eK,rfl,_⟩:=e9.shape;refine aR ?_;refine a6 rfl (oU (sb:=sb) (mb:=mb) (cc.mono aa.ag) (aC.mono aa.ag) (dM.term q)) ?_;rintro qU oK _ nq ⟨y,aw,dJ,rfl⟩;obtain⟨e3,ff,rfl,_⟩:=dJ.shape;refine br ?_;refine fU ?_;refine aX ?_;refine fS ⟨x,y,fW,e3,eK,ff,dk,cG,rfl,aa.ag,rfl,af,aw,e9.mono aa.ag,dJ.mono aa.ag⟩ ⟨rfl,rfl,rfl,rfl,rfl,trivial⟩;rintro _ Lt _ ⟨x,y,fW,e3,eK,ff,dk,cG,rfl,aqE,rfl,af,aw,e9,dJ⟩;have qp:=Lp af aw;have g0:um bs (fH x y).1 (fH x y).2→QO (bs,ew++ [(p,q)]) (sV bs ew (fH x y).1 (fH x y).2):=fun h=>⟨ew,p,q,x,y,rfl,af,aw,h,rfl⟩
 have Hi:¬um bs (fH x y).1 (fH x y).2→∀γ:Int→G,inst γ a≠inst γ b:=fun h γ e=>cM.stuck (s:=(bs,ew++ [(p,q)])) rfl af aw h γ (by simpa using e);obtain⟨zO,yb,_⟩:=cM.ends af aw;refine mG (fun aL ai δ'=>∃(X Y:T) (Q3 Q4:Option Addr) (Q5 Q6:Nat),aL= [(0,.pointer (some ⟨sb,0,none⟩)),(7,.pointer (some ⟨dp,0,none⟩)),(8,.func (.func 245) #[] #[.pointer (some ⟨dp,0,none⟩)]),(10,.pointer (some ⟨dk,0,none⟩)),(11,.pointer (some ⟨cG,0,none⟩))]∧Lt=ai∧δ'=.box dk 41 [.int .i64 X.head,.slice Q3 X.args.length Q5]:: .box cG 41 [.int .i64 Y.head,.slice Q4 Y.args.length Q6]:: .box dp 340 [.slice A ew.length pW]::DX A pW ew.length (rs.take (ew.length*4))::kk sb mb xs∧fH x y=(X,Y)∧ba ai (.agg #[.int .i64 X.head,.slice Q3 X.args.length Q5]) X∧ba ai (.agg #[.int .i64 Y.head,.slice Q4 Y.args.length Q6]) Y) ?_ ?_;refine a8 ?_;by_cases qQ:y.head<0;refine a8 ?_;by_cases lN:0≤x.head;refine iR ?_;refine fS ⟨y,x,e3,fW,ff,eK,rfl,rfl,rfl,by unfold fH;rw[if_pos ⟨qQ,.inl lN⟩],dJ,e9⟩ ⟨rfl,rfl,rfl,rfl,rfl,trivial⟩;refine aZ ?_;by_cases zM:y.head<x.head;refine bW ?_;refine fS ⟨y,x,e3,fW,ff,eK,rfl,rfl,rfl,by unfold fH;rw[if_pos ⟨qQ,.inr zM⟩],dJ,e9⟩ ⟨rfl,rfl,rfl,rfl,rfl,trivial⟩;refine aP ?_;refine fS ⟨x,y,fW,e3,eK,ff,rfl,rfl,rfl,by unfold fH;rw[if_neg (fun h=>h.2.elim lN zM)],e9,dJ⟩ ⟨rfl,rfl,rfl,rfl,rfl,trivial⟩;refine fx ?_;refine fS ⟨x,y,fW,e3,eK,ff,rfl,rfl,rfl,by unfold fH;rw[if_neg (fun h=>qQ h.1)],e9,dJ⟩ ⟨rfl,rfl,rfl,rfl,rfl,trivial⟩;rintro _ _ _ ⟨X,Y,Q3,Q4,Q5,Q6,rfl,rfl,rfl,kf,aa5,aa6⟩;rw[kf]at qp g0 Hi;dsimp only at qp g0 Hi;have BQ:∀{s'},um bs X Y→sV bs ew X Y=s'→∃qT,hN s'.1 qT∧QP (uo s'.1 256,nW s'.1 qT s'.2) (uo bs 256,nW bs N (ew++ [(p,q)]))∧h8 [a] [b] s'.1 s'.2:=fun{s'} h e=>by have ab:=g0 h;rw[e]at ab;obtain⟨qT,ae,aF⟩:=ap5 cM dM ab;exact⟨qT,ae,aF,cM.next ab⟩
 have aqF:c2 X=0∧c2 Y=0:=by unfold fH at kf;split at kf<;>cases kf;exact⟨yb,zO⟩;exact⟨zO,yb⟩
 have aqG:=Bn aa5;unfold dZ at aqG;refine a_ ?_;by_cases BR:X.head<0;refine aZ ?_;by_cases Lu:X.head=Y.head;obtain⟨qT,du,dy,gv⟩:=BQ (s':=(bs,ew)) ⟨fun _ h=>absurd Lu h,fun h=>by omega⟩ (by unfold sV;rw[if_pos BR,if_pos Lu]);refine br ?_;refine I5 (dy) ⟨bs,qT,ew,xs,A,pW,_,rfl,rfl,aa.ag,rfl,k5.mono aa.ag,cc.mono aa.ag,gv,du,eZ.same⟩ ⟨rfl,rfl,rfl,trivial⟩
 have sU:cd bs (-1-X.head)=none:=by
  rcases qp with⟨h,_⟩|⟨_,h⟩
  exact h.end_ BR;exact h.end_ BR
 refine rk ?_;refine aI (gG (c:= -1-X.head) rfl rfl rfl ah) ?_;refine aX ?_;refine a6 rfl (aqq (mb:=mb) dM ah sU aa6 (cc.mono aa.ag)) ?_;rintro aqH aqI _ aqJ ⟨xs',rfl,mW,rfl⟩;by_cases Hj:hasB bs N (-1-X.head) Y=true;rw[Hj];refine gk ?_;exact b0 rfl rfl (⟨false,xs',rfl,rfl,fun _=>Hi (fun h=>absurd Hj (by unfold hasB;rw[decide_eq_true_eq,show-1-(-1-X.head)=X.head by omega];exact h.1 BR Lu N dM)),fun h=>(by cases h)⟩);simp only[Bool.not_eq_true]at Hj;rw[Hj]at mW⊢;have ix:X.head∉cq (bI (ea bs N) Y):=by have:=Hj;unfold hasB at this;rw[decide_eq_false_iff_not,show-1-(-1-X.head)=X.head by omega]at this;exact this
 obtain⟨qT,du,dy,gv⟩:=BQ (s':=((-1-X.head,Y)::bs,ew)) ⟨fun _ _ M P4 hm=>ix (by rwa[aqy dM P4 Y]),fun h=>by omega⟩ (by unfold sV;rw[if_pos BR,if_neg Lu]);refine aP ?_
 have aqK:Y∈il a++il b:=by
  rcases qp with⟨_,h⟩|⟨h,_⟩
  exact eZ.at_ e4 h;exact eZ.at_ mp h
 refine I5 (dy) ⟨_,qT,ew,xs',A,pW,_,rfl,rfl,aa.ag,rfl,k5.mono aa.ag,mW,gv,du,eZ.bind sU aqK⟩ ⟨rfl,rfl,rfl,trivial⟩;refine C0 ?_;by_cases aa7:X.head=Y.head;refine bg ?_;by_cases Q7:X.args.length=Y.args.length;obtain⟨qT,du,dy,gv⟩:=BQ (s':=(bs,ew++(X.args.zip Y.args).reverse)) ⟨fun h=>absurd h BR,fun _=>⟨aa7,Q7⟩⟩ (by unfold sV;rw[if_neg BR]);have Dn:=aqx aqF.1;obtain⟨_,aqL,oj⟩:=aa5.Hg;cases aqL;obtain⟨_,aqM,Gy⟩:=aa6.Hg;cases aqM;refine bW ?_;refine e8 rfl rfl rfl ((cR.fq (args:= [_,_]) (caps:= [_]) U5 (aa4 Q7 oj Gy ah Dn (k5.mono aa.ag)))) js ?_;rintro aa8 Ql _ K6 ⟨ur,fE,aqN,_,rfl,rfl,l5,rfl⟩;refine aR ?_;have aqO:nX a b bs (ew++(X.args.zip Y.args).reverse):=by have xI:fH x y=(x,y):=(Lq (x:=x) (y:=y) (by rw[kf];show 0≤X.head;omega)).1;rw[kf]at xI;cases xI;exact eZ.args af aw ah Dn
 refine I5 (dy) ⟨bs,qT,_,xs,ur,fE,aqN,rfl,rfl,aa.ag,rfl,l5,cc.mono aa.ag,gv,du,aqO⟩ ⟨rfl,rfl,rfl,trivial⟩;refine fx ?_;exact b0 rfl rfl (⟨false,xs,rfl,rfl,fun _=>Hi (fun h=>Q7 (h.2 ah).2),fun h=>(by cases h)⟩);refine Fk ?_;exact b0 rfl rfl (⟨false,xs,rfl,rfl,fun _=>Hi (fun h=>aa7 (h.2 ah).1),fun h=>(by cases h)⟩)
abbrev nt(a:Int×Int):Value:=.agg #[.int .i64 a.1,.int .i64 a.2]
theorem aqP {I:aa} {lU:Nat} {o:Option Nat} {ms:bU} {n:Int} {b1:Value} {δf:List ay} {val:Int→Int×Int→Prop} (hk:jm nt val ms)
 (a7:∀J gn ms,I.le J→jm nt val ms→cR Tryz.prog b1 [] J (mY lU 346 (some gn) ms δf) (fun v _ δ'=>∃q fk,v=nt q∧val n q∧jm nt val fk∧δ'=mY lU 346 (some gn) fk δf)):
 aS Tryz.prog 264 [.pointer (some ⟨lU,0,none⟩),.int .i64 n,b1] I (mY lU 346 o ms δf) (fun v _ δ'=>∃q gn fk,v=nt q∧val n q∧jm nt val fk∧(∀k,o=some k→gn=k)∧δ'=mY lU 346 (some gn) fk δf):=by
 refine a1 func264 ntmps264 fun aG=> ?_;refine go2 ?_;refine bh fun c1=> ?_;refine go2 ?_;refine mG (fun aL ai δ'=>∃(gn:Nat) (h9:bU) (c1:Nat),aL= [(0,.pointer (some ⟨lU,0,none⟩)),(1,.int .i64 n),(2,b1),(6,.pointer (some ⟨c1,0,none⟩))]∧I=ai∧δ'=.box c1 201 [.int .i64 0,.int .i64 0]::mY lU 346 (some gn) h9 δf∧jm nt val h9∧(∀k,o=some k→gn=k)) ?_ ?_;refine aZ ?_;refine aI (AR (z:=o.isNone) underlying344 rfl rfl rfl) ?_;refine go2 ?_;refine bF rfl (fun aV=> ?_) (fun aV=> ?_)
 cases o with
 |some _=>cases aV
 |none=> ?_
 refine go2 ?_;refine tm rfl (fun BC=> ?_);refine a8 ?_;refine fS ⟨BC,[],c1,rfl,rfl,rfl,jm.nil,fun k h=>by cases h⟩ ⟨rfl,rfl,rfl,rfl,trivial⟩ ((View.perm ((List.Perm.swap _ _ _).trans (List.Perm.cons _ aaW))))
 cases o with
 |none=>cases aV
 |some gn=> ?_
 refine aX ?_;refine fS ⟨_,_,c1,rfl,rfl,rfl,hk,fun k h=>by cases h;rfl⟩ ⟨rfl,rfl,rfl,rfl,trivial⟩ (v7);rintro _ _ _ ⟨gn,h9,c1,rfl,rfl,rfl,oV,qN⟩;refine bg ?_;by_cases k9:(dG h9 n).isSome=true;obtain⟨z,a2⟩:=Option.isSome_iff_exists.1 k9;obtain⟨q,rfl,aC⟩:=oV n z a2;refine aI (jr (v:=nt q) (g:=true) underlying344 underlying3 NK rfl rfl (Has.there (Has.there Hd)) (by rw[a2];rfl) (by rw[a2];rfl)) ?_;refine aR ?_;refine bh fun dp=> ?_;refine iR ?_;exact hd (rs:= [.cell 6 201]) rfl (.cons (.cell rfl AS cW rfl) .nil) (⟨q,gn,h9,rfl,aC,oV,qN,rfl⟩) (hw:=((View.drop aO.here).trans (View.drop aO.here)));have a2:dG h9 n=none:=by simpa using k9
 refine aI (jr (v:=.agg #[.int .i64 0,.int .i64 0]) (g:=false) underlying344 underlying3 NK rfl rfl (Has.there (Has.there Hd)) (by rw[a2];rfl) (by rw[a2];rfl)) ?_;refine aR ?_;refine bh fun dp=> ?_;refine gk ?_;refine aK.view (View.drop aO.here) ?_;refine e8 rfl rfl rfl ((a7 _ gn h9 aa.ag oV)) (List.perm_append_comm (l₁:= [_])) ?_;rintro xJ xK _ xL ⟨q,gm,rfl,aC,hk2,rfl⟩;refine aK.view (View.perm (List.perm_append_comm (l₂:= [_]))) ?_;refine bh fun hH=> ?_;refine a8 ?_;refine g5 [0,2,4,6,8,10,13] ?_;refine aP ?_;refine sg underlying344 underlying3 rfl rfl rfl rfl (bc.there (bc.there (bc.there QR))) ?_;refine aX ?_;refine fU ?_;refine br ?_;exact hd (rs:= [.cell 6 201]) rfl (.cons (.cell rfl AS cW rfl) .nil) (⟨q,gn,_,rfl,aC,hk2.put aC,qN,rfl⟩) (hw:=((View.drop aO.here).trans (View.drop aO.here)))
def nu(bs:List bx)(N:Nat)(t:T):Nat:=(bI (ea bs N) t).size
def Hk(bs:List bx)(N:Nat)(t:T)(q:Int×Int):Prop:=q.1=min (nu bs N t) 401∧0≤q.2∧q.2≤41
abbrev DY(bs:List bx)(N:Nat)(n:Int)(q:Int×Int):Prop:=Hk bs N (h6 n) q
section
variable {bs:List bx} {N:Nat} {t:T}
theorem aa9(aB:t.head<0):nu bs N t=nu bs N (h6 (-1-t.head)):=by
 unfold nu;rw[wX aB,DW ah]
theorem aqQ{w:Int}(hw:0≤w)(h:cd bs w=none):nu bs N (h6 w)=1:=by
 unfold nu;rw[DW hw,xX h];rfl
theorem aa_(dM:hN bs N){w:Int}(hw:0≤w){u:T}(h:cd bs w=some u):nu bs N (h6 w)=nu bs N u:=by
 unfold nu;rw[DW hw,dM.bound hw h]
theorem aqR(aB:0≤t.head):nu bs N t=1+(t.args.map (nu bs N)).sum:=by
 unfold nu;rw[tX ah,wv];show 1+bG (fN _ _)=_;congr 1;generalize t.args=us
 induction us with
 |nil=>rfl
 |cons x r aY=>rw[jQ]at*;simp only[List.map_cons,bG,List.sum_cons,aY]
end
theorem ed.elim{I:aa}{v:Value}{ts:List T}(h:ed I v ts):∃(ad:Option Addr) (c:Nat) (bj:Nat→Option Addr×Nat),v=.slice ad ts.length c∧ts.length≤c∧ts.length≤4398046511104∧(∀i (h:i<ts.length),Lg.At I ad (i*2) [.int .i64 ts[i].head,.slice (bj i).1 ts[i].args.length (bj i).2])∧(∀i (h:i<ts.length),ba I (.agg #[.int .i64 ts[i].head,.slice (bj i).1 ts[i].args.length (bj i).2]) ts[i]):=by
 obtain⟨ad,c,bj,ts,aq,al,aW,an,bT⟩:=h;exact⟨ad,c,bj,rfl,aq,al,aW,fun i aj=>ba.mk _ _ (an i aj) (bT i aj)⟩
theorem aqS {I:aa} {l7 AI KU sb qk:Nat} {z:T} {gZ:Option Addr} {kK:Nat} {δ fv δr:List ay} {R:Int×Int→aa→List ay→Prop} {R':Value→aa→List ay→Prop} (al:Has δ (.box KU 41 [.int .i64 z.head,.slice gZ z.args.length kK])) (aF:Has δ (.box l7 322 [.pointer (some ⟨sb,0,none⟩)])) (bb:Has δ (.box AI 352 [.pointer (some ⟨qk,0,none⟩)]))
 (aH:aS Tryz.prog 250 [.pointer (some ⟨sb,0,none⟩),.pointer (some ⟨qk,0,none⟩),.agg #[.int .i64 z.head,.slice gZ z.args.length kK]] I fv (fun v ai δ'=>∃q,v=nt q∧R q ai δ')) (BO:df δ fv δr) (bL:∀q ai dx,R q ai dx→∃cI,View ai (dx++δr) ai cI∧R' (nt q) ai cI):aS Tryz.prog 265 [.pointer (some ⟨l7,0,none⟩),.pointer (some ⟨AI,0,none⟩),.pointer (some ⟨KU,0,none⟩)] I δ R':=by
 refine a1 func265 ntmps265 fun aG=> ?_;refine go2 ?_;refine bh fun b3=> ?_;refine a8 ?_;refine aI (p9 UQ rfl (Has.there aF) rfl) ?_;refine aI (p9 UT rfl (Has.there bb) rfl) ?_;refine aI (p9 fc rfl (Has.there al) rfl) ?_;refine eo rfl aH ((List.Perm.cons _ BO).trans List.perm_middle.symm) ?_;rintro mM je aqb kA ⟨q,rfl,aqT⟩;refine aK.view (View.perm List.perm_middle) ?_;obtain⟨aqU,Hl,aqV⟩:=bL _ _ _ aqT;refine a8 ?_;exact hd (rs:= [.cell 3 201]) rfl (.cons (.cell rfl AS cW rfl) .nil) (aqV) (hw:=((View.drop aO.here).trans Hl))
theorem aqW{sb mb qk:Nat}{xs:bU}{bs:List bx}{N:Nat}(dM:hN bs N):∀(n s:Nat) (t:T),iH bs n t→t.size≤s→∀(I:aa) (ja:Value) (o:Option Nat) (ms:bU),ba I ja t→g6 I xs bs→jm nt (DY bs N) ms→
 aS Tryz.prog 250 [.pointer (some ⟨sb,0,none⟩),.pointer (some ⟨qk,0,none⟩),ja] I (mY qk 346 o ms (kk sb mb xs)) (fun q ai δ'=>∃p,q=nt p∧Hk bs N t p∧∃o' fk,jm nt (DY bs N) fk∧(∀k,o=some k→o'=some k)∧δ'=mY qk 346 o' fk (kk sb mb xs)):=by
 intro n
 induction n using Nat.strongRecOn with
 |_ n QT=>
 intro s
 induction s using Nat.strongRecOn with
 |_ s QU=>
 intro t aM bD I ja o ms ax cc hk;obtain⟨bz,bB,rfl,_⟩:=ax.shape;have an:=Bn ax;unfold dZ at an;have hQ:t.head∈cq t:=by rw[←T.eta t,ji];exact List.mem_cons_self ..
 refine a1 func250 ntmps250 fun aG=> ?_;refine go2 ?_;refine bw fun b3=> ?_;refine bw fun b4=> ?_;refine bw fun b5=> ?_;refine bh fun c1=> ?_;refine aP ?_;by_cases jh:t.head<0;refine bg ?_;refine aI (gG (c:= -1-t.head) rfl rfl rfl ah) ?_;refine b_ ?_;by_cases k9:(cd bs (-1-t.head)).isSome=true;obtain⟨z,a2⟩:=Option.isSome_iff_exists.1 k9;obtain⟨aaT,mu,se⟩:=(cc (-1-t.head)).2 z a2;obtain⟨gZ,kK,rfl,_⟩:=se.shape;obtain⟨eI,yc,QV⟩:∃m,m<n∧iH bs m z:=by cases n with|zero=>(rw[aM _ hQ jh]at a2;cases a2)|succ m=>exact⟨m,Nat.lt_succ_self m,aM _ hQ jh z a2⟩
 refine aI (jr (v:=.agg #[.int .i64 z.head,.slice gZ z.args.length kK]) (g:=true) underlying199 underlying3 z41 rfl rfl cW (by rw[mu];rfl) (by rw[mu];rfl)) ?_;refine aR ?_;refine bh fun b8=> ?_;refine ic ?_;refine aK.view (View.perm (List.perm_middle (l₁:= [_,_,_,_,_]))) ?_;refine hr rfl (aqP (δf:=.box b8 41 [.int .i64 z.head,.slice gZ z.args.length kK]:: .box c1 201 [.int .i64 0,.int .i64 0]:: .box b5 41 [.int .i64 t.head,.slice bz t.args.length bB]:: .box b4 352 [.pointer (some ⟨qk,0,none⟩)]:: .box b3 322 [.pointer (some ⟨sb,0,none⟩)]::kk sb mb xs) hk (fun J gn h9 cj oV=>cR.fq (args:= []) (caps:= [_,_,_]) ajg (aqS (sb:=sb) (qk:=qk) (R':=fun v _ δ'=>∃q fk,v=nt q∧DY bs N (-1-t.head) q∧jm nt (DY bs N) fk∧δ'=mY qk 346 (some gn) fk (.box b8 41 [.int .i64 z.head,.slice gZ z.args.length kK]:: .box c1 201 [.int .i64 0,.int .i64 0]:: .box b5 41 [.int .i64 t.head,.slice bz t.args.length bB]:: .box b4 352 [.pointer (some ⟨qk,0,none⟩)]:: .box b3 322 [.pointer (some ⟨sb,0,none⟩)]::kk sb mb xs)) cW cW cW (QT eI yc z.size z QV (Nat.le_refl _) J _ (some gn) h9 (se.mono cj) (cc.mono cj) oV) js (fun q ai dx ⟨ab,gx,gm,ae,aF,e⟩=>by have bb:=aF gn rfl;subst bb;subst e;exact⟨_,hS,q,gm,rfl,by show Hk _ _ _ _;unfold Hk at*;rw[aa_ dM ah a2];exact ab,ae,rfl⟩)))) ?_;rintro v35 A3 _ sq ⟨q,gn,gm,rfl,aC,hk2,qN,rfl⟩;rw[List.append_nil];refine a_ ?_;exact hd (rs:= [.cell 6 201]) rfl (.cons (.cell rfl AS cW rfl) .nil) (⟨q,rfl,by unfold Hk at*;rw[aa9 jh];exact aC,some gn,gm,hk2,fun k h=>by rw[qN k h],rfl⟩);have a2:cd bs (-1-t.head)=none:=by simpa using k9
 have mu:=(cc (-1-t.head)).1 a2;refine aI (jr (v:=.agg #[.int .i64 0,.slice none 0 0]) (g:=false) underlying199 underlying3 z41 rfl rfl cW (by rw[mu];rfl) (by rw[mu];rfl)) ?_;refine aR ?_;refine bh fun b8=> ?_;refine dn ?_;refine aI (hq (v:=nt (1,1)) rfl (fun _=>by kernel_rfl)) ?_;refine aZ ?_;exact hd (rs:= [.cell 6 201]) rfl (.cons (.cell rfl AS cW rfl) .nil) (⟨(1,1),rfl,⟨by rw[aa9 jh,aqQ ah a2];rfl,by decide,by decide⟩,o,ms,hk,fun _ h=>h,rfl⟩) (hw:=((View.drop aO.here).trans ((View.drop aO.here).trans ((View.drop aO.here).trans ((View.drop aO.here).trans (View.drop aO.here))))));refine bg ?_;refine aI (hq (v:=nt (1,0)) rfl (fun _=>by kernel_rfl)) ?_;refine bh fun dk=> ?_;refine aZ ?_;obtain⟨_,Hh,eO⟩:=ax.Hg;cases Hh;obtain⟨_,_,bj,fL,aq,al,aW,bT⟩:=eO.elim;cases fL;refine aP ?_;refine fD (fun m aL ai δ'=>∃(k:Nat) (p:Int×Int) (o':Option Nat) (fk:bU),m=t.args.length-k∧aL= [(3,.pointer (some ⟨b3,0,none⟩)),(4,.pointer (some ⟨b4,0,none⟩)),(6,.pointer (some ⟨c1,0,none⟩)),(10,.pointer (some ⟨dk,0,none⟩)),(38,.slice bz t.args.length bB),(39,.int .i64 t.args.length),(40,.int .i64 k)]∧I.le ai∧δ'=.box dk 201 [.int .i64 p.1,.int .i64 p.2]:: .box c1 201 [.int .i64 0,.int .i64 0]:: .box b5 41 [.int .i64 t.head,.slice bz t.args.length bB]:: .box b4 352 [.pointer (some ⟨qk,0,none⟩)]:: .box b3 322 [.pointer (some ⟨sb,0,none⟩)]::mY qk 346 o' fk (kk sb mb xs)∧k≤t.args.length∧p.1=min (1+((t.args.take k).map (nu bs N)).sum) 401∧0≤p.2∧p.2≤41∧jm nt (DY bs N) fk∧(∀j,o=some j→o'=some j)) ⟨0,(1,0),o,ms,rfl,rfl,aa.ag,rfl,Nat.zero_le _,by simp,by decide,by decide,hk,fun _ h=>h⟩ ⟨rfl,rfl,rfl,rfl,rfl,rfl,rfl,trivial⟩ ?_;rintro m _ e6 _ ⟨k,p,o',fk,rfl,rfl,fz,rfl,iy,qV,tJ,aqX,oV,ns⟩;refine aZ ?_;refine bF rfl (fun c4=> ?_) (fun c4=> ?_);have av:k<t.args.length:=by simpa using c4
 have db:=(aW k av).isSome;refine aP ?_;refine aI (cC ((aW k av).mono fz)) ?_;refine bh fun kc=> ?_;refine bg ?_;refine eo rfl (QU _ (aaZ bD (List.getElem_mem av)) t.args[k] (aM.sub (aaY (List.getElem_mem av))) (Nat.le_refl _) _ _ o' fk ((bT k av).mono aa.ag) (cc.mono aa.ag) oV) (List.perm_append_comm (l₁:= [_,_,_,_,_,_])) ?_;rintro w2 vl _ sO ⟨DZ,rfl,sd,gx,gm,hk2,pf,rfl⟩;refine aK.view (View.perm (List.perm_append_comm (l₂:= [_,_,_,_,_,_]))) ?_;obtain⟨du,dy,gv⟩:=sd;refine bh fun ie=> ?_;refine aR ?_;refine eU [0,2,4,6,8,10,12,14,16,18,20,22,25,26,29] (two 8 [.box ie 201 [.int .i64 DZ.1,.int .i64 DZ.2],.box dk 201 [.int .i64 p.1,.int .i64 p.2]] [.box ie 201 [.int .i64 DZ.1,.int .i64 DZ.2]]) (xg fQ fQ) ?_;refine dg rfl (qh (i:=0) underlying201 rj rfl rfl (by decide)) ?_;refine aX ?_;refine dg rfl (qh (i:=0) underlying201 rj rfl rfl (by decide)) ?_;refine go2 ?_;refine dg rfl (Nh rfl rfl) ?_;refine dg rfl (qh (i:=1) underlying201 rj rfl rfl (by decide)) ?_;refine aX ?_;refine dg rfl (qh (i:=1) underlying201 rj rfl rfl (by decide)) ?_;refine aX ?_;refine dg rfl (IH rfl rfl) ?_;refine dg rfl (qh (i:=0) underlying201 rj rfl rfl (by decide)) ?_;refine aR ?_;refine xr ?_;refine dg rfl (qh (i:=1) underlying201 rj rfl rfl (by decide)) ?_;refine aR ?_;refine fU ?_;refine aP ?_;refine ec ⟨k+1,(min (p.1+DZ.1) 401,max p.2 DZ.2),gx,gm,rfl,rfl,aa.ag,rfl,av,by rw[List.take_succ_eq_append_getElem av,List.map_append,List.sum_append];simp only[List.map_cons,List.map_nil,List.sum_cons,List.sum_nil];omega,by simp only;omega,by simp only;omega,hk2,fun j au=>pf j (ns j au)⟩ ⟨rfl,rfl,rfl,rfl,rfl,rfl,rfl,trivial⟩;have bV:k=t.args.length:=by simp at c4;omega
 refine aP ?_;refine aI (qh (i:=1) underlying201 rj rfl rfl (by decide)) ?_;refine go2 ?_;refine aI (Nh rfl rfl) ?_;refine aI (qh (i:=1) underlying201 rj rfl rfl (by decide)) ?_;refine b_ ?_;exact hd (rs:= [.cell 6 201]) rfl (.cons (.cell rfl AS cW rfl) .nil) (⟨(p.1,min (p.2+1) 41),rfl,⟨by subst bV;rw[List.take_length]at qV;rw[aqR ah];exact_mod_cast qV,by simp only;omega,by simp only;omega⟩,o',fk,oV,ns,rfl⟩) (hw:=((View.drop aO.here).trans ((View.drop aO.here).trans ((View.drop aO.here).trans ((View.drop aO.here).trans (View.drop aO.here))))))
theorem aqY{sb mb:Nat}{xs:bU}{bs:List bx}{N:Nat}(dM:hN bs N)(xc:∀v u,cd bs v=some u→hM u):∀(s:Nat) (t:T),nu bs N t≤s→hM t→∀(I:aa) (ja:Value),ba I ja t→g6 I xs bs→
 aS Tryz.prog 251 [.pointer (some ⟨sb,0,none⟩),ja] I (kk sb mb xs) (fun v ai δ'=>ba ai v (bI (ea bs N) t)∧δ'=kk sb mb xs):=by
 intro s
 induction s using Nat.strongRecOn with
 |_ s aY=>
 intro t bD lt I ja ax cc;obtain⟨bz,bB,rfl,_⟩:=ax.shape;refine a1 func251 ntmps251 fun aG=> ?_;refine go2 ?_;refine bw fun b3=> ?_;refine bh fun b4=> ?_;refine aZ ?_;refine a6 rfl (oU (sb:=sb) (mb:=mb) cc ax (dM.term t)) ?_;rintro v10 j4 _ kB ⟨x,af,e9,rfl⟩;obtain⟨fW,eK,rfl,_⟩:=e9.shape;have ch:=af.st dM;have ei:hM x:=af.prop (P:=hM) lt xc;have heq:bI (ea bs N) t=.mk x.head (fN (ea bs N) x.args):=by rw[←ch];by_cases h:x.head<0;rw[wX h,xX (af.end_ h),ei.leaf h];unfold h6;rw[show-1-(-1-x.head)=x.head by omega];rfl;exact tX h
 have dr:(fN (ea bs N) x.args).length=x.args.length:=by rw[jQ,List.length_map]
 have FI:nu bs N t=1+bG (fN (ea bs N) x.args):=by unfold nu;rw[heq,wv];rfl
 have aqZ:=Bn e9;obtain⟨_,Hh,eO⟩:=e9.Hg;cases Hh;obtain⟨_,_,bj,fL,aq,al,aW,bT⟩:=eO.elim;cases fL;refine bg ?_;refine bh fun b5=> ?_;refine cT ?_;refine bJ.view (View.gh 41 2) ?_;refine fD (fun m aL ai δ'=>∃(k:Nat) (cX:Option Addr) (dH:Nat) (rs:List Value),m=x.args.length-k∧aL= [(0,.pointer (some ⟨sb,0,none⟩)),(4,.pointer (some ⟨b4,0,none⟩)),(5,.pointer (some ⟨b5,0,none⟩)),(15,.slice fW x.args.length eK),(16,.int .i64 x.args.length),(17,.int .i64 k)]∧j4.le ai∧δ'=.row (.slice cX k dH) 41 2 k rs:: .box b5 41 [.int .i64 x.head,.slice cX k dH]:: .box b4 41 [.int .i64 0,.slice none 0 0]:: .box b3 41 [.int .i64 x.head,.slice fW x.args.length eK]::kk sb mb xs∧k≤x.args.length∧cF ai rs (fN (ea bs N) (x.args.take k))) ⟨0,none,0,[],rfl,rfl,aa.ag,rfl,Nat.zero_le _,cF.nil _⟩ ⟨rfl,rfl,rfl,rfl,rfl,rfl,trivial⟩ ?_;rintro m _ e6 _ ⟨k,cX,dH,rs,rfl,rfl,fz,rfl,iy,az⟩;refine aZ ?_;refine bF rfl (fun aV=> ?_) (fun aV=> ?_);have av:k<x.args.length:=by simpa using aV
 have db:=(aW k av).isSome;refine aP ?_;refine aI (cC ((aW k av).mono fz)) ?_;refine bh fun dp=> ?_;refine aR ?_;refine eU [0,2,4,6,9,11,13,14,17] (fun _=> [.box dp 41 [.int .i64 x.args[k].head,.slice (bj k).1 x.args[k].args.length (bj k).2],.box b5 41 [.int .i64 x.head,.slice cX k dH]]) (fun _=>fQ) ?_;refine a_ ?_;have oV:nu bs N x.args[k]≤bG (fN (ea bs N) x.args):=by have:=pt (fN (ea bs N) x.args) k ah;simp only[jQ,List.getElem_map]at this⊢;exact this
 refine a6 rfl (aY (nu bs N x.args[k]) ah x.args[k] (Nat.le_refl _) (ei.args _ (List.getElem_mem av)) _ _ ((bT k av).mono fz) (cc.mono aa.ag)) ?_;rintro v25 tz _ k7 ⟨Dm,rfl⟩;obtain⟨ay9,ay_,rfl,_⟩:=Dm.shape;refine aR ?_;refine c_ fun w3=> ?_;refine aR ?_;refine gl fun a27 tA=> ?_;refine aZ ?_;refine fU ?_;refine aP ?_;refine ec ⟨k+1,a27,tA,_,rfl,rfl,aa.ag,rfl,av,by rw[List.take_succ_eq_append_getElem av,jQ,List.map_append,←jQ];exact(az.mono k7).app (cF.one Dm)⟩ ⟨rfl,rfl,rfl,rfl,rfl,rfl,trivial⟩;have bV:k=x.args.length:=by simp at aV;omega
 subst bV;rw[List.take_length]at az;refine aP ?_;refine aK.dO aO.here ?_;rintro oK WA WB nq mc eV iT ep;cases mc;refine a_ ?_;exact hd (rs:= [.cell 4 41]) rfl (.cons (.cell rfl fc cW rfl) .nil) (⟨by rw[heq];have:=cF.rep (h:=x.head) ep (az.mono nq) aqZ (by rw[dr];exact eV) (by rw[dr];exact al);rw[dr]at this;exact this,rfl⟩)
end
section
open Go Lg Go.Shelf Go.Sort Go.RowKit
def aq0:Go.Shelf.Ren:=⟨fun|5=>86|8=>124|7=>123|19=>161|20=>162|10=>152|11=>153|12=>154|13=>155|14=>156|15=>157|16=>158|17=>159|18=>160|30=>197|31=>198|32=>199|33=>200|34=>201|35=>202|40=>226|n=>n,fun|23=>45|25=>3|3=>3|32=>189|22=>45|0=>0|44=>245|46=>247|4=>4|36=>239|35=>238|41=>114|5=>5|9=>9|53=>283|57=>287|63=>318|64=>319|n=>n,fun|n=>n⟩
theorem aba:Go.Proofs.SlLaysM.n5 Tryz.prog aq0 where
  mixed:=by kernel_rfl
  f5:=⟨ "slices.Sort[[]int,int]",by decide,func86.trans (congrArg some (by kernel_rfl))⟩
  f7:=⟨ "slices.pdqsortOrdered[int]",by decide,func123.trans (congrArg some (by kernel_rfl))⟩
  f8:=func124.trans (congrArg some (by kernel_rfl))
  f10:=⟨ "slices.insertionSortOrdered[int]",by decide,func152.trans (congrArg some (by kernel_rfl))⟩
  f11:=⟨ "slices.heapSortOrdered[int]",by decide,func153.trans (congrArg some (by kernel_rfl))⟩
  f12:=⟨ "slices.breakPatternsOrdered[int]",by decide,func154.trans (congrArg some (by kernel_rfl))⟩
  f13:=⟨ "slices.choosePivotOrdered[int]",by decide,func155.trans (congrArg some (by kernel_rfl))⟩
  f14:=⟨ "slices.reverseRangeOrdered[int]",by decide,func156.trans (congrArg some (by kernel_rfl))⟩
  f15:=⟨ "slices.partialInsertionSortOrdered[int]",by decide,func157.trans (congrArg some (by kernel_rfl))⟩
  f16:=⟨ "cmp.Less[int]",by decide,func158.trans (congrArg some (by kernel_rfl))⟩
  f17:=⟨ "slices.partitionEqualOrdered[int]",by decide,func159.trans (congrArg some (by kernel_rfl))⟩
  f18:=⟨ "slices.partitionOrdered[int]",by decide,func160.trans (congrArg some (by kernel_rfl))⟩
  f19:=func161.trans (congrArg some (by kernel_rfl))
  f20:=func162.trans (congrArg some (by kernel_rfl))
  f30:=⟨ "slices.siftDownOrdered[int]",by decide,func197.trans (congrArg some (by kernel_rfl))⟩
  f31:=func198.trans (congrArg some (by kernel_rfl))
  f32:=func199.trans (congrArg some (by kernel_rfl))
  f33:=⟨ "slices.medianAdjacentOrdered[int]",by decide,func200.trans (congrArg some (by kernel_rfl))⟩
  f34:=⟨ "slices.medianOrdered[int]",by decide,func201.trans (congrArg some (by kernel_rfl))⟩
  f35:=⟨ "cmp.isNaN[int]",by decide,func202.trans (congrArg some (by kernel_rfl))⟩
  f40:=⟨ "slices.order2Ordered[int]",by decide,func226.trans (congrArg some (by kernel_rfl))⟩
  t0:=underlying0
  a0:=Tryz.isAgg0
  z0:=Tryz.sizeOf0
  v0:=Tryz.zeroValue0
  t3:=underlying3
  a3:=Tryz.isAgg3
  z3:=Tryz.sizeOf3
  v3:=Tryz.zeroValue3
  t4:=underlying4
  a4:=Tryz.isAgg4
  z4:=Tryz.sizeOf4
  v4:=Tryz.zeroValue4
  t5:=underlying5
  a5:=Tryz.isAgg5
  z5:=Tryz.sizeOf5
  v5:=Tryz.zeroValue5
  t9:=underlying9
  a9:=Tryz.isAgg9
  z9:=Tryz.sizeOf9
  v9:=Tryz.zeroValue9
  t22:=underlying45
  a22:=Tryz.isAgg45
  z22:=Tryz.sizeOf45
  v22:=Tryz.zeroValue45
  t23:=underlying45
  a23:=Tryz.isAgg45
  z23:=Tryz.sizeOf45
  v23:=Tryz.zeroValue45
  t25:=underlying3
  a25:=Tryz.isAgg3
  z25:=Tryz.sizeOf3
  v25:=Tryz.zeroValue3
  t32:=underlying189
  a32:=Tryz.isAgg189
  z32:=Tryz.sizeOf189
  v32:=Tryz.zeroValue189
  t35:=underlying238
  a35:=Tryz.isAgg238
  z35:=Tryz.sizeOf238
  v35:=Tryz.zeroValue238
  t36:=underlying239
  a36:=Tryz.isAgg239
  z36:=Tryz.sizeOf239
  v36:=Tryz.zeroValue239
  t41:=underlying114
  a41:=Tryz.isAgg114
  z41:=Tryz.sizeOf114
  v41:=Tryz.zeroValue114
  t44:=underlying245
  a44:=Tryz.isAgg245
  z44:=Tryz.sizeOf245
  v44:=Tryz.zeroValue245
  t46:=underlying247
  a46:=Tryz.isAgg247
  z46:=Tryz.sizeOf247
  v46:=Tryz.zeroValue247
  t53:=underlying283
  a53:=Tryz.isAgg283
  z53:=Tryz.sizeOf283
  v53:=Tryz.zeroValue283
  t57:=underlying287
  a57:=Tryz.isAgg287
  z57:=Tryz.sizeOf287
  v57:=Tryz.zeroValue287
  t63:=underlying318
  a63:=Tryz.isAgg318
  z63:=Tryz.sizeOf318
  v63:=Tryz.zeroValue318
  t64:=underlying319
  a64:=Tryz.isAgg319
  z64:=Tryz.sizeOf319
  v64:=Tryz.zeroValue319
theorem Q8{I:aa}{A:Option Addr}{c:Nat}{xs:List Int}(al:xs.length≤1000000000):
 aS Tryz.prog 86 [.slice A xs.length c] I [f_ A c xs] (fun v _ δ'=>∃ys,v=.tuple #[]∧ys.Perm xs∧δ'= [f_ A c ys]):=by
 intro w ao;have bm:w.ownsRow 0 3 1 (.slice A xs.length c) xs.length (xs.map (Value.int .i64)):=ao.dQ _ (List.mem_cons_self ..);by_cases aD:xs.length=0;have af:xs= []:=List.eq_nil_of_length_eq_zero aD;subst af;refine Calls.mono (AnyM.slices_Sort_int_none aba A c w) ?_;rintro e w' ⟨rfl,rfl⟩;exact⟨_,I,_,rfl,ao,er.refl _ _ _,[],rfl,List.Perm.refl _,rfl⟩;obtain⟨aA,af⟩:=bm;rcases af with⟨_,aB⟩|⟨g,cap,cur,he,_,bK,lu,qg,bD,fb⟩
 omega;cases he;have av:g<w.heap.size:=(Array.getElem?_eq_some_iff.1 bK).1
 have uu:∀j,j<xs.length→cur[j]? =some (.int .i64 xs.toArray[j]!):=fun j au=>by
  have ab:(xs.map (Value.int .i64))[j]? =some (.int .i64 xs[j]):=by simp[au]
  rw[←fb,List.getElem?_take_of_lt ah]at ab;rw[←Array.getElem?_toList,ab];simp[au]
 have aq1:Holds (Value.int .i64) w g 0 xs.toArray:=fun j au=>by
  have qA:j<xs.length:=by simpa using au
  refine⟨?_,?_⟩;simp only[World.cell?,bK,Nat.zero_add];exact uu j qA;simp[World.frozen?,bK]
 refine Calls.mono (AnyM.slices_Sort_int aba g 0 c xs w aq1 av ah) ?_;rintro e w' ⟨rfl,n,os,rfl⟩;have hb:(xs.mergeSort fun x y=>decide (x≤y)).Perm xs:=List.mergeSort_perm _ _;generalize (xs.mergeSort fun x y=>decide (x≤y))=ys at hb;have abb:=hb.length_eq;have jj:(putRow (Value.int .i64) (Sort.ahead w n) g 0 ys.toArray).heap[g]? =some (.cells (putCells (Value.int .i64) 0 ys.toArray cur) 3 (0,0)):=by simp only[putRow,mapBlock,Sort.ahead,Array.getElem?_modify,bK,if_pos,Option.map_some,onCells]
 have qc:(putRow (Value.int .i64) (Sort.ahead w n) g 0 ys.toArray).heap.size=w.heap.size:=by simp[putRow,mapBlock,Sort.ahead]
 obtain⟨s',t'⟩:=ao.swap (w':=grow (putRow (Value.int .i64) (Sort.ahead w n) g 0 ys.toArray) os) (x':=f_ (some ⟨g,0,none⟩) c ys) (δ':= [f_ (some ⟨g,0,none⟩) c ys]) bc.here rfl rfl rfl (by rw[size_grow,qc];omega)
   (fun b al cu=>by rw[heap_grow_old _ _ (by rw[qc];exact al)];have:¬g=b:=fun e=>cu (by rw[e];rfl);simp only[putRow,mapBlock,Sort.ahead,Array.getElem?_modify,if_neg this])
   (by
    show World.ownsRow _ 0 3 1 _ _ _;refine⟨by simp,.inr ⟨g,c,putCells (Value.int .i64) 0 ys.toArray cur,rfl,Nat.zero_le _,?_,by omega,qg,by simp[putCells,bD],?_⟩⟩;rw[heap_grow_old _ _ (by rw[qc];exact av)];exact jj;apply List.ext_getElem?;intro j;rw[List.getElem?_take];by_cases au:j<ys.length*1;rw[if_pos au,Array.getElem?_toList];have g1:j<ys.length:=by omega
    simp only[putCells,Array.getElem?_mapIdx,uu j ah,Option.map_some];rw[if_pos ⟨Nat.zero_le _,by simp;exact g1⟩];simp[g1];rw[if_neg au,List.getElem?_eq_none (by simp;omega)])
   (fun b al=>.inl al)
 exact⟨_,I,_,rfl,s',t',ys,rfl,hb,rfl⟩
end
end Go.Proofs.YtciibkomnoicdaaGreat
