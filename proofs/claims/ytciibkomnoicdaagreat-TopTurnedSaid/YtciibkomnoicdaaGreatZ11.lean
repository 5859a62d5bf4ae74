/- Own texts: a small program logic, plain facts, walks through the program's functions. No condition. -/
import Derived.Test.YtciibkomnoicdaaGreatZ10
set_option maxRecDepth 10000
set_option maxHeartbeats 4000000
set_option linter.unusedVariables false
set_option linter.unusedSimpArgs false
set_option linter.unnecessarySimpa false
set_option linter.unusedSectionVars false
namespace Go.Proofs.YtciibkomnoicdaaGreat
open Go Lg Tryz
def h7(vs:List Int):List bx:=vs.zipIdx.map fun x=>(x.1,T.mk (-1-(x.2:Int)) [])
theorem G3(vs:List Int)(v:Int):cd (h7 vs) v=if v∈vs then some (.mk (-1-(numOf vs v:Int)) [])else none:=by
 have key:∀(vs:List Int) (j:Nat),cd ((vs.zipIdx j).map fun x=>(x.1,T.mk (-1-(x.2:Int)) [])) v=if v∈vs then some (.mk (-1-((j+numOf vs v:Nat):Int)) [])else none:=by
  intro vs
  induction vs with
  |nil=>intro j;simp[cd]
  |cons x r aY=>intro j;simp only[List.zipIdx_cons,List.map_cons,cd,numOf];by_cases e:x=v;rw[if_pos e,if_pos e,if_pos (by simp[e])];simp;rw[if_neg e,if_neg e,aY (j+1)];by_cases m:v∈r;rw[if_pos m,if_pos (by simp[m])];congr 4;omega;rw[if_neg m,if_neg (by simp[m];exact fun q=>e q.symm)]
 have:=key vs 0;rw[Nat.zero_add]at this;exact this
mutual
theorem ao0:∀(t:T) (aN:List Int),∃ms,(fA aN t).2=aN++ms
  |.mk h ts,aN=>by simp only[fA];split;exact amB _ _;exact Qs ts aN
theorem Qs:∀(ts:List T) (aN:List Int),∃ms,(dL aN ts).2=aN++ms
  | [],aN=>⟨[],by simp[dL]⟩
  |t::r,aN=>by obtain⟨AK,ab⟩:=ao0 t aN;obtain⟨j0,ae⟩:=Qs r (fA aN t).2;exact⟨AK++j0,by simp only[dL];rw[ae,ab,List.append_assoc]⟩
end
mutual
theorem ao1:∀(t:T) (aN fin:List Int),(∃ms,fin=(fA aN t).2++ms)→fF (h7 fin) t=(fA aN t).1
  |.mk h ts,aN,fin,a7=>by
   unfold fF;simp only[fA,iD]at a7⊢;by_cases q:h<0;rw[if_pos q]at a7⊢;rw[if_pos q];obtain⟨ms,a7⟩:=a7;simp only at a7;have hm:(-1-h)∈fin:=by rw[a7];exact List.mem_append_left _ (O9 _ _)
   unfold nh;simp only[T.head];rw[G3,if_pos hm,Option.getD_some,a7,Ki _ (O9 _ _)];rw[if_neg q]at a7⊢;rw[if_neg q];have:=Qt ts aN fin a7;simp only at this⊢;rw[this]
theorem Qt:∀(ts:List T) (aN fin:List Int),(∃ms,fin=(dL aN ts).2++ms)→gL (nh (h7 fin)) ts=(dL aN ts).1
  | [],aN,fin,_=>by simp[gL,dL]
  |t::r,aN,fin,a7=>by simp only[dL,gL]at a7⊢;obtain⟨ms,a7⟩:=a7;obtain⟨j0,ae⟩:=Qs r (fA aN t).2;have aQ:=ao1 t aN fin ⟨j0++ms,by rw[a7,ae,List.append_assoc]⟩;have aT:=Qt r (fA aN t).2 fin ⟨ms,a7⟩;unfold fF at aQ;rw[aQ,aT]
end
theorem ao2(aN a:List Int)(x:Int):fM aN (fo a x)=fo (fM aN a) x:=by
 by_cases h:x∈a;have ae:x∈fM aN a:=(Ko _ _ _).2 (.inr h);unfold fo;rw[if_pos h,if_pos ae];conv=>lhs;unfold fo
 rw[if_neg h,XZ];rfl
theorem ao3(aN a:List Int):∀l:List Int,fM aN (fM a l)=fM (fM aN a) l:=by
 intro l
 induction l generalizing a with
 |nil=>rfl
 |cons x r aY=>
   show fM aN (fM (fo a x) r)=fM (fo (fM aN a) x) r
   rw[aY,ao2]
theorem ZT(aN:List Int):∀(ts:List T) (a:List Int),fB (fM aN a) ts=fM aN (fB a ts)
  | [],a=>by simp[fB]
  |t::r,a=>by simp only[fB];rw[←ZT aN r (fM a (Dx t)),ao3]
mutual
theorem ao4:∀(t:T) (aN:List Int),c2 t=0→(fA aN t).2=fM aN (Dx t)
  |.mk h ts,aN,aq=>by obtain⟨ab,ae⟩:=PI aq;simp only[fA,Dx];by_cases q:h<0;rw[if_pos q,if_pos q,ab q];rfl;rw[if_neg q,if_neg q];show(dL aN ts).2=_;rw[Qu ts aN fun k hk=>ae k hk];exact ZT aN ts []
theorem Qu:∀(ts:List T) (aN:List Int),(∀k (hk:k<ts.length),c2 ts[k]=0)→(dL aN ts).2=fB aN ts
  | [],aN,_=>by simp[dL,fB]
  |t::r,aN,aq=>by simp only[dL,fB];rw[ao4 t aN (aq 0 (by simp)),Qu r _ fun k hk=>by have:=aq (k+1) (by simpa using hk);simpa using this]
end
theorem ZU{ts:List T}(h:ts.any c5=false):∀t∈ts,c2 t=0:=fun t ar=>by have:=List.any_eq_false.1 h t ar;unfold c5 at this;simpa using this
theorem ao5{c:List ak}(h:(bE c).any c5=false):gL (nh (h7 (fB [] (bE c)))) (bE c)=(dL [] (bE c)).1:=
  Qt _ [] _ ⟨[],by rw[List.append_nil,Qu _ _ fun k hk=>ZU h _ (List.getElem_mem hk)]⟩
def ao6(bs:List bx)(c:List ak):List ak:=c.map fun x=>⟨x.neg,fF bs x.l,fF bs x.r⟩
theorem ZV(f:T→T):∀c:List ak,iE c (gL f (bE c))=c.map fun x=>⟨x.neg,iD f x.l,iD f x.r⟩
  | []=>rfl
  |x::r=>by show iE (x::r) (gL f (x.l::x.r::bE r))=_;simp only[gL,iE,List.map_cons,ZV f r]
theorem ao7{c:List ak}(h:(bE c).any c5=false):ao6 (h7 (fB [] (bE c))) c=eh c:=by
 unfold eh;rw[←ao5 h,ZV];rfl
mutual
theorem ao8:∀(t:T) (v:Int),v∈Dx t↔∃k∈cq t,k<0∧v= -1-k
  |.mk h ts,v=>by
   simp only[Dx];rw[K8 ts _ v,ji];constructor;rintro(ab|⟨k,hk,ab⟩);split at ab;rename_i q;simp at ab;exact⟨h,List.mem_cons_self ..,q,ab⟩;cases ab;exact⟨k,List.mem_cons_of_mem _ hk,ab⟩;rintro⟨k,hk,ab,ae⟩;rcases List.mem_cons.1 hk with rfl|hk
   left;rw[if_pos ab];simp[ae];right;exact⟨k,hk,ab,ae⟩
theorem K8:∀(ts:List T) (acc:List Int) (v:Int),v∈fB acc ts↔v∈acc∨∃k∈ts.flatMap cq,k<0∧v= -1-k
  | [],acc,v=>by simp[fB]
  |t::r,acc,v=>by
   simp only[fB];rw[K8 r _ v,Ko,ao8 t v,List.flatMap_cons];constructor;rintro((h|⟨k,hk,h⟩)|⟨k,hk,h⟩);exact .inl h;exact .inr ⟨k,List.mem_append_left _ hk,h⟩;exact .inr ⟨k,List.mem_append_right _ hk,h⟩;rintro(h|⟨k,hk,h⟩);exact .inl (.inl h);rcases List.mem_append.1 hk with q|q
   exact .inl (.inr ⟨k,q,h⟩);exact .inr ⟨k,q,h⟩
end
theorem ao9{t:T}{v:Int}:v∈eB (dd 1 t)↔∃k∈cq t,k<0∧v= -1-k:=by
 constructor;intro h;obtain⟨x,af,e,aB⟩:=Qg h;exact⟨x.2.head,Qh af,by omega,by omega⟩;rintro⟨k,hk,aB,rfl⟩;obtain⟨x,af,rfl⟩:=ZJ hk;exact ZI af aB
theorem ZW:∀(ts:List T) (acc:List Int) (v:Int),v∈ih acc ts↔v∈acc∨∃k∈ts.flatMap cq,k<0∧v= -1-k
  | [],acc,v=>by simp[ih]
  |t::r,acc,v=>by
   show v∈ih (fM acc (eB (dd 1 t))) r↔_;rw[ZW r _ v,Ko,ao9,List.flatMap_cons];constructor;rintro((h|⟨k,hk,h⟩)|⟨k,hk,h⟩);exact .inl h;exact .inr ⟨k,List.mem_append_left _ hk,h⟩;exact .inr ⟨k,List.mem_append_right _ hk,h⟩;rintro(h|⟨k,hk,h⟩);exact .inl (.inl h);rcases List.mem_append.1 hk with q|q
   exact .inl (.inr ⟨k,q,h⟩);exact .inr ⟨k,q,h⟩
theorem K9(c:List ak)(v:Int):v∈fB [] (bE c)↔v∈gX c:=by
 unfold gX;rw[K8,ZW]
section
attribute [local irreducible] aK bf bJ
def uf(bs:List bx)(t:T)(e:Int)(u:T):Prop:=((zc bs∧c2 t=0)∧e=c2 (fF bs t)∧u=(if c2 (fF bs t)=0 then fF bs t else jd))∨(¬(zc bs∧c2 t=0)∧e=1∧u=jd)
theorem uf.eq{bs:List bx}{t:T}{e f:Int}{u w:T}(h:uf bs t e u)(k:uf bs t f w):e=f∧u=w:=by
 rcases h with⟨ab,ae,aF⟩|⟨ab,ae,aF⟩<;>rcases k with⟨c8,b6,hs⟩|⟨c8,b6,hs⟩
 exact⟨by rw[ae,b6],by rw[aF,hs]⟩;exact absurd ab c8;exact absurd c8 ab;exact⟨by rw[ae,b6],by rw[aF,hs]⟩
theorem uf.size{bs:List bx}{t:T}{e:Int}{u:T}(h:uf bs t e u):u.size≤400:=by
 rcases h with⟨ab,ae,aF⟩|⟨ab,ae,aF⟩
 subst aF;split;exact gV (by assumption);exact(by decide:jd.size≤400);subst aF;exact(by decide:jd.size≤400)
theorem Qv{I:aa}{vs v:Value}{bs:List bx}{t:T}(ao:hh I vs bs)(ax:ba I v t)(fu:∀b∈bs,b.2.size≤500)(ar:t.size≤1000000):
 aS Tryz.prog 210 [vs,v] I [] (fun v ai δ'=>(∃e u r,v=.tuple #[r,.int .i64 e]∧ba ai r u∧uf bs t e u)∧δ'= []):=by
 obtain⟨a0,bu,rfl,ib⟩:=ax.shape;obtain⟨iS,gj,rfl⟩:=ao.shape;have bD:(fF bs t).size≤1000000000:=by have:=ak5 (m:=500) ah fu t;omega
 refine a1 func210 ntmps210 fun aG=> ?_;refine go2 ?_;refine bw fun b3=> ?_;refine bh fun b4=> ?_;refine aP ?_;refine bN rfl (ak6 ao (fun b al=>by have:=fu b al;omega)) ?_;rintro mM je _ kA ⟨⟨ZX,rfl,ZY⟩,rfl⟩;by_cases nf:ZX≠0;refine iR ?_;refine bn ?_;exact⟨⟨1,jd,_,rfl,sn _,.inr ⟨fun bK=>by rcases ZY with h|h;omega;exact h.2 bK.1,rfl,rfl⟩⟩,rfl⟩;refine aR ?_;refine cZ ?_;refine bN rfl (wu (ax.mono aa.ag) ah) ?_;rintro v11 ry _ qE ⟨rfl,rfl⟩;by_cases hT:c2 t≠0;refine dn ?_;refine bn ?_;exact⟨⟨1,jd,_,rfl,sn _,.inr ⟨fun bK=>hT bK.2,rfl,rfl⟩⟩,rfl⟩;refine bg ?_;refine g5 [0,2,5,6,9,11,12,14,17,19] ?_;refine aR ?_;refine bN rfl (akX (ao.mono aa.ag)) ?_;rintro u0 ox _ nc ⟨jM,ayV,rfl,rfl,cc⟩;refine a8 ?_;refine eo rfl (Ww (I0:=ox) (fun J v u cj hu=>cR.A8 (firsts:= [_]) aje (akY hu (cc.mono cj))) t.size t (Nat.le_refl _) _ _ (aa.le_refl _) (ax.mono aa.ag)) (df.one aO.here) ?_;rintro tD sr _ wo ⟨ZZ,rfl⟩;change ba sr tD (fF bs t)at ZZ;refine aX ?_;refine dB ?_;refine aX ?_;refine bN rfl (WD ZZ bD) ?_;rintro v20 vb _ tI ⟨⟨ao_,rfl,Z0⟩,rfl⟩;obtain⟨Gg,amx,rfl,_⟩:=Z0.shape;refine aX ?_;refine dB ?_;refine a_ ?_;refine fU ?_;refine aR ?_;refine dB ?_;refine aR ?_;refine bn ?_;have zv:ZX=0:=by omega
 have mF:zc bs:=by rcases ZY with h|h;exact h.2;omega
 exact⟨⟨c2 (fF bs t),_,_,rfl,Z0,.inl ⟨⟨mF,by omega⟩,rfl,rfl⟩⟩,rfl⟩
theorem G4{I:aa}{vs v:Value}{bs:List bx}{t:T}(ao:hh I vs bs)(ax:ba I v t)(fu:∀b∈bs,b.2.size≤500)(ar:t.size≤500):
    aS Tryz.prog 210 [vs,v] I [] (fun v ai δ'=>(∃e u r,v=.tuple #[r,.int .i64 e]∧ba ai r u∧uf bs t e u)∧δ'= []):=Qv ao ax fu ah
def ug(bs:List bx)(x:ak)(e:Int)(y:ak):Prop:=∃aQ k1,uf bs x.l aQ k1∧((aQ≠0∧e=aQ∧y=ck)∨(aQ=0∧∃aT nF,uf bs x.r aT nF∧((aT≠0∧e=aT∧y=ck)∨(aT=0∧e=0∧y=⟨x.neg,k1,nF⟩))))
theorem ug.eq{bs:List bx}{x y z:ak}{e f:Int}(h:ug bs x e y)(k:ug bs x f z):e=f∧y=z:=by
 obtain⟨aQ,k1,ab,h⟩:=h;obtain⟨f1,hp,c8,k⟩:=k;obtain⟨rfl,rfl⟩:=ab.eq c8;rcases h with⟨ae,rfl,rfl⟩|⟨ae,aT,nF,aF,h⟩<;>rcases k with⟨b6,rfl,rfl⟩|⟨b6,f2,r8,hs,k⟩
 exact⟨rfl,rfl⟩;exact absurd b6 ae;exact absurd ae b6;obtain⟨rfl,rfl⟩:=aF.eq hs;rcases h with⟨bb,rfl,rfl⟩|⟨bb,rfl,rfl⟩<;>rcases k with⟨rR,rfl,rfl⟩|⟨rR,rfl,rfl⟩
 exact⟨rfl,rfl⟩;exact absurd rR bb;exact absurd bb rR;exact⟨rfl,rfl⟩
theorem ug.size{bs:List bx}{x y:ak}{e:Int}(h:ug bs x e y):y.l.size≤1000000000∧y.r.size≤1000000000:=by
 have a2:jd.size≤400:=by decide
 obtain⟨aQ,k1,ab,⟨_,_,rfl⟩|⟨_,aT,nF,aF,⟨_,_,rfl⟩|⟨_,_,rfl⟩⟩⟩:=h;exact⟨Nat.le_trans a2 ah,Nat.le_trans a2 ah⟩;exact⟨Nat.le_trans a2 ah,Nat.le_trans a2 ah⟩;have:=ab.size;have:=aF.size;exact⟨by show k1.size≤_;omega,by show nF.size≤_;omega⟩
theorem apa{I:aa}{vs bz:Value}{bs:List bx}{x:ak}(ao:hh I vs bs)(bk:mm I bz x)(fu:∀b∈bs,b.2.size≤500)(ab:x.l.size≤1000000)(ae:x.r.size≤1000000):
 aS Tryz.prog 209 [vs,bz] I [] (fun v ai δ'=>(∃e y r,v=.tuple #[r,.int .i64 e]∧mm ai r y∧ug bs x e y)∧δ'= []):=by
 obtain⟨la,lc,ra,rc,rfl,aA,an⟩:=bk;obtain⟨iS,gj,rfl⟩:=ao.shape;refine a1 func209 ntmps209 fun aG=> ?_;refine go2 ?_;refine bw fun b3=> ?_;refine bh fun b4=> ?_;refine bg ?_;refine bN rfl (Qv (ao.mono aa.ag) (aA.mono aa.ag) fu ab) ?_;rintro sv mi _ oD ⟨⟨aQ,k1,nA,rfl,l5,ns⟩,rfl⟩;obtain⟨c3,cK,rfl,_⟩:=l5.shape;refine aR ?_;refine bh fun c1=> ?_;refine bg ?_;by_cases dj:aQ≠0;refine dn ?_;refine bn ?_;exact⟨⟨aQ,ck,_,rfl,⟨none,0,none,0,rfl,sn _,sn _⟩,aQ,k1,ns,.inl ⟨dj,rfl,rfl⟩⟩,rfl⟩;refine bA ?_;refine bN rfl (Qv (ao.mono aa.ag) (an.mono aa.ag) fu ae) ?_;rintro oE mQ _ lL ⟨⟨aT,nF,pq,rfl,qm,pf⟩,rfl⟩;obtain⟨ud,kC,rfl,_⟩:=qm.shape;refine aR ?_;refine bh fun b8=> ?_;refine bg ?_;by_cases cY:aT≠0;refine dn ?_;refine bn ?_;exact⟨⟨aT,ck,_,rfl,⟨none,0,none,0,rfl,sn _,sn _⟩,aQ,k1,ns,.inr ⟨by omega,aT,nF,pf,.inl ⟨cY,rfl,rfl⟩⟩⟩,rfl⟩;refine iR ?_;refine bn ?_;exact⟨⟨0,⟨x.neg,k1,nF⟩,_,rfl,⟨c3,cK,ud,kC,rfl,l5.mono aa.ag,qm.mono aa.ag⟩,aQ,k1,ns,.inr ⟨by omega,aT,nF,pf,.inr ⟨by omega,rfl,rfl⟩⟩⟩,rfl⟩
def iI(bs:List bx)(c:List ak)(e:Int)(ys:List ak):Prop:=
  (32<c.length∧e=2∧ys= [])∨(c.length≤32∧((∃(k:Nat) (hk:k<c.length) (zs:List ak) (y:ak),(zs.length=k∧∀i (h:i<k) (ae:i<zs.length),ug bs c[i] 0 zs[i])∧ug bs c[k] e y∧e≠0∧ys= [])∨(e=0∧ys.length=c.length∧∀i (h:i<c.length) (ae:i<ys.length),ug bs c[i] 0 ys[i])))
theorem iI.eq{bs:List bx}{c ys zs:List ak}{e f:Int}(h:iI bs c e ys)(k:iI bs c f zs):e=f∧ys=zs:=by
 rcases h with⟨ab,rfl,rfl⟩|⟨ab,h⟩<;>rcases k with⟨c8,rfl,rfl⟩|⟨c8,k⟩
 exact⟨rfl,rfl⟩;omega;omega;rcases h with⟨i,aj,us,y,⟨jq,hu⟩,aw,he,rfl⟩|⟨rfl,aA,cE⟩<;>rcases k with⟨j,au,ws,z,⟨qO,hw⟩,a2,a7,rfl⟩|⟨rfl,hm,Z1⟩
 rcases Nat.lt_trichotomy i j with q|q|q
 exact absurd ((aw.eq (hw i q ah)).1) he;subst q;exact⟨(aw.eq a2).1,rfl⟩;exact absurd ((a2.eq (hu j q ah)).1) a7;exact absurd ((aw.eq (Z1 i aj ah)).1) he;exact absurd ((a2.eq (cE j au ah)).1) a7;exact⟨rfl,List.ext_getElem ah fun i ab ae=>((cE i ah ab).eq (Z1 i ah ae)).2⟩
theorem iI.jx{bs:List bx}{c ys:List ak}{e:Int}(h:iI bs c e ys):hK ys:=by
 rcases h with⟨_,_,rfl⟩|⟨_,⟨_,_,_,_,_,_,_,rfl⟩|⟨_,aA,cE⟩⟩
 intro x af;cases af;intro x af;cases af;intro x af;obtain⟨i,aj,rfl⟩:=List.getElem_of_mem af;exact(cE i ah aj).size
theorem Z2{I:aa}{vs v:Value}{bs:List bx}{c:List ak}(ao:hh I vs bs)(ax:cf I v c)(fu:∀b∈bs,b.2.size≤500)(bD:∀x∈c,x.l.size≤1000000∧x.r.size≤1000000):
 aS Tryz.prog 175 [vs,v] I [] (fun v ai δ'=>(∃e ys r,v=.tuple #[r,.int .i64 e]∧cf ai r ys∧iI bs c e ys)∧δ'= []):=by
 obtain⟨iS,gj,rfl⟩:=ao.shape;obtain⟨ad,bu,xs,rfl,aq,al,ep,bm⟩:=ax;refine a1 func175 ntmps175 fun aG=> ?_;refine bA ?_;by_cases vp:32<c.length;refine aI (yD rfl rfl rfl ah) ?_;refine bA ?_;refine bn ?_;exact⟨⟨2,[],_,rfl,dK.nil,.inl ⟨vp,rfl,rfl⟩⟩,rfl⟩;refine aI (l2 rfl rfl rfl ah) ?_;refine ic ?_;refine bJ.view (View.gh 68 5) ?_;refine ek (fun m aL ai δ'=>∃(k:Nat) (A:Option Addr) (cJ:Nat) (zs:List Value) (ys:List ak),m=c.length-k∧k≤c.length∧aL= [(0,.slice iS bs.length gj),(6,.slice A ys.length cJ),(14,.slice ad c.length bu),(15,.int .i64 c.length),(16,.int .i64 k)]∧I.le ai∧δ'= [pM A cJ ys.length zs]∧bd fG ai zs ys∧ys.length=k∧∀i (h:i<k) (ae:i<ys.length) (aF:i<c.length),ug bs c[i] 0 ys[i]) c.length [(0,.slice iS bs.length gj),(6,.slice none 0 0),(14,.slice ad c.length bu),(15,.int .i64 c.length),(16,.int .i64 (0:Nat))] ⟨0,none,0,[],[],rfl,Nat.zero_le _,rfl,aa.le_refl _,rfl,rfl,rfl,fun i h=>by omega⟩ ⟨rfl,rfl,rfl,rfl,rfl,trivial⟩ ?_;rintro m _ I0 _ ⟨k,A,cJ,zs,ys,rfl,hk,rfl,bO,rfl,ky,mq,cE⟩;refine aZ ?_;refine bF rfl (fun bq=> ?_) (fun bq=> ?_);have av:k<c.length:=by simpa using bq
 obtain⟨vs,⟨la,lc,ra,rc,rfl,aA,an⟩,aW⟩:=bm.fj ep av;have db:=aW.isSome;have hj:=bD _ (List.getElem_mem av);refine aP ?_;refine aI (cC (aW.mono bO)) ?_;refine bh fun b8=> ?_;refine aP ?_;refine bN rfl (apa (x:=c[k]) (ao.mono aa.ag) ⟨la,lc,ra,rc,rfl,aA.mono aa.ag,an.mono aa.ag⟩ fu hj.1 hj.2) ?_;rintro v23 pJ _ pK ⟨⟨e,y,ayW,rfl,apb,bQ⟩,rfl⟩;obtain⟨iZ,jv,hV,hW,rfl,oS,apc⟩:=apb;refine aR ?_;refine bh fun hH=> ?_;refine bg ?_;by_cases ka:e≠0;refine iR ?_;refine bn ?_;exact⟨⟨e,[],_,rfl,dK.nil,.inr ⟨by omega,.inl ⟨k,av,ys,y,⟨mq,fun i h ae=>cE i h ae ah⟩,bQ,ka,rfl⟩⟩⟩,rfl⟩;have he:e=0:=Classical.not_not.1 ka;subst he;refine br ?_;refine c_ fun ayX=> ?_;refine gl fun a32 Gj=> ?_;have fw:ys.length+1=(ys++ [y]).length:=by simp
 refine bg ?_;refine bf.view ((View.drop aO.here).trans ((View.drop aO.here).trans (View.drop aO.here))) ?_;refine cV (c.length-(k+1)) [(0,.slice iS bs.length gj),(6,.slice a32 (ys.length+1) Gj),(14,.slice ad c.length bu),(15,.int .i64 c.length),(16,.int .i64 (k+1:Nat))] ah ⟨k+1,a32,Gj,zs++hv y iZ jv hV hW,ys++ [y],rfl,av,by rw[fw],aa.ag,by simp only[pM,←fw];rfl,(ky.mono aa.ag).app (bd.single ⟨iZ,jv,hV,hW,rfl,oS.mono aa.ag,apc.mono aa.ag⟩),by simp;exact mq,fun i h ae aF=> ?_⟩ ⟨rfl,rfl,rfl,rfl,rfl,trivial⟩;rcases Nat.lt_or_ge i k with q|q
 rw[List.getElem_append_left ah];exact cE i q ah aF;have e:i=k:=by omega
 subst e;rw[List.getElem_append_right ah];simp only[mq,Nat.sub_self,List.getElem_cons_zero];exact bQ;have bV:k=c.length:=by simp at bq;omega
 refine aP ?_;refine aK.dO aO.here ?_;rintro qt apd ape py aC apf apg Qw;cases aC;refine aZ ?_;refine bn ?_;exact⟨⟨0,ys,_,rfl,⟨_,_,_,rfl,apf,by omega,Qw,ky.mono py⟩,.inr ⟨by omega,.inr ⟨rfl,by omega,fun i h ae=>cE i ah ae h⟩⟩⟩,rfl⟩
theorem K_{I:aa}{vs v:Value}{bs:List bx}{c:List ak}(ao:hh I vs bs)(ax:cf I v c)(fu:∀b∈bs,b.2.size≤500)(bD:∀x∈c,x.l.size≤500∧x.r.size≤500):
    aS Tryz.prog 175 [vs,v] I [] (fun v ai δ'=>(∃e ys r,v=.tuple #[r,.int .i64 e]∧cf ai r ys∧iI bs c e ys)∧δ'= []):=Z2 ao ax fu fun x af=>by have:=bD x af;omega
theorem aph{gs:List aE}{c:List ak}(h:bS gs c=0){x y:ak}(af:x∈c)(aw:y∈c):tQ gs x y=0:=by
 unfold tQ;rw[if_neg (by rw[(xQ h).2.2 x af];simp)];exact(xQ h).2.2 y aw
def pU(gs:List aE)(x y:ak)(s:Bool):Bool:= !decide (lM gs (gM x) (gM y)=1)&& !(s&&decide (lM gs (gM x) (gM y)=0))
def pV(gs:List aE)(c:List ak)(i:Nat)(s:Bool):Bool:=(List.range c.length).all fun k=>decide (k=i)||pU gs (c.getD k ck) (c.getD i ck) s
theorem La{gs:List aE}{c:List ak}{i:Nat}{s:Bool}(aj:i<c.length):pV gs c i s=true↔∀k (h:k<c.length),k=i∨pU gs c[k] c[i] s=true:=by
 unfold pV;rw[List.all_eq_true];constructor;intro h k hk;have:=h k (List.mem_range.2 hk);rw[Bool.or_eq_true,decide_eq_true_eq]at this;rw[List.getD_eq_getElem?_getD,List.getD_eq_getElem?_getD,List.getElem?_eq_getElem hk,List.getElem?_eq_getElem aj]at this;exact this;intro h k hk;have hk:=List.mem_range.1 hk;rw[Bool.or_eq_true,decide_eq_true_eq];rw[List.getD_eq_getElem?_getD,List.getD_eq_getElem?_getD,List.getElem?_eq_getElem hk,List.getElem?_eq_getElem aj];exact h k hk
theorem api{I:aa}{b4 b5 c1 dp:Nat}{vg:Value}{ad:Option Addr}{bu:Nat}{gs:List aE}{c:List ak}{s:Bool}{i k:Nat}(aM:cP I vg gs)(ax:cf I (.slice ad c.length bu) c)(iF:hK c)(iN:bS gs c=0)(aj:i<c.length)(hk:k<c.length):
 aS Tryz.prog 231 [.int .i64 k,.pointer (some ⟨b4,0,none⟩),.pointer (some ⟨b5,0,none⟩),.pointer (some ⟨c1,0,none⟩),.pointer (some ⟨dp,0,none⟩)] I [.box dp 4 [.bool s],.box c1 3 [.int .i64 i],.box b5 36 [.slice ad c.length bu],.box b4 22 [vg]]
 (fun v _ δ'=>v=.bool (pU gs c[k] c[i] s)∧δ'= [.box dp 4 [.bool s],.box c1 3 [.int .i64 i],.box b5 36 [.slice ad c.length bu],.box b4 22 [vg]]):=by
 obtain⟨_,_,xs,aC,aq,al,ep,bm⟩:=id ax;cases aC;obtain⟨Z3,⟨la,lc,ra,rc,rfl,iy,u6⟩,ue⟩:=bm.fj ep hk;obtain⟨oQ,⟨iZ,jv,hV,hW,rfl,e0,tj⟩,mr⟩:=bm.fj ep aj;have db:=ue.isSome;have hj:=iF.at hk;have BD:=iF.at aj;refine a1 func231 ntmps231 fun aG=> ?_;refine aZ ?_;refine g5 [0,2,4,6,8,10,12,14,16,19,20,22,24,27,29] ?_;refine a8 ?_;refine dg rfl (cC (ue)) ?_;refine aR ?_;refine dg rfl (cC (mr)) ?_;refine aX ?_;refine bN rfl (X2 (x:=c[k]) (y:=c[i]) aM ⟨la,lc,ra,rc,rfl,iy,u6⟩ ⟨iZ,jv,hV,hW,rfl,e0,tj⟩ hj.1 hj.2 BD.1 BD.2) ?_;rintro tD sr _ wo ⟨rfl,rfl⟩;rw[aph iN (List.getElem_mem hk) (List.getElem_mem aj),if_pos rfl];refine bW ?_;refine dB ?_;refine bg ?_;by_cases mX:lM gs (gM c[k]) (gM c[i])≠1;refine aR ?_;by_cases ch:s=true;subst ch;refine aR ?_;by_cases hJ:lM gs (gM c[k]) (gM c[i])=0;refine bg ?_;refine dY ?_;exact⟨by rw[show pU gs c[k] c[i] true=false from by simp[pU,hJ]];rfl,rfl⟩;refine bg ?_;refine dY ?_;exact⟨by rw[show pU gs c[k] c[i] true=true from by simp[pU,mX,hJ]];rfl,rfl⟩;have apj:s=false:=by simpa using ch
 subst apj;refine bA ?_;refine dY ?_;exact⟨by rw[show pU gs c[k] c[i] false=true from by simp[pU,mX]];rfl,rfl⟩;refine dn ?_;refine dY ?_;exact⟨by have e:lM gs (gM c[k]) (gM c[i])=1:=Classical.not_not.1 mX;rw[show pU gs c[k] c[i] s=false from by simp[pU,e]];rfl,rfl⟩
theorem Z4{I:aa}{vg bz:Value}{gs:List aE}{c:List ak}{s:Bool}{i:Nat}(aM:cP I vg gs)(ax:cf I bz c)(iF:hK c)(iN:bS gs c=0)(aj:i<c.length):
 aS Tryz.prog 208 [vg,bz,.int .i64 i,.bool s] I [] (fun v _ δ'=>v=.bool (pV gs c i s)∧δ'= []):=by
 obtain⟨cQ,gc,Pp⟩:=aM.shape;subst Pp;obtain⟨ad,bu,bM⟩:=dK.shape ax;subst bM;have al:=ax.small;refine a1 func208 ntmps208 fun aG=> ?_;refine go2 ?_;refine bw fun b4=> ?_;refine bw fun b5=> ?_;refine bw fun c1=> ?_;refine bw fun dp=> ?_;refine iR ?_;refine ek (fun m aL ai δ'=>∃k:Nat,m=c.length-k∧k≤c.length∧aL= [(6,.pointer (some ⟨c1,0,none⟩)),(9,.func (.func 231) #[] #[.pointer (some ⟨b4,0,none⟩),.pointer (some ⟨b5,0,none⟩),.pointer (some ⟨c1,0,none⟩),.pointer (some ⟨dp,0,none⟩)]),(13,.int .i64 c.length),(14,.int .i64 k)]∧I.le ai∧δ'= [.box dp 4 [.bool s],.box c1 3 [.int .i64 i],.box b5 36 [.slice ad c.length bu],.box b4 22 [.slice cQ gs.length gc]]∧∀j (h:j<c.length),j<k→j=i∨pU gs c[j] c[i] s=true) c.length [(6,.pointer (some ⟨c1,0,none⟩)),(9,.func (.func 231) #[] #[.pointer (some ⟨b4,0,none⟩),.pointer (some ⟨b5,0,none⟩),.pointer (some ⟨c1,0,none⟩),.pointer (some ⟨dp,0,none⟩)]),(13,.int .i64 c.length),(14,.int .i64 (0:Nat))] ⟨0,rfl,Nat.zero_le _,rfl,aa.le_refl _,rfl,fun j _ h=>by omega⟩ ⟨rfl,rfl,rfl,rfl,trivial⟩ ?_;rintro m _ I0 _ ⟨k,rfl,hk,rfl,bO,rfl,cE⟩;refine aZ ?_;refine bF rfl (fun aV=> ?_) (fun aV=> ?_);have av:k<c.length:=by simpa using aV
 refine dn ?_;by_cases kE:k≠i;refine a8 ?_;refine cZ ?_;refine e8 rfl rfl rfl ((cR.fq (args:= [_]) (caps:= [_,_,_,_]) ajd (api (aM.mono bO) (ax.mono bO) iF iN aj av))) df.all ?_;rintro v23 pJ _ pK ⟨rfl,rfl⟩;rw[List.append_nil];by_cases hu:pU gs c[k] c[i] s=true;rw[hu];refine bW ?_;refine cV (c.length-(k+1)) [(6,.pointer (some ⟨c1,0,none⟩)),(9,.func (.func 231) #[] #[.pointer (some ⟨b4,0,none⟩),.pointer (some ⟨b5,0,none⟩),.pointer (some ⟨c1,0,none⟩),.pointer (some ⟨dp,0,none⟩)]),(13,.int .i64 c.length),(14,.int .i64 (k+1:Nat))] ah ⟨k+1,rfl,av,rfl,aa.ag,rfl,fun j h au=> ?_⟩ ⟨rfl,rfl,rfl,rfl,trivial⟩;rcases Nat.lt_or_ge j k with q|q
 exact cE j h q;right;have e:j=k:=by omega
 subst e;exact hu;have g4:pU gs c[k] c[i] s=false:=by simpa using hu
 rw[g4];refine fT ?_;refine bn ?_;exact⟨by rw[show pV gs c i s=false from by cases h:pV gs c i s;rfl;rcases(La aj).1 h k av with q|q;exact absurd q kE;exact absurd q hu];rfl,rfl⟩;refine fx ?_;refine cV (c.length-(k+1)) [(6,.pointer (some ⟨c1,0,none⟩)),(9,.func (.func 231) #[] #[.pointer (some ⟨b4,0,none⟩),.pointer (some ⟨b5,0,none⟩),.pointer (some ⟨c1,0,none⟩),.pointer (some ⟨dp,0,none⟩)]),(13,.int .i64 c.length),(14,.int .i64 (k+1:Nat))] ah ⟨k+1,rfl,av,rfl,aa.ag,rfl,fun j h au=> ?_⟩ ⟨rfl,rfl,rfl,rfl,trivial⟩;rcases Nat.lt_or_ge j k with q|q
 exact cE j h q;left;have:=Classical.not_not.1 kE;omega;have bV:k=c.length:=by simp at aV;omega
 refine bA ?_;refine bn ?_;exact⟨by rw[(La aj).2 fun j h=>cE j h ah];rfl,rfl⟩
def sR(gs:List aE)(c:List ak)(i:Int):Int:=if bS gs c≠0 then bS gs c else if i<0∨(c.length:Int)≤i then 1 else 0
def x4(gs:List aE)(c:List ak)(i:Int)(s:Bool):Bool:=if sR gs c i=0 then pV gs c i.toNat s else false
theorem Z5{I:aa}{vg bz:Value}{gs:List aE}{c:List ak}{s:Bool}{i:Int}(aM:cP I vg gs)(ax:cf I bz c)(iF:hK c):
 aS Tryz.prog 176 [vg,bz,.int .i64 i,.bool s] I [] (fun v _ δ'=>v=.tuple #[.bool (x4 gs c i s),.int .i64 (sR gs c i)]∧δ'= []):=by
 obtain⟨ad,bu,bM⟩:=dK.shape ax;subst bM;have al:=ax.small;refine a1 func176 ntmps176 fun aG=> ?_;refine bA ?_;refine bN rfl (rJ aM ax iF) ?_;rintro sv mi _ oD ⟨rfl,rfl⟩;refine aZ ?_;by_cases lK:bS gs c≠0;have he:sR gs c i=bS gs c:=if_pos lK;refine cT ?_;refine bn ?_;exact⟨by unfold x4;rw[he,if_neg lK];rfl,rfl⟩;have aq:bS gs c=0:=Classical.not_not.1 lK;refine b_ ?_;by_cases qH:i<0;have he:sR gs c i=1:=by unfold sR;rw[if_neg lK,if_pos (.inl qH)]
 refine iR ?_;refine bn ?_;exact⟨by unfold x4;rw[he,if_neg (by decide)];rfl,rfl⟩;refine a_ ?_;by_cases vf:(c.length:Int)≤i;have he:sR gs c i=1:=by unfold sR;rw[if_neg lK,if_pos (.inr vf)]
 refine cT ?_;refine bn ?_;exact⟨by unfold x4;rw[he,if_neg (by decide)];rfl,rfl⟩;have he:sR gs c i=0:=by unfold sR;rw[if_neg lK,if_neg (fun h=>by rcases h with h|h;exact qH h;exact vf h)]
 obtain⟨n,aD⟩:=Int.eq_ofNat_of_zero_le (show 0≤i by omega);subst aD;refine cT ?_;refine bN rfl (Z4 (i:=n) (aM.mono aa.ag) (ax.mono aa.ag) iF aq ah) ?_;rintro v29 tt _ px ⟨rfl,rfl⟩;refine a_ ?_;refine bn ?_;exact⟨by unfold x4;rw[he,if_pos rfl];rfl,rfl⟩
end
def hX(bs:List bx)(v:Int):T:=(cd bs v).getD (DM v)
theorem sS{t:T}(h:c2 t=0):oM t=false:=by
 unfold c2 at h;split at h;cases h;split at h;cases h;split at h;cases h;rename_i q;unfold oM;simpa using q
theorem Z6{h:Int}{ts:List T}(al:oM (.mk h ts)=false):(h<0→ts= [])∧-256≤h∧h≤1023∧ts.length≤8∧∀t∈ts,oM t=false:=by
 rw[KI,Bool.or_eq_false_iff]at al;have aD:¬((h<0∧0<ts.length)∨h< -256∨1023<h∨8<ts.length):=fun q=>by rw[PJ.2 q]at al;cases al.1
 refine⟨fun q=> ?_,by omega,by omega,by omega,fun t ar=> ?_⟩
 cases ts with
 |nil=>rfl
 |cons x r=>exact absurd (.inl ⟨q,by simp⟩) aD
 have:=List.any_eq_false.1 al.2 t ar;simpa using this
mutual
theorem w4(bs:List bx):∀t:T,oM t=false→bI (hX bs) t=fF bs t
  |.mk h us,al=>by obtain⟨ab,_,_,_,ae⟩:=Z6 al;rw[pR];unfold fF;simp only[iD];by_cases q:h<0;rw[if_pos q,if_pos q,ab q];unfold nh hX DM;simp only[T.head];congr 2;omega;rw[if_neg q,if_neg q,Z7 bs us ae]
theorem Z7(bs:List bx):∀ts:List T,(∀t∈ts,oM t=false)→fN (hX bs) ts=gL (nh bs) ts
  | [],_=>rfl
  |t::r,al=>by have ab:=w4 bs t (al t (List.mem_cons_self ..));have ae:=Z7 bs r fun u hu=>al u (List.mem_cons_of_mem _ hu);unfold fF at ab;rw[jQ]at ae⊢;rw[List.map_cons,ab,ae];rfl
end
theorem BF:∀(n:Nat) (l:List Int),l.Nodup→(∀v∈l,0≤v∧v<n)→l.length≤n
  |0,l,_,h=>by
   cases l with
   |nil=>simp
   |cons x r=>have:=h x (List.mem_cons_self ..);omega
  |n+1,l,aD,h=>by
   have ab:=BF n (l.erase n) (aD.erase _) fun v ax=>by obtain⟨aQ,aT⟩:=aD.mem_erase_iff.1 ax;have:=h v aT;omega
   have ae:l.length≤(l.erase (n:Int)).length+1:=by rw[List.length_erase];split<;>omega
   omega
theorem apk{aN:List Int}(v:Int)(h:aN.Nodup):(fo aN v).Nodup:=by
 unfold fo;split;exact h;rename_i q;exact List.nodup_append.2 ⟨h,by simp,fun a bk b al=>by simp at al;subst al;exact fun e=>q (e▸bk)⟩
theorem Z8:∀(l acc:List Int),acc.Nodup→(fM acc l).Nodup
  | [],acc,h=>h
  |x::r,acc,h=>Z8 r (fo acc x) (apk x h)
theorem Z9:∀(ts:List T) (acc:List Int),acc.Nodup→(fB acc ts).Nodup
  | [],acc,h=>by simpa[fB]using h
  |t::r,acc,h=>by simp only[fB];exact Z9 r _ (Z8 _ _ h)
theorem Z_:∀{aN:List Int} {v:Int},v∈aN→aN.getD (numOf aN v) 0=v
  |x::r,v,h=>by simp only[numOf];by_cases e:x=v;rw[if_pos e];exact e;rw[if_neg e];exact Z_ (List.mem_of_ne_of_mem (fun q=>e q.symm) h)
def x5(aN:List Int)(v:Int):T:=.mk (-1-aN.getD v.toNat 0) []
mutual
theorem aaa{aN:List Int}(aA:aN.length≤256):∀t:T,oM t=false→(∀k∈cq t,k<0→-1-k∈aN)→(fF (h7 aN) t).size=t.size∧pz (fF (h7 aN) t)=pz t∧oM (fF (h7 aN) t)=false∧bI (x5 aN) (fF (h7 aN) t)=t
  |.mk h us,al,hk=>by
   obtain⟨ab,_,bK,nf,ae⟩:=Z6 al;rw[ji]at hk;unfold fF;simp only[iD];by_cases q:h<0;rw[if_pos q,ab q];have hm:-1-h∈aN:=hk h (List.mem_cons_self ..) q;have e:nh (h7 aN) (.mk h [])=.mk (-1-(numOf aN (-1-h):Int)) []:=by unfold nh;simp only[T.head];rw[G3,if_pos hm];rfl
   have av:=O8 hm;rw[e];refine⟨rfl,rfl,?_,?_⟩;rw[KI,Bool.or_eq_false_iff];refine⟨?_,rfl⟩;cases aC:d_ (1,T.mk (-1-(numOf aN (-1-h):Int)) []);rfl;rw[PJ]at aC;simp only[List.length_nil]at aC;omega;rw[pR,if_pos ah];unfold x5;have aT:(-1-(-1-(numOf aN (-1-h):Int))).toNat=numOf aN (-1-h):=by omega
   rw[aT,Z_ hm];congr 1;omega;rw[if_neg q];obtain⟨aQ,aT,dA,oh,zH⟩:=aab aA us ae fun k hm=>hk k (List.mem_cons_of_mem _ hm);refine⟨by simp only[T.size,aQ],by simp only[pz,aT],?_,?_⟩;rw[KI,Bool.or_eq_false_iff];refine⟨?_,List.any_eq_false.2 fun t ar=>by rw[dA t ar];simp⟩;cases aC:d_ (1,T.mk h (gL (nh (h7 aN)) us));rfl;rw[PJ,zH]at aC;omega;rw[pR,if_neg q,oh]
theorem aab{aN:List Int}(aA:aN.length≤256):∀ts:List T,(∀t∈ts,oM t=false)→(∀k∈ts.flatMap cq,k<0→-1-k∈aN)→bG (gL (nh (h7 aN)) ts)=bG ts∧qv (gL (nh (h7 aN)) ts)=qv ts∧(∀t∈gL (nh (h7 aN)) ts,oM t=false)∧fN (x5 aN) (gL (nh (h7 aN)) ts)=ts∧(gL (nh (h7 aN)) ts).length=ts.length
  | [],_,_=>⟨rfl,rfl,fun t h=>(by cases h),rfl,rfl⟩
  |t::r,al,hk=>by
   rw[List.flatMap_cons]at hk;obtain⟨f1,f2,f3,f4⟩:=aaa aA t (al t (List.mem_cons_self ..)) fun k hm=>hk k (List.mem_append_left _ hm);obtain⟨aQ,aT,dA,oh,zH⟩:=aab aA r (fun u hu=>al u (List.mem_cons_of_mem _ hu)) fun k hm=>hk k (List.mem_append_right _ hm);unfold fF at f1 f2 f3 f4;simp only[gL];refine⟨by simp only[bG,f1,aQ],by simp only[qv,f2,aT],fun u hu=> ?_,?_,by simp only[List.length_cons,zH]⟩;rcases List.mem_cons.1 hu with rfl|hu
   exact f3;exact dA u hu;rw[jQ]at oh⊢;rw[List.map_cons,f4,oh]
end
theorem apl{t u:T}(h:c2 t=0)(ab:u.size=t.size)(ae:pz u=pz t)(aF:oM u=false):c2 u=0:=by
 unfold c2 at h⊢;rw[ab,ae];split at h;cases h;rename_i dj;split at h;cases h;rename_i cY;rw[if_neg dj,if_neg cY,if_neg];unfold oM at aF;rw[aF];simp
theorem aac{c:List ak}{t:T}(ar:t∈bE c):∀k∈cq t,k<0→-1-k∈fB [] (bE c):=fun k hk aB=>
  (K8 _ _ _).2 (.inr ⟨k,List.mem_flatMap.2 ⟨t,ar,hk⟩,aB,rfl⟩)
section
variable {c:List ak} (aq:(bE c).any c5=false)
include aq
theorem apm:(fB [] (bE c)).length≤256:=by
 refine BF 256 _ (Z9 _ _ List.nodup_nil) fun v ax=> ?_;have:=K0 aq v ((K9 c v).1 ax);exact⟨this.1,by omega⟩
theorem G5:eh c=c.map fun x=>⟨x.neg,fF (h7 (fB [] (bE c))) x.l,fF (h7 (fB [] (bE c))) x.r⟩:=(ao7 aq).symm
theorem Lb{x:ak}(af:x∈c):(∀t,t=x.l∨t=x.r→c2 (fF (h7 (fB [] (bE c))) t)=0∧bI (x5 (fB [] (bE c))) (fF (h7 (fB [] (bE c))) t)=t):=fun t ar=>by have hm:t∈bE c:=List.mem_flatMap.2 ⟨x,af,by rcases ar with rfl|rfl<;>simp⟩;have cH:=ZU aq t hm;obtain⟨aQ,aT,dA,oh⟩:=aaa (apm aq) t (sS cH) (aac hm);exact⟨apl cH aQ aT dA,oh⟩
end
theorem Qx{bs:List bx}{x y:ak}(h:ug bs x 0 y):KY x∧KY y∧y=⟨x.neg,fF bs x.l,fF bs x.r⟩:=by
 obtain⟨aQ,k1,ab,ae⟩:=h;rcases ae with⟨a,b,_⟩|⟨a,aT,nF,aF,bb⟩
 exact absurd b.symm a;rcases bb with⟨b,d,_⟩|⟨b,_,rfl⟩
 exact absurd d.symm b;subst a;subst b;rcases ab with⟨⟨_,c8⟩,b6,hs⟩|⟨_,k,_⟩
 rcases aF with⟨⟨_,AK⟩,j0,aad⟩|⟨_,m,_⟩
 rw[if_pos b6.symm]at hs;rw[if_pos j0.symm]at aad;subst hs;subst aad;exact⟨⟨c8,AK⟩,⟨b6.symm,j0.symm⟩,rfl⟩;cases m;cases k
def ki(γ:Int→G)(θ:Int→T)(v:Int):G:=if v<0 then γ v else inst γ (θ v)
theorem qP(γ:Int→G)(θ:Int→T)(t:T):inst γ (bI θ t)=inst (ki γ θ) t:=by
 rw[DG];exact xW t fun k _ aB=>by unfold ki;rw[if_neg ah]
theorem G6{gs:List aE}{γ:Int→G}(bl:dw gs γ){θ:Int→T}(h:∀v,0≤v→mU gs (inst γ (θ v))):dw gs (ki γ θ):=fun v=>by unfold ki;split;exact bl v;exact h v ah
theorem apn(c acc:List ak):∀x∈acc++c,(x.neg&&rI x)=true∨∃y∈hl acc c,jO x y=true:=by
 induction c generalizing acc with
 |nil=>intro x af;simp only[List.append_nil]at af;exact .inr ⟨x,af,Xz x⟩
 |cons z c aY=>
  intro x af;have aH:hl acc (z::c)=hl (if oJ acc z=true then acc else acc++ [z]) c:=rfl;rw[aH];by_cases q:oJ acc z=true;rw[if_pos q];rcases List.mem_append.1 af with af|af
  exact aY acc x (List.mem_append_left _ af);rcases List.mem_cons.1 af with rfl|af
  unfold oJ at q;rw[Bool.or_eq_true]at q;rcases q with q|q
  obtain⟨m,hm,ao⟩:=List.any_eq_true.1 q;rcases aY acc m (List.mem_append_left _ hm)with h|⟨y,aw,h⟩
  left;rw[aml ao];exact h;exact .inr ⟨y,aw,XA ao h⟩;exact .inl q;exact aY acc x (List.mem_append_right _ af);rw[if_neg q];refine aY (acc++ [z]) x ?_;rcases List.mem_append.1 af with af|af
  exact List.mem_append_left _ (List.mem_append_left _ af);rcases List.mem_cons.1 af with rfl|af
  exact List.mem_append_left _ (List.mem_append_right _ (by simp));exact List.mem_append_right _ af
theorem Lc(c acc:List ak):∃d,hl acc c=acc++d∧d.Sublist c:=by
 induction c generalizing acc with
 |nil=>exact⟨[],by simp[hl],List.Sublist.refl _⟩
 |cons z c aY=>
   have aH:hl acc (z::c)=hl (if oJ acc z=true then acc else acc++ [z]) c:=rfl
   rw[aH]
   by_cases q:oJ acc z=true
   · rw[if_pos q]
     obtain⟨d,ab,ae⟩:=aY acc
     exact⟨d,ab,ae.cons _⟩
   · rw[if_neg q]
     obtain⟨d,ab,ae⟩:=aY (acc++ [z])
     exact⟨z::d,by rw[ab];simp,ae.cons_cons _⟩
theorem Qy{α:Type}:∀{l m:List α},l.Sublist m→∃e,m.Perm (l++e)
  |_,_,.slnil=>⟨[],List.Perm.refl _⟩
  |l,_,.cons a h=>by obtain⟨e,he⟩:=Qy h;exact⟨a::e,(he.cons a).trans List.perm_middle.symm⟩
  |_,_,.cons_cons a h=>by obtain⟨e,he⟩:=Qy h;exact⟨e,he.cons a⟩
theorem aae{w:Nat→Nat}{γ:Int→G}{c d:List ak}(h:d.Sublist c):kI w (bC w γ d) (bC w γ c):=by
 obtain⟨e,he⟩:=Qy h;refine Yw (e:=bC w γ e) ?_;have:=he.map (cL w γ);rw[List.map_append]at this;exact this
theorem Qz{w:Nat→Nat}{γ:Int→G}(c:List ak):kI w (bC w γ (eH c)) (bC w γ c):=by
 obtain⟨d,ab,ae⟩:=Lc c [];have:eH c=d:=by unfold eH;rw[ab];rfl
 rw[this];exact aae ae
theorem G7{E:G→G→Prop}{w:Nat→Nat}{γ:Int→G}{c:List ak}:gY E (bC w γ c)↔∃x∈c,sK E (cL w γ x):=by
 constructor;rintro⟨y,aw,h⟩;obtain⟨x,af,rfl⟩:=List.mem_map.1 aw;exact⟨x,af,h⟩;rintro⟨x,af,h⟩;exact⟨_,List.mem_map_of_mem af,h⟩
theorem Ld{E:G→G→Prop}(bt:iG E){w:Nat→Nat}{γ:Int→G}(c:List ak):gY E (bC w γ (eH c))↔gY E (bC w γ c):=by
 rw[G7,G7];constructor;rintro⟨x,af,h⟩;obtain⟨d,ab,ae⟩:=Lc c [];have:eH c=d:=by unfold eH;rw[ab];rfl
 exact⟨x,ae.subset (this▸af),h⟩;rintro⟨x,af,h⟩;rcases apn c [] x (by simpa using af)with q|⟨y,aw,q⟩
 exfalso;rw[Bool.and_eq_true]at q;unfold cL at h;rw[kJ bt,if_pos q.1]at h;have e:x.l=x.r:=by have:=q.2;unfold rI at this;exact of_decide_eq_true this
 rw[e]at h;exact h (bt.rfl _);exact⟨y,aw,by rw[←Yu q];exact h⟩
theorem BG{gs:List aE}{c:List ak}(aq:(bE c).any c5=false):
 (∀γ,dw gs γ→∃γ',dw gs γ'∧bC (aU gs) γ' (eh c)=bC (aU gs) γ c)∧(∀γ',dw gs γ'→∃γ,dw gs γ∧bC (aU gs) γ' (eh c)=bC (aU gs) γ c):=by
 have an:=GX aq;constructor;intro γ bl;refine⟨ki γ (x5 (fB [] (bE c))),G6 bl fun v _=> ?_,?_⟩;unfold x5;rw[lg]
 have Ur:0≤(fB [] (bE c)).getD v.toNat 0:=by
  rw[List.getD_eq_getElem?_getD]
  cases q:(fB [] (bE c))[v.toNat]? with
  |none=>simp
  |some y=>
    have:=K0 aq y ((K9 c y).1 (List.mem_of_getElem? q))
    simp only[Option.getD_some];omega
 rw[if_pos ah,show-1-(-1-(fB [] (bE c)).getD v.toNat 0)=(fB [] (bE c)).getD v.toNat 0 by omega];exact bl _;unfold bC;rw[G5 aq,List.map_map];refine List.map_congr_left fun x af=> ?_;have al:=Lb aq af;show cL _ _ ⟨x.neg,_,_⟩=_;unfold cL;simp only;rw[←qP,←qP,(al _ (.inl rfl)).2,(al _ (.inr rfl)).2];intro γ' kj;refine⟨ki γ' (hX (h7 (fB [] (bE c)))),G6 kj fun v ax=> ?_,?_⟩;unfold hX DM;rw[G3];split;simp only[Option.getD_some];rw[lg,if_pos ah];exact kj _;simp only[Option.getD_none];rw[lg,if_pos ah];exact kj _;unfold bC;rw[G5 aq,List.map_map];refine List.map_congr_left fun x af=> ?_;have af:=an _ af;show cL _ _ ⟨x.neg,_,_⟩=_;unfold cL;simp only;rw[←qP,←qP,w4 _ _ (sS af.1),w4 _ _ (sS af.2)]
theorem Le{gs:List aE}{d:List ak}(aq:(bE (eH d)).any c5=false){γ:Int→G}(bl:dw gs γ):eT gs (fun C=>C=eh (eH d)) (bC (aU gs) γ d):=by
 obtain⟨γ',ab,ae⟩:=(BG (gs:=gs) aq).1 γ bl;refine eT.of (d:=bC (aU gs) γ (eH d)) ?_ (Qz d) fun E bt h=>(Ld bt d).1 h;rw[←ae];exact eT.self (S:=fun C=>C=eh (eH d)) rfl ab
theorem Lf{gs:List aE}{d:List ak}(aq:(bE (eH d)).any c5=false){E:G→G→Prop}(bt:iG E)(h:∀γ,dw gs γ→gY E (bC (aU gs) γ d)):∀γ,dw gs γ→gY E (bC (aU gs) γ (eh (eH d))):=fun γ' kj=>by obtain⟨γ,ab,ae⟩:=(BG (gs:=gs) aq).2 γ' kj;rw[ae];exact(Ld bt d).2 (h γ ab)
section
attribute [local irreducible] aK bf bJ
def rS(gs:List aE)(x:ak):Int:=IntKind.i64.wrap ((if fX gs x.l=0 then dq gs x.l else 0)+(if fX gs x.r=0 then dq gs x.r else 0))
def hz(gs:List aE)(c:List ak)(how:Int):Nat→Option Nat
  |0=>none
  |k+1=>if(c.getD k ck).neg=false∨how=0 then hz gs c how k else match hz gs c how k with
    |none=>some k
    |some j=>if how=2∧rS gs (c.getD j ck)<rS gs (c.getD k ck)then some k else some j
def apo:Option Nat→List Int
  |none=> []
  |some j=> [(j:Int)]
def lS(gs:List aE)(c:List ak)(how:Int):List Int:=apo (hz gs c how c.length)
theorem g8{c:List ak}{k:Nat}(h:k<c.length):c.getD k ck=c[k]:=by rw[List.getD_eq_getElem?_getD,List.getElem?_eq_getElem h];rfl
theorem aaf(gs:List aE)(c:List ak):∀k,hz gs c 0 k=none
  |0=>rfl
  |k+1=>by simp only[hz];rw[if_pos (.inr trivial)];exact aaf gs c k
theorem G8(gs:List aE)(c:List ak)(how:Int):∀k j,hz gs c how k=some j→j<k∧(c.getD j ck).neg=true
  |0,j,h=>by cases h
  |k+1,j,h=>by
   simp only[hz]at h;split at h;have:=G8 gs c how k j h;exact⟨by omega,this.2⟩;rename_i aD;have hk:(c.getD k ck).neg=true:=by cases q:(c.getD k ck).neg;exact absurd (.inl q) aD;rfl
   split at h;cases h;exact⟨by omega,hk⟩;rename_i i aj;split at h;cases h;exact⟨by omega,hk⟩;cases h;have:=G8 gs c how k j aj;exact⟨by omega,this.2⟩
theorem QA{gs:List aE}{c:List ak}{how:Int}(aB:how≠0):∀k,k≤c.length→(hz gs c how k=none↔(c.take k).any (·.neg)=false)
  |0,_=>by simp[hz]
  |k+1,hk=>by
   have aY:=QA (gs:=gs) (c:=c) aB k ah;rw[List.take_succ_eq_append_getElem ah,List.any_append];simp only[hz];rw[g8 (by omega:k<c.length)];split;rename_i h;have aD:c[k].neg=false:=by rcases h with h|h;exact h;exact absurd h aB
   rw[aY];simp[aD];rename_i h;have aD:c[k].neg=true:=by cases q:c[k].neg;exact absurd (.inl q) h;rfl
   simp only[List.any_cons,aD];split;simp;split<;>simp
def uh(c:List ak):List Int:=if c.any (·.neg)=true then[((c.findIdx (·.neg):Nat):Int)]else[]
theorem aag{gs:List aE}{c:List ak}:∀k,k≤c.length→hz gs c 1 k=if(c.take k).any (·.neg)=true then some (c.findIdx (·.neg))else none
  |0,_=>by simp[hz]
  |k+1,hk=>by
   have aY:=aag (gs:=gs) (c:=c) k ah;have iy:k<c.length:=by omega
   rw[List.take_succ_eq_append_getElem iy,List.any_append];simp only[hz];rw[g8 iy,aY]
   cases aD:c[k].neg with
   |false=>rw[if_pos (.inl rfl)];simp[aD]
   |true=>
    rw[if_neg (by simp)];by_cases q:(c.take k).any (·.neg)=true;rw[if_pos q];simp only;rw[if_neg (by simp),if_pos (by simp[q])];rw[if_neg q];simp only;rw[if_pos (by simp[aD])];congr 1;have apq:(c.take k).any (·.neg)=false:=by simpa using q
    refine((List.findIdx_eq iy).2 ⟨aD,fun j au=> ?_⟩).symm;have:=List.any_eq_false.1 apq c[j] (List.mem_take_iff_getElem.2 ⟨j,by omega,rfl⟩);simpa using this
theorem apr(gs:List aE)(c:List ak):lS gs c 1=uh c:=by
 unfold lS uh;rw[aag c.length (Nat.le_refl _),List.take_length];split<;>rfl
def ui(gs:List aE)(c:List ak)(k:Nat):List Int:=match hz gs c 2 k with
  |none=>uh c
  |some j=> [(j:Int)]
theorem aps(gs:List aE)(c:List ak):ui gs c c.length=lS gs c 2:=by
 unfold ui lS
 cases h:hz gs c 2 c.length with
 |some j=>rfl
 |none=>
   have:=(QA (gs:=gs) (by decide) c.length (Nat.le_refl _)).1 h
   rw[List.take_length]at this
   show uh c= []
   unfold uh;rw[this];rfl
theorem apt{gs:List aE}{c:List ak}{k:Nat}(hk:k<c.length)(h:c[k].neg=false):ui gs c (k+1)=ui gs c k:=by
 have e:hz gs c 2 (k+1)=hz gs c 2 k:=by simp only[hz];rw[g8 hk,if_pos (.inl h)]
 unfold ui;rw[e]
theorem apu{gs:List aE}{c:List ak}{k:Nat}(hk:k<c.length)(h:c[k].neg=true):∃(j:Nat) (au:j<c.length),ui gs c k= [(j:Int)]∧ui gs c (k+1)=if rS gs c[j]<rS gs c[k]then[(k:Int)]else[(j:Int)]:=by
 have e:hz gs c 2 (k+1)=match hz gs c 2 k with
     |none=>some k
     |some j=>if rS gs (c.getD j ck)<rS gs c[k]then some k else some j:=by
   simp only[hz];rw[g8 hk,if_neg (by simp[h])]
   simp only[true_and]
 cases az:hz gs c 2 k with
 |some j=>
   have au:=G8 gs c 2 k j az
   rw[az]at e
   simp only at e
   have iA:j<c.length:=by omega
   rw[g8 iA]at e
   refine⟨j,iA,by unfold ui;rw[az],?_⟩
   unfold ui;rw[e]
   by_cases q:rS gs c[j]<rS gs c[k]
   · rw[if_pos q,if_pos q]
   · rw[if_neg q,if_neg q]
 |none=>rw[az]at e;simp only at e;have ix:=(QA (gs:=gs) (by decide) k ah).1 az;have a7:c.findIdx (·.neg)=k:=(List.findIdx_eq hk).2 ⟨h,fun j au=>by have:=List.any_eq_false.1 ix c[j] (List.mem_take_iff_getElem.2 ⟨j,by omega,rfl⟩);simpa using this⟩;have bk:c.any (·.neg)=true:=List.any_eq_true.2 ⟨c[k],List.getElem_mem hk,h⟩;refine⟨k,hk,by unfold ui;rw[az];show uh c=_;unfold uh;rw[if_pos bk,a7],?_⟩;unfold ui;rw[e,if_neg ah]
theorem aah{I:aa}{vg bz:Value}{gs:List aE}{x:ak}(aM:cP I vg gs)(bk:mm I bz x)(ab:x.l.size≤1000000000)(ae:x.r.size≤1000000000):
 aS Tryz.prog 43 [vg,bz] I [] (fun v _ δ'=>v=.int .i64 (rS gs x)∧δ'= []):=by
 obtain⟨la,lc,ra,rc,rfl,aA,an⟩:=bk;refine a1 func43 ntmps43 fun aG=> ?_;refine go2 ?_;refine bw fun b3=> ?_;refine bg ?_;refine bN rfl (OC (aM.mono aa.ag) (aA.mono aa.ag) ab) ?_;rintro sv mi _ oD ⟨rfl,rfl⟩;refine bW ?_;refine bN rfl (OC (aM.mono aa.ag) (an.mono aa.ag) ae) ?_;rintro v20 vb _ tI ⟨rfl,rfl⟩;refine bA ?_;refine aI (TL rfl rfl) ?_;refine a8 ?_;refine bn ?_;exact⟨rfl,rfl⟩
theorem apv{I:aa}{vg bz:Value}{gs:List aE}{c:List ak}:
 aS Tryz.prog 24 [vg,bz] I [] (fun v ai δ'=>bY ai v (lS gs c 0)∧δ'= []):=by
 refine a1 func24 ntmps24 fun aG=> ?_;refine bA ?_;refine bn ?_;exact⟨by unfold lS;rw[aaf];exact bY.nil _,rfl⟩
theorem apw{I:aa}{x:ak}{nr:List Value}(af:fG.R I x nr):
 aS Tryz.prog 42 [.agg nr.toArray] I [] (fun v _ δ'=>v=.bool x.neg∧δ'= []):=by
 obtain⟨la,lc,ra,rc,rfl,_,_⟩:=af;refine a1 func42 ntmps42 fun aG=> ?_;refine go2 ?_;refine bw fun e2=> ?_;refine bA ?_;refine bn ?_;exact⟨rfl,rfl⟩
theorem aai{I:aa}{vg bz:Value}{c:List ak}(ax:cf I bz c):
 aS Tryz.prog 25 [vg,bz] I [] (fun v ai δ'=>bY ai v (uh c)∧δ'= []):=by
 have al:=ax.small;refine a1 func25 ntmps25 fun aG=> ?_;refine bg ?_;refine bN rfl (XB (p:=fun x=>x.neg) ax (fun J x u cj hu af=>aS.tc (args:= [_]) (by kernel_rfl) (apw hu))) ?_;rintro mM je _ kA ⟨⟨n,rfl,aD⟩,rfl⟩;refine aP ?_;by_cases pH:n<0
 have he:uh c= []:=by
  rcases aD with⟨_,h⟩|⟨j,au,e,_⟩
  unfold uh;rw[h];rfl;omega
 refine bA ?_;refine bn ?_;exact⟨by rw[he];exact bY.nil _,rfl⟩
 have he:uh c= [n]∧dZ n:=by
  rcases aD with⟨e,h⟩|⟨j,au,rfl,az,ix⟩
  omega;have a7:c.findIdx (·.neg)=j:=(List.findIdx_eq au).2 ⟨az,fun i aj=>by have:=List.any_eq_false.1 ix c[i] (List.mem_take_iff_getElem.2 ⟨i,by omega,rfl⟩);simpa using this⟩;exact⟨by unfold uh;rw[if_pos (List.any_eq_true.2 ⟨c[j],List.getElem_mem au,az⟩),a7],by unfold dZ;omega⟩
 refine br ?_;refine c_ fun cG=> ?_;refine aK.dO aO.here ?_;rintro ry QB QC qE aC QD apx QE;cases aC;refine a8 ?_;refine bn ?_;exact⟨by rw[he.1];exact bY.of rfl QD (by decide) QE (by intro x af;simp at af;subst af;exact he.2),rfl⟩
theorem apy{I:aa}{vg bz:Value}{gs:List aE}{c:List ak}(aM:cP I vg gs)(ax:cf I bz c)(iF:hK c):
 aS Tryz.prog 26 [vg,bz] I [] (fun v ai δ'=>bY ai v (lS gs c 2)∧δ'= []):=by
 obtain⟨ad,bu,xs,rfl,aq,al,ep,bm⟩:=id ax;refine a1 func26 ntmps26 fun aG=> ?_;refine br ?_;refine bN rfl (aai ax) ?_;rintro v10 j4 _ kB ⟨xC,rfl⟩;refine bW ?_;refine ek (fun m aL ai δ'=>∃(k:Nat) (cN:Value),m=c.length-k∧k≤c.length∧aL= [(0,vg),(1,.slice ad c.length bu),(5,cN),(11,.slice ad c.length bu),(12,.int .i64 c.length),(13,.int .i64 k)]∧j4.le ai∧δ'= []∧bY ai cN (ui gs c k)) c.length [(0,vg),(1,.slice ad c.length bu),(5,v10),(11,.slice ad c.length bu),(12,.int .i64 c.length),(13,.int .i64 (0:Nat))] ⟨0,v10,rfl,Nat.zero_le _,rfl,aa.le_refl _,rfl,xC⟩ ⟨rfl,rfl,rfl,rfl,rfl,rfl,trivial⟩ ?_;rintro m _ I0 _ ⟨k,cN,rfl,hk,rfl,bO,rfl,nQ⟩;refine aZ ?_;refine bF rfl (fun aV=> ?_) (fun aV=> ?_);have av:k<c.length:=by simpa using aV
 obtain⟨vs,⟨la,lc,ra,rc,rfl,aA,an⟩,aW⟩:=bm.fj ep av;have db:=aW.isSome;have hj:=iF.at av;refine bg ?_;refine aI (cC (aW.mono aa.ag)) ?_;refine bh fun dp=> ?_;refine a_ ?_;refine g5 [0,2,4,6,8,12,14,16,18,20,22,24,11,27,28,30] ?_;refine go2 ?_;by_cases aD:c[k].neg=true;obtain⟨j,au,g3,ia⟩:=apu (gs:=gs) av aD;rw[g3]at nQ;obtain⟨dU,ke,rfl⟩:=nQ.shape;have jw:=nQ.rp 0 Nat.zero_lt_one;have kb:=jw.isSome;obtain⟨QF,⟨iZ,jv,hV,hW,rfl,iA,QG⟩,eN⟩:=bm.fj ep au;have aaj:=iF.at au;refine dg rfl (CE (v:=.bool true) (by show some (Value.bool c[k].neg)=_;rw[aD])) ?_;refine a_ ?_;refine pr rfl rfl rfl (tn underlying45 rj rfl rfl) ?_;refine pr rfl rfl rfl (cC (jw.mono aa.ag)) ?_;refine aX ?_;refine pr rfl rfl rfl (cC (eN.mono aa.ag)) ?_;refine aX ?_;refine cZ ?_;refine bN rfl (aah (x:=c[k]) (aM.mono aa.ag) ⟨la,lc,ra,rc,rfl,aA.mono aa.ag,an.mono aa.ag⟩ hj.1 hj.2) ?_;rintro v23 pJ _ pK ⟨rfl,rfl⟩;refine aR ?_;refine cZ ?_;refine bN rfl (aah (x:=c[j]) (aM.mono aa.ag) ⟨iZ,jv,hV,hW,rfl,iA.mono aa.ag,QG.mono aa.ag⟩ aaj.1 aaj.2) ?_;rintro xJ xK _ xL ⟨rfl,rfl⟩;refine go2 ?_;by_cases hJ:rS gs c[j]<rS gs c[k];rw[if_pos hJ]at ia;refine pr rfl rfl rfl (yD rfl rfl rfl hJ) ?_;refine aZ ?_;refine c_ fun aak=> ?_;refine a_ ?_;refine aK.dO aO.here ?_;rintro QH a36 ayY aal aC apz ayZ apA;cases aC;refine aR ?_;refine bf.view (View.drop aO.here) ?_;refine cV (c.length-(k+1)) [(0,vg),(1,.slice ad c.length bu),(5,.slice (some ⟨aak,0,none⟩) 1 1),(11,.slice ad c.length bu),(12,.int .i64 c.length),(13,.int .i64 (k+1:Nat))] ah ⟨k+1,.slice (some ⟨aak,0,none⟩) 1 1,rfl,av,rfl,aa.ag,rfl,by rw[ia];exact bY.of rfl apz (by decide) apA (by intro x af;simp at af;subst af;unfold dZ;omega)⟩ ⟨rfl,rfl,rfl,rfl,rfl,rfl,trivial⟩;rw[if_neg hJ]at ia;refine pr rfl rfl rfl (l2 rfl rfl rfl hJ) ?_;refine bA ?_;refine bf.view (View.drop aO.here) ?_;refine cV (c.length-(k+1)) [(0,vg),(1,.slice ad c.length bu),(5,.slice dU 1 ke),(11,.slice ad c.length bu),(12,.int .i64 c.length),(13,.int .i64 (k+1:Nat))] ah ⟨k+1,.slice dU 1 ke,rfl,av,rfl,aa.ag,rfl,by rw[ia];exact nQ.mono aa.ag⟩ ⟨rfl,rfl,rfl,rfl,rfl,rfl,trivial⟩;have mN:c[k].neg=false:=by simpa using aD
 have ia:=apt (gs:=gs) av mN;refine dg rfl (CE (v:=.bool false) (by show some (Value.bool c[k].neg)=_;rw[mN])) ?_;refine C1 ?_;refine bf.view (View.drop aO.here) ?_;refine cV (c.length-(k+1)) [(0,vg),(1,.slice ad c.length bu),(5,cN),(11,.slice ad c.length bu),(12,.int .i64 c.length),(13,.int .i64 (k+1:Nat))] ah ⟨k+1,cN,rfl,av,rfl,aa.ag,rfl,by rw[ia];exact nQ.mono aa.ag⟩ ⟨rfl,rfl,rfl,rfl,rfl,rfl,trivial⟩;have bV:k=c.length:=by simp at aV;omega
 subst bV;rw[aps]at nQ;refine bW ?_;refine bn ?_;exact⟨nQ,rfl⟩
theorem apB{I:aa}{v:Value}{xs:List Int}{x:Int}(ax:bY I v xs):
 aS Tryz.prog 101 [v,.int .i64 x] I [] (fun v _ δ'=>(∃n:Int,v=.int .i64 n∧(0≤n↔x∈xs))∧δ'= []):=by
 obtain⟨ad,c,xs,aq,al,aW,an⟩:=ax;refine a1 func101 ntmps101 fun aG=> ?_;refine dn ?_;refine ek (fun m aL ai δ'=>∃k:Nat,m=xs.length-k∧aL= [(0,.slice ad xs.length c),(1,.int .i64 x),(7,.int .i64 xs.length),(8,.int .i64 k)]∧ai=I∧δ'=([]:List ay)∧k≤xs.length∧x∉xs.take k) (xs.length-0) [(0,.slice ad xs.length c),(1,.int .i64 x),(7,.int .i64 xs.length),(8,.int .i64 (0:Nat))] ⟨0,rfl,rfl,rfl,rfl,⟨Nat.zero_le _,by simp⟩⟩ ⟨rfl,rfl,rfl,rfl,trivial⟩ ?_;rintro m _ _ _ ⟨k,rfl,rfl,rfl,rfl,az⟩;obtain⟨hk,az⟩:=az;refine aZ ?_;refine bF rfl (fun aV=> ?_) (fun aV=> ?_);have av:k<xs.length:=by simpa using aV
 have db:=C3 aW k av;refine fT ?_;refine aI (cC ((ints_at aW k av))) ?_;refine aR ?_;refine bF rfl (fun bq=> ?_) (fun bq=> ?_);have heq:x=xs[k]:=by simpa using bq
 refine bW ?_;refine bn ?_;exact⟨⟨k,rfl,by rw[heq];simp⟩,rfl⟩;have cu:x≠xs[k]:=by simpa using bq
 refine aP ?_;refine cV (xs.length-(k+1)) [(0,.slice ad xs.length c),(1,.int .i64 x),(7,.int .i64 xs.length),(8,.int .i64 (k+1:Nat))] ah ⟨k+1,rfl,rfl,rfl,rfl,⟨av,by rw[List.take_succ_eq_append_getElem av,List.mem_append,List.mem_singleton];exact fun h=>h.elim az cu⟩⟩ ⟨rfl,rfl,rfl,rfl,trivial⟩;have bV:k=xs.length:=by simp at aV;omega
 subst bV;rw[List.take_length]at az;refine bA ?_;refine bn ?_;exact⟨⟨-1,rfl,by simp[az]⟩,rfl⟩
theorem QI{I:aa}{v:Value}{xs:List Int}{x:Int}(ax:bY I v xs):
 aS Tryz.prog 64 [v,.int .i64 x] I [] (fun v _ δ'=>v=.bool (decide (x∈xs))∧δ'= []):=by
 refine a1 func64 ntmps64 fun aG=> ?_;refine br ?_;refine bN rfl (apB ax) ?_;rintro mM je _ kA ⟨⟨n,rfl,aD⟩,rfl⟩;refine aI (kV (z:=decide (x∈xs)) rfl rfl (by simp only[vT,aD])) ?_;refine a8 ?_;refine bn ?_;exact⟨rfl,rfl⟩
def gb(gs:List aE)(c:List ak)(how:Int):Int:=if bS gs c≠0 then bS gs c else if how<0∨3≤how then 1 else 0
def uj(gs:List aE)(c:List ak)(how:Int):List Int:=if gb gs c how=0 then lS gs c how else[]
theorem DO{I:aa}{vg bz:Value}{gs:List aE}{c:List ak}{how:Int}(aM:cP I vg gs)(ax:cf I bz c)(iF:hK c):
 aS Tryz.prog 12 [vg,bz,.int .i64 how] I [] (fun v ai δ'=>(∃u,v=.tuple #[u,.int .i64 (gb gs c how)]∧bY ai u (uj gs c how))∧δ'= []):=by
 refine a1 func12 ntmps12 fun aG=> ?_;refine bA ?_;refine bN rfl (rJ aM ax iF) ?_;rintro wC nN _ mf ⟨rfl,rfl⟩;refine aZ ?_;by_cases nP:bS gs c≠0;have he:gb gs c how=bS gs c:=if_pos nP;refine cT ?_;refine bn ?_;exact⟨⟨_,by rw[he];rfl,by unfold uj;rw[he,if_neg nP];exact bY.nil _⟩,rfl⟩;refine b_ ?_;by_cases nO:how<0;have he:gb gs c how=1:=by unfold gb;rw[if_neg nP,if_pos (.inl nO)]
 refine fT ?_;refine bn ?_;exact⟨⟨_,by rw[he];rfl,by unfold uj;rw[he,if_neg (by decide)];exact bY.nil _⟩,rfl⟩;refine aR ?_;by_cases hO:3≤how;have he:gb gs c how=1:=by unfold gb;rw[if_neg nP,if_pos (.inr hO)]
 refine cT ?_;refine bn ?_;exact⟨⟨_,by rw[he];rfl,by unfold uj;rw[he,if_neg (by decide)];exact bY.nil _⟩,rfl⟩;have he:gb gs c how=0:=by unfold gb;rw[if_neg nP,if_neg (fun h=>by rcases h with h|h;exact nO h;exact hO h)]
 refine br ?_;refine aI (hq (v:=.agg #[.func (.func 24) #[] #[],.func (.func 25) #[] #[],.func (.func 26) #[] #[]]) rfl (fun _=>by kernel_rfl)) ?_;refine bh fun hH=> ?_;refine a_ ?_;by_cases x6:how=0;subst x6;refine aX ?_;refine aI (qh (i:=0) underlying74 I_ rfl rfl ah) ?_;refine aR ?_;refine e8 rfl rfl rfl ((aS.tc (args:= [_,_]) (by kernel_rfl) (apv (gs:=gs) (c:=c)))) df.none ?_;rintro wx pD _ qD ⟨y_,rfl⟩;refine a_ ?_;refine bn ?_;exact⟨⟨_,by rw[he];rfl,by unfold uj;rw[he,if_pos rfl];exact y_⟩,rfl⟩;refine aX ?_;by_cases dj:how=1;subst dj;refine aI (qh (i:=1) underlying74 I_ rfl rfl ah) ?_;refine aR ?_;refine e8 rfl rfl rfl ((aS.tc (args:= [_,_]) (by kernel_rfl) (aai (ax.mono aa.ag)))) df.none ?_;rintro wx pD _ qD ⟨y_,rfl⟩;refine a_ ?_;refine bn ?_;exact⟨⟨_,by rw[he];rfl,by unfold uj;rw[he,if_pos rfl,apr];exact y_⟩,rfl⟩;have cY:how=2:=by omega
 subst cY;refine aI (qh (i:=2) underlying74 I_ rfl rfl ah) ?_;refine aR ?_;refine e8 rfl rfl rfl ((aS.tc (args:= [_,_]) (by kernel_rfl) (apy (aM.mono aa.ag) (ax.mono aa.ag) iF))) df.none ?_;rintro wx pD _ qD ⟨y_,rfl⟩;refine a_ ?_;refine bn ?_;exact⟨⟨_,by rw[he];rfl,by unfold uj;rw[he,if_pos rfl];exact y_⟩,rfl⟩
def x7(gs:List aE)(c d:List ak)(how i:Int):Bool:=if 0<(lS gs c how).length then decide (i∈lS gs c how)else pV gs d i.toNat (!(c.getD i.toNat ck).neg)
def BH(gs:List aE)(c:List ak)(how i:Int)(bs:List bx)(b:Bool)(e:Int):Prop:=
  (gb gs c how≠0∧e=gb gs c how∧b=false)∨(gb gs c how=0∧(((i<0∨(c.length:Int)≤i)∧e=1∧b=false)∨(¬(i<0∨(c.length:Int)≤i)∧∃aQ d,iI bs c aQ d∧((aQ≠0∧e=aQ∧b=false)∨(aQ=0∧((bS gs d≠0∧e=bS gs d∧b=false)∨(bS gs d=0∧e=0∧b=x7 gs c d how i)))))))
theorem BH.eq{gs:List aE}{c:List ak}{how i:Int}{bs:List bx}{a b:Bool}{e f:Int}(h:BH gs c how i bs a e)(k:BH gs c how i bs b f):a=b∧e=f:=by
 rcases h with⟨ab,rfl,rfl⟩|⟨ab,⟨ae,rfl,rfl⟩|⟨ae,aQ,d,bQ,aF⟩⟩<;>rcases k with⟨c8,rfl,rfl⟩|⟨c8,⟨b6,rfl,rfl⟩|⟨b6,f1,d2,apC,hs⟩⟩
 exact⟨rfl,rfl⟩;exact absurd c8 ab;exact absurd c8 ab;exact absurd ab c8;exact⟨rfl,rfl⟩;exact absurd ae b6;exact absurd ab c8;exact absurd b6 ae;obtain⟨rfl,rfl⟩:=bQ.eq apC;rcases aF with⟨aF,rfl,rfl⟩|⟨aF,⟨bb,rfl,rfl⟩|⟨bb,rfl,rfl⟩⟩<;>rcases hs with⟨hs,rfl,rfl⟩|⟨hs,⟨rR,rfl,rfl⟩|⟨rR,rfl,rfl⟩⟩
 exact⟨rfl,rfl⟩;exact absurd hs aF;exact absurd hs aF;exact absurd aF hs;exact⟨rfl,rfl⟩;exact absurd rR bb;exact absurd aF hs;exact absurd bb rR;exact⟨rfl,rfl⟩
theorem iI.DP{bs:List bx}{c ys:List ak}(h:iI bs c 0 ys):ys.length=c.length∧∀i (h:i<c.length) (ae:i<ys.length),ug bs c[i] 0 ys[i]:=by
 rcases h with⟨_,h,_⟩|⟨_,⟨_,_,_,_,_,_,h,_⟩|⟨_,aA,cE⟩⟩
 cases h;exact absurd rfl h;exact⟨aA,cE⟩
theorem aam{I:aa}{vg bz vs:Value}{gs:List aE}{c:List ak}{how i:Int}{bs:List bx}(aM:cP I vg gs)(ax:cf I bz c)(ao:hh I vs bs)(fu:∀b∈bs,b.2.size≤500)(bD:∀x∈c,x.l.size≤500∧x.r.size≤500):
 aS Tryz.prog 171 [vg,bz,.int .i64 how,.int .i64 i,vs] I [] (fun v _ δ'=>(∃b e,v=.tuple #[.bool b,.int .i64 e]∧BH gs c how i bs b e)∧δ'= []):=by
 have iF:hK c:=fun x af=>by have:=bD x af;omega
 obtain⟨ad,bu,xs,rfl,aq,al,ep,bm⟩:=id ax;refine a1 func171 ntmps171 fun aG=> ?_;refine bA ?_;refine bN rfl (DO aM ax iF) ?_;rintro v20 vb _ tI ⟨⟨ao_,rfl,Lh⟩,rfl⟩;refine bA ?_;by_cases mP:gb gs c how≠0;refine cT ?_;refine bn ?_;exact⟨⟨_,_,rfl,.inl ⟨mP,rfl,rfl⟩⟩,rfl⟩;have he:gb gs c how=0:=Classical.not_not.1 mP;unfold uj at Lh;rw[if_pos he]at Lh;refine b_ ?_;by_cases ka:i<0;refine iR ?_;refine bn ?_;exact⟨⟨_,_,rfl,.inr ⟨he,.inl ⟨.inl ka,rfl,rfl⟩⟩⟩,rfl⟩;refine a_ ?_;by_cases hJ:(c.length:Int)≤i;refine cT ?_;refine bn ?_;exact⟨⟨_,_,rfl,.inr ⟨he,.inl ⟨.inr hJ,rfl,rfl⟩⟩⟩,rfl⟩;have gw:¬(i<0∨(c.length:Int)≤i):=fun h=>by rcases h with h|h;exact ka h;exact hJ h
 obtain⟨n,aD⟩:=Int.eq_ofNat_of_zero_le (show 0≤i by omega);subst aD;have pg:n<c.length:=by omega
 obtain⟨vu,⟨la,lc,ra,rc,rfl,ay0,ay1⟩,aan⟩:=bm.fj ep pg;have db:=aan.isSome;refine bA ?_;refine bN rfl (K_ (ao.mono aa.ag) (ax.mono aa.ag) fu bD) ?_;rintro Bk Bl _ Bm ⟨⟨aQ,d,ay2,rfl,aao,bQ⟩,rfl⟩;have aap:=bQ.jx;refine bA ?_;by_cases qQ:aQ≠0;refine cT ?_;refine bn ?_;exact⟨⟨_,_,rfl,.inr ⟨he,.inr ⟨gw,aQ,d,bQ,.inl ⟨qQ,rfl,rfl⟩⟩⟩⟩,rfl⟩;have Nq:aQ=0:=Classical.not_not.1 qQ;subst Nq;have uc:=bQ.DP.1;refine bA ?_;refine bN rfl (rJ (aM.mono aa.ag) aao aap) ?_;rintro Li zL _ x8 ⟨rfl,rfl⟩;refine aZ ?_;by_cases G9:bS gs d≠0;refine cT ?_;refine bn ?_;exact⟨⟨_,_,rfl,.inr ⟨he,.inr ⟨gw,0,d,bQ,.inr ⟨rfl,.inl ⟨G9,rfl,rfl⟩⟩⟩⟩⟩,rfl⟩;have QJ:bS gs d=0:=Classical.not_not.1 G9;obtain⟨c3,cK,bM⟩:=Lh.shape;subst bM;refine bA ?_;by_cases zM:0<(lS gs c how).length;refine bg ?_;refine bN rfl (QI (Lh.mono aa.ag) (x:=(n:Int))) ?_;rintro G0 G1 _ K4 ⟨rfl,rfl⟩;refine aZ ?_;refine bn ?_;exact⟨⟨_,_,rfl,.inr ⟨he,.inr ⟨gw,0,d,bQ,.inr ⟨rfl,.inr ⟨QJ,rfl,by unfold x7;rw[if_pos zM]⟩⟩⟩⟩⟩,rfl⟩;refine gk ?_;refine aI (cC (aan.mono aa.ag)) ?_;refine aX ?_;refine bN rfl (Z4 (i:=n) (s:= !c[n].neg) (aM.mono aa.ag) (aao.mono aa.ag) aap QJ ah) ?_;rintro v64 ay3 _ ay4 ⟨rfl,rfl⟩;refine a_ ?_;refine bn ?_;exact⟨⟨_,_,rfl,.inr ⟨he,.inr ⟨gw,0,d,bQ,.inr ⟨rfl,.inr ⟨QJ,rfl,by unfold x7;rw[if_neg zM,Int.toNat_natCast,g8 pg]⟩⟩⟩⟩⟩,rfl⟩
end
def uk(θ:Int→T):Prop:=∀v,0≤v→∃j,0≤j∧θ v=h6 j
theorem apD{c:List ak}(aq:(bE c).any c5=false)(v:Int):∃j,0≤j∧x5 (fB [] (bE c)) v=h6 j:=by
 refine⟨(fB [] (bE c)).getD v.toNat 0,?_,rfl⟩;rw[List.getD_eq_getElem?_getD]
 cases q:(fB [] (bE c))[v.toNat]? with
 |none=>simp
 |some y=>
   have:=K0 aq y ((K9 c y).1 (List.mem_of_getElem? q))
   simp only[Option.getD_some];omega
theorem aaq{c d:List ak}(aq:(bE c).any c5=false):uk (fun v=>bI (x5 (fB [] (bE c))) (hX (h7 (fB [] (bE d))) v)):=fun v ax=>by
 have key:∀j:Int,0≤j→∃i,0≤i∧bI (x5 (fB [] (bE c))) (T.mk (-1-j) [])=h6 i:=fun j au=>by rw[pR,if_pos ah];exact apD aq _
 show∃j,0≤j∧bI _ (hX _ v)=_;unfold hX DM;rw[G3];split;exact key _ ah;exact key _ ax
theorem Lj{C D:List ak}(h:oR C D=false):∃θ lP:Int→T,uk θ∧uk lP∧(eC C D).length=D.length∧
 ∀k (hk:k<D.length) (ir:k<(eC C D).length),(eC C D)[k].neg=D[k].neg∧∀b,aJ b (eC C D)[k]=bI θ (aJ b D[k])∧aJ b D[k]=bI lP (aJ b (eC C D)[k]):=by
 obtain⟨du,dy⟩:=Qr h;have aD:=ZR C D;have aQ:=G5 du;have aT:=G5 dy;have hlen:(eC C D).length=D.length:=by have ab:=congrArg List.length aQ;have ae:=congrArg List.length aT;rw[List.length_map]at ab ae;rw[aD]at ae;omega
 refine⟨_,_,aaq (c:=eC C D) (d:=D) dy,aaq (c:=D) (d:=eC C D) du,hlen,fun k hk ir=> ?_⟩;rw[aD,aQ]at aT;have apE:(⟨D[k].neg,fF (h7 (fB [] (bE D))) D[k].l,fF (h7 (fB [] (bE D))) D[k].r⟩:ak)=⟨(eC C D)[k].neg,fF (h7 (fB [] (bE (eC C D)))) (eC C D)[k].l,fF (h7 (fB [] (bE (eC C D)))) (eC C D)[k].r⟩:=by have:=congrArg (fun l=>l[k]?) aT;simp only[List.getElem?_map,List.getElem?_eq_getElem hk,List.getElem?_eq_getElem ir,Option.map_some,Option.some.injEq]at this;exact this
 injection apE with dj cY l7;refine⟨dj.symm,fun b=> ?_⟩;have jy:fF (h7 (fB [] (bE D))) (aJ b D[k])=fF (h7 (fB [] (bE (eC C D)))) (aJ b (eC C D)[k]):=by unfold aJ;split;exact l7;exact cY
 have ao:∀(x:ak),aJ b x=x.l∨aJ b x=x.r:=fun x=>by unfold aJ;split;exact .inr rfl;exact .inl rfl
 have e2:=Lb du (List.getElem_mem hk) _ (ao _);have b2:=Lb dy (List.getElem_mem ir) _ (ao _);have nA:=GX du _ (List.getElem_mem hk);have pq:=GX dy _ (List.getElem_mem ir);have fE:oM (aJ b D[k])=false:=by unfold aJ;split;exact sS nA.2;exact sS nA.1
 have dT:oM (aJ b (eC C D)[k])=false:=by unfold aJ;split;exact sS pq.2;exact sS pq.1
 constructor;rw[GW,w4 _ _ fE,jy,b2.2];rw[GW,w4 _ _ dT,←jy,e2.2]
theorem QK{gs:List aE}{θ:Int→T}:∀(p:List Int) {s u:T},b9 gs s→cO s p=some u→cO (bI θ s) p=some (bI θ u)
  | [],s,u,_,h=>by simp only[cO,Option.some.injEq]at h⊢;rw[h]
  |x::p,s,u,ok,h=>by
   have aB:=KD ok h;obtain⟨i,rfl,aj,ab⟩:=zy h;rw[tX ah];unfold cO;have aA:i<(fN θ s.args).length:=by rw[jQ];simpa using aj
   rw[dif_pos ⟨by omega,by rw[Int.toNat_natCast];exact aA⟩];have aY:=QK (θ:=θ) p (ok.args _ (List.getElem_mem aj)) ab;simp only[T.args,Int.toNat_natCast,jQ,List.getElem_map];exact aY
theorem aar:∀(p:List Int) {s u:T},cO s p=some u→∀j∈cq u,j∈cq s
  | [],s,u,h,j,au=>by simp only[cO,Option.some.injEq]at h;rw[h];exact au
  |x::p,s,u,h,j,au=>by obtain⟨i,rfl,aj,ab⟩:=zy h;have aY:=aar p ab j au;rw[←T.eta s,ji];exact List.mem_cons_of_mem _ (List.mem_flatMap.2 ⟨_,List.getElem_mem aj,aY⟩)
theorem aas{gs:List aE}{γ γ':Int→G}{θ:Int→T}{g:G}:∀(p:List Int) {s u:T},b9 gs s→cO s p=some u→inst γ' (bI θ s)=inst γ s→hL γ' (bI θ s) p g=hL γ s p g
  | [],s,u,_,_,_=>by rw[hL,hL]
  |x::p,s,u,ok,h,e=>by
   have aB:=KD ok h;obtain⟨i,rfl,aj,ab⟩:=zy h;rw[tX ah]at e⊢;rw[lg,if_neg ah,tV aB]at e;injection e with _ e;have jc:inst γ' (bI θ s.args[i])=inst γ s.args[i]:=by have:=congrArg (fun l=>l[i]?) e;simp only[vh,jQ,List.getElem?_map,List.getElem?_eq_getElem aj,Option.map_some,Option.some.injEq]at this;exact this
   rw[hL,hL];have aA:i<(T.mk s.head (fN θ s.args)).args.length:=by show i<(fN θ s.args).length;rw[jQ];simpa using aj
   have aM:(T.mk s.head (fN θ s.args)).args[i]=bI θ s.args[i]:=by simp only[T.args,jQ,List.getElem_map]
   rw[Int.toNat_natCast,KE aj,KE aA,aM,aas p (ok.args _ (List.getElem_mem aj)) ab jc];show G.mk s.head.toNat _=_;rw[show(T.mk s.head (fN θ s.args)).args=fN θ s.args from rfl,e]
theorem uk.lh{gs:List aE}{θ:Int→T}(h:uk θ){γ:Int→G}(bl:dw gs γ):dw gs (ki γ θ):=G6 bl fun v ax=>by obtain⟨j,au,e⟩:=h v ax;rw[e,DH γ j au];exact bl j
theorem aat{c:List ak}{t:T}(ar:t∈bE c):∀k∈cq t,k<0→-1-k∈gX c:=fun k hk aB=>(K9 c _).1 (aac ar k hk aB)
theorem aau{c:List ak}{x:ak}(af:x∈c)(b:Bool):aJ b x∈bE c:=by
 refine List.mem_flatMap.2 ⟨x,af,?_⟩;unfold aJ;split<;>simp
theorem apF{gs:List aE}{C D:List ak}(h:oR C D=false)(fK:∀x∈D,ee gs x=0){δ γ:Int→G}(nT:dw gs δ)(bl:dw gs γ):
 ∃γ',dw gs γ'∧(∀x∈C,∀b,inst γ' (aJ b x)=inst δ (aJ b x))∧
 ∃hlen:(eC C D).length=D.length,∀k (hk:k<D.length),(eC C D)[k].neg=D[k].neg∧∀b,inst γ' (aJ b ((eC C D)[k]'(by omega)))=inst γ (aJ b D[k])∧
 ∀p u,cO (aJ b D[k]) p=some u→∃om,cO (aJ b ((eC C D)[k]'(by omega))) p=some om∧(0≤u.head→om.head=u.head)∧inst γ' om=inst γ u∧∀g,hL γ' (aJ b ((eC C D)[k]'(by omega))) p g=hL γ (aJ b D[k]) p g:=by
 obtain⟨θ,lP,hn,aav,hlen,cE⟩:=Lj h;refine⟨fun v=>if v∈gX C then δ v else ki γ lP v,fun v=> ?_,fun x af b=> ?_,hlen,fun k hk=> ?_⟩;show mU gs (if v∈gX C then δ v else ki γ lP v);split;exact nT v;exact aav.lh bl v;refine xW _ fun j au aB=> ?_;show(if _ then _ else _)=_;rw[if_pos (aat (aau af b) j au aB)];obtain⟨aQ,aT⟩:=cE k hk ah;refine⟨aQ,fun b=> ?_⟩;obtain⟨dj,cY⟩:=aT b;have hQ:aJ b ((eC C D)[k]'(by omega))∈bE (eC C D):=aau (List.getElem_mem _) b;have base:∀t,(∀j∈cq t,j∈cq (aJ b ((eC C D)[k]'(by omega))))→inst (fun v=>if v∈gX C then δ v else ki γ lP v) t=inst γ (bI lP t):=fun t ar=>by rw[qP];refine xW _ fun j au aB=> ?_;show(if _ then _ else _)=_;rw[if_neg (aoW _ (aat hQ j (ar j au) aB))]
 have aj:inst (fun v=>if v∈gX C then δ v else ki γ lP v) (aJ b ((eC C D)[k]'(by omega)))=inst γ (aJ b D[k]):=by rw[base _ fun j au=>au,←cY]
 have zz:=gB (fK _ (List.getElem_mem hk)) b;refine⟨aj,fun p u aW=> ?_⟩;have Lk:=QK (θ:=θ) p zz aW;refine⟨bI θ u,by rw[dj];exact Lk,fun aB=>by rw[tX ah];rfl,?_,fun g=> ?_⟩;have bT:∀j∈cq (bI θ u),j∈cq (aJ b ((eC C D)[k]'(by omega))):=by rw[dj];exact aar p Lk
 rw[base _ bT]
 have apG:bI lP (bI θ u)=u:=by
  have ao:bI lP (bI θ (aJ b D[k]))=aJ b D[k]:=by rw[←dj,←cY]
  have aq:=GW θ lP (aJ b D[k]);have ab:=QK (θ:=fun v=>bI lP (θ v)) p zz aW;rw[aq,ao,aW]at ab;have ae:=Option.some.inj ab;rw[GW]at ae;exact ae.symm
 rw[apG];rw[dj]at aj⊢;exact aas p zz aW aj
theorem aaw{gs:List aE}{a b:List ak}{how:Int}:∀k:Nat,(∀i,i<k→(a.getD i ck).neg=(b.getD i ck).neg∧rS gs (a.getD i ck)=rS gs (b.getD i ck))→hz gs a how k=hz gs b how k
  |0,_=>rfl
  |k+1,h=>by
   have aY:=aaw (how:=how) k fun i aj=>h i ah;obtain⟨ab,ae⟩:=h k ah;simp only[hz];rw[aY,ab];split;rfl
   cases q:hz gs b how k with
   |none=>rfl
   |some j=>
     have au:j<k:=(G8 gs b how k j q).1
     simp only
     rw[(h j ah).2,ae]
def DQ(gs:List aE)(_:Int):G:=.mk gs.length []
theorem apH(gs:List aE)(v:Int):fe (aU gs) (DQ gs v)=1:=by
 unfold DQ;rw[fe,nI];unfold aU Bc;simp
theorem aax{gs:List aE}{t:T}(h:b9 gs t):(fe (aU gs) (inst (DQ gs) t):Int)=dq gs t:=by
 rw[Pt _ h]
 have:∀l:List Int,(l.map (qJ gs (DQ gs))).sum=0:=fun l=>by
  induction l with
  |nil=>rfl
  |cons k r aY=>rw[List.map_cons,List.sum_cons,aY];unfold qJ;rw[apH];split<;>omega
 rw[this];omega
theorem aay{gs:List aE}{θ:Int→T}(hn:uk θ){t:T}(h:b9 gs t)(ae:b9 gs (bI θ t)):dq gs (bI θ t)=dq gs t:=by
 rw[←aax h,←aax ae,qP];congr 2;refine xW t fun k _ aB=> ?_;unfold ki;rw[if_neg ah];obtain⟨j,au,e⟩:=hn (-1-k) ah;rw[e,DH _ j au];rfl
theorem apI{gs:List aE}{C D:List ak}{how:Int}(h:oR C D=false)(fK:∀x∈D,ee gs x=0)(bo:∀x∈eC C D,ee gs x=0):hz gs (eC C D) how (eC C D).length=hz gs D how D.length:=by
 obtain⟨θ,lP,hn,_,hlen,cE⟩:=Lj h;rw[hlen];refine aaw _ fun i aj=> ?_;rw[g8 (by omega:i<(eC C D).length),g8 aj];obtain⟨aQ,aT⟩:=cE i aj ah;obtain⟨dW,fm⟩:=ld (bo _ (List.getElem_mem (by omega:i<(eC C D).length)));obtain⟨d1,d2⟩:=ld (fK _ (List.getElem_mem aj));refine⟨aQ,?_⟩;have dj:(eC C D)[i].l=bI θ D[i].l:=(aT false).1;have cY:(eC C D)[i].r=bI θ D[i].r:=(aT true).1;unfold rS;rw[if_pos (oF.2 dW),if_pos (oF.2 fm),if_pos (oF.2 d1),if_pos (oF.2 d2)];rw[dj]at dW⊢;rw[cY]at fm⊢;rw[aay hn d1 dW,aay hn d2 fm]
theorem vv{bs:List bx}{c ys:List ak}(h:iI bs c 0 ys):ys.length=c.length∧∀i (ab:i<c.length) (ae:i<ys.length),ys[i].neg=c[i].neg∧∀b,aJ b ys[i]=bI (hX bs) (aJ b c[i]):=by
 obtain⟨ab,ae⟩:=h.DP;refine⟨ab,fun i c8 b6=> ?_⟩;obtain⟨nA,_,e⟩:=Qx (ae i c8 b6);refine⟨by rw[e],fun b=> ?_⟩;unfold aJ;rw[e];split;exact(w4 _ _ (sS nA.2)).symm;exact(w4 _ _ (sS nA.1)).symm
theorem DR{w:Nat→Nat}{γ:Int→G}{bs:List bx}{c ys:List ak}(h:iI bs c 0 ys){i:Nat}(ab:i<c.length)(ae:i<ys.length):cL w γ ys[i]=cL w (ki γ (hX bs)) c[i]:=by
 obtain⟨e,ao⟩:=(vv h).2 i ab ae;rw[pQ γ false,pQ _ false,e,ao,ao,qP,qP]
theorem DS{w:Nat→Nat}{γ:Int→G}{bs:List bx}{c ys:List ak}(h:iI bs c 0 ys):bC w γ ys=bC w (ki γ (hX bs)) c:=by
 unfold bC;refine List.ext_getElem (by rw[List.length_map,List.length_map];exact(vv h).1) fun i ab ae=> ?_;rw[List.getElem_map,List.getElem_map];exact DR h _ _
structure lj(a b:T)(bs:List bx)(is:Bool)(e:Int):Prop where
  no:e≠0→is=false
  Ll:is=false→e=0→∀γ:Int→G,inst γ a≠inst γ b
  oT:∀b∈bs,b.2.size≤500
  aaz:is=true→∀γ:Int→G,inst γ a=inst γ b→∀v,0≤v→inst γ (hX bs v)=γ v
  un:is=true→∀γ:Int→G,inst (ki γ (hX bs)) a=inst (ki γ (hX bs)) b
  lh:is=true→∀gs,b9 gs a→b9 gs b→cy gs a=cy gs b→∀γ,dw gs γ→dw gs (ki γ (hX bs))
theorem lj.co{a b:T}{bs:List bx}{is:Bool}{e:Int}(h:lj a b bs is e)(aj:is=true){γ:Int→G}(hu:inst γ a=inst γ b):ki γ (hX bs)=γ:=by
 funext v;unfold ki;split;rfl;exact h.aaz aj γ hu v ah
theorem QL{gs:List aE}{γ:Int→G}{x y:T}(af:b9 gs x)(aw:b9 gs y)(h:eG (aU gs) (inst γ x) (inst γ y)):eL gs x y≠-1∧eL gs x y≠0:=by
 constructor;intro e;have ab:eL gs y x=1:=by rw[WU,e];rfl
 exact Vw h (Kv γ _ y x (Nat.le_refl _) aw af ab);intro e;have:=OG af aw e;rw[this]at h;exact pw _ h
theorem Lm{gs:List aE}{x:ak}(h:ee gs x=0):wQ gs x:=ld h
theorem aaA{gs:List aE}{γ:Int→G}{c:List ak}{i:Nat}(aj:i<c.length)(aq:∀x∈c,ee gs x=0)(h:wV gs γ c c[i]):pV gs c i false=true:=by
 rw[La aj];intro k hk;right;unfold pU;rw[Bool.false_and,Bool.not_false,Bool.and_true];cases q:decide (lM gs (gM c[k]) (gM c[i])=1);rfl;exfalso;exact h _ (List.getElem_mem hk) (Py γ (Lm (aq _ (List.getElem_mem hk))) (Lm (aq _ (List.getElem_mem aj))) q)
theorem aaB{w:Nat→Nat}{γ:Int→G}(x:ak):(pP (cL w γ x)).Perm ((gM x).map (inst γ)):=by
 refine(Px ..).trans ?_;unfold gM;split<;>exact List.Perm.refl _
theorem aaC{gs:List aE}{γ:Int→G}{c:List ak}{i:Nat}(aj:i<c.length)(aq:∀x∈c,ee gs x=0)(h:xU gs γ c i aj):pV gs c i true=true:=by
 rw[La aj];intro k hk;by_cases e:k=i;exact .inl e;right;have aM:=h k hk e;unfold pU;rw[Bool.true_and,Bool.and_eq_true,Bool.not_eq_true',Bool.not_eq_true',decide_eq_false_iff_not,decide_eq_false_iff_not];constructor;intro q;have:=Py γ (Lm (aq _ (List.getElem_mem hk))) (Lm (aq _ (List.getElem_mem aj))) (decide_eq_true q);exact Yq _ (Pv aM this);intro q;rw[Yk]at q;have az:=(Fm.1 q).map (inst γ);have ab:=Ys (w:=aU gs) (GB ..) (GB ..) aM
 have ae:hf (wS (aU gs)) (pP (cL (aU gs) γ c[i])) (pP (cL (aU gs) γ c[k]))=0:=
   Fm.2 ((aaB c[i]).trans (az.symm.trans (aaB c[k]).symm))
 have aF:hf (wS (aU gs)) (pP (cL (aU gs) γ c[i])) (pP (cL (aU gs) γ c[k]))=1:=ab;rw[ae]at aF;cases aF
def DT(gs:List aE)(how:Int)(γ:Int→G)(d:List ak)(k:Nat)(hk:k<d.length):Prop:=
  (d[k].neg=true∧(hz gs d how d.length=some k∨(hz gs d how d.length=none∧wV gs γ d d[k])))∨(d[k].neg=false∧hz gs d how d.length=none∧xU gs γ d k hk)
theorem aaD{gs:List aE}{how:Int}{γ:Int→G}{d zs:List ak}{k:Nat}{hk:k<d.length}(h:DT gs how γ d k hk)(aA:zs.length=d.length)(a2:∀x∈zs,ee gs x=0)(he:∀i (ab:i<d.length) (ae:i<zs.length),cL (aU gs) γ zs[i]=cL (aU gs) γ d[i]):x7 gs d zs how k=true:=by
 have hk2:k<zs.length:=by omega
 have apJ:wV gs γ d d[k]→pV gs zs k false=true:=fun ar=>aaA hk2 a2 fun y aw q=>by obtain⟨i,aj,rfl⟩:=List.getElem_of_mem aw;rw[he i ah aj,he k hk hk2]at q;exact ar _ (List.getElem_mem ah) q
 unfold x7;rw[Int.toNat_natCast,g8 hk];rcases h with⟨aD,h|⟨h,ar⟩⟩|⟨aD,h,ar⟩
 have:lS gs d how= [(k:Int)]:=by unfold lS;rw[h];rfl
 rw[this];simp;have:lS gs d how= []:=by unfold lS;rw[h];rfl
 rw[this,aD];exact apJ ar;have:lS gs d how= []:=by unfold lS;rw[h];rfl
 rw[this,aD];refine aaC (γ:=γ) hk2 a2 fun j au cu=> ?_;rw[he j ah au,he k hk hk2];exact ar j ah cu
structure G_(gs:List aE)(how:Int)(c d:List ak)(i:Nat)(b:Bool)(k:Nat)(b':Bool)(u:T)(aj:i<c.length)(hk:k<d.length)(γ:Int→G):Prop where
  lh:dw gs γ
  top:xU gs γ c i aj
  apK:eG (aU gs) (inst γ (aJ b c[i])) (inst γ (aJ (!b) c[i]))
  el:DT gs how γ d k hk
  apL:eG (aU gs) (inst γ (aJ b' d[k])) (inst γ (aJ (!b') d[k]))
  eq:inst γ u=inst γ (aJ b c[i])
theorem aaE{gs:List aE}{γ:Int→G}(bl:dw gs γ){s u:T}(ao:b9 gs s)(hu:b9 gs u)(h:inst γ u=inst γ s):cy gs s=cy gs u:=by
 have ab:=KL bl ao;have ae:=KL bl hu;rw[h]at ae;cases dj:cy gs s<;>cases cY:cy gs u;rfl;rw[dj]at ab;rw[cY]at ae;have:=ae.1 (ab.2 rfl);cases this;rw[dj]at ab;rw[cY]at ae;have:=ab.1 (ae.2 rfl);cases this;rfl
section
variable {gs:List aE} {how:Int} {c d ys zs:List ak} {i k:Nat} {b b':Bool} {u:T} {aj:i<c.length} {hk:k<d.length} {γ:Int→G} {bs:List bx} {is:Bool} {e:Int}
theorem gP{gs:List aE}{c:List ak}(h:bS gs c=0):∀x∈c,ee gs x=0:=(xQ h).2.2
theorem apM(cM:lj (aJ b c[i]) u bs is e)(gd:is=true)(bo:G_ gs how c d i b k b' u aj hk γ)(aw:iI bs c 0 ys)(mg:bS gs ys=0)(a2:iI bs d 0 zs)(yO:bS gs zs=0):
 (∀h:i<ys.length,eL gs (aJ b ys[i]) (aJ (!b) ys[i])≠-1∧eL gs (aJ b ys[i]) (aJ (!b) ys[i])≠0)∧(∀h:k<zs.length,eL gs (aJ b' zs[k]) (aJ (!b') zs[k])≠-1∧eL gs (aJ b' zs[k]) (aJ (!b') zs[k])≠0)∧pV gs ys i true=true∧x7 gs d zs how k=true:=by
 have x9:=cM.co gd bo.eq.symm;obtain⟨fY,Ha⟩:=vv aw;obtain⟨apN,oT⟩:=vv a2;have xy:∀j (ab:j<c.length) (ae:j<ys.length),cL (aU gs) γ ys[j]=cL (aU gs) γ c[j]:=fun j ab ae=>by rw[DR aw ab ae,x9]
 have apO:∀j (ab:j<d.length) (ae:j<zs.length),cL (aU gs) γ zs[j]=cL (aU gs) γ d[j]:=fun j ab ae=>by rw[DR a2 ab ae,x9]
 refine⟨fun h=> ?_,fun h=> ?_,?_,?_⟩;have aA:=gP mg _ (List.getElem_mem h);refine QL (γ:=γ) (gB aA _) (gB aA _) ?_;rw[(Ha i aj h).2,(Ha i aj h).2,qP,qP,x9];exact bo.apK;have aA:=gP yO _ (List.getElem_mem h);refine QL (γ:=γ) (gB aA _) (gB aA _) ?_;rw[(oT k hk h).2,(oT k hk h).2,qP,qP,x9];exact bo.apL;refine aaC (γ:=γ) ah (gP mg) fun j au cu=> ?_;rw[xy j ah au,xy i aj ah];exact bo.top j ah cu;exact aaD bo.el apN (gP yO) apO
def lT(x:ak)(b:Bool)(p:List Int)(t:T):ak:=if b=true then⟨x.neg,x.l,j8 x.r p t⟩else⟨x.neg,j8 x.l p t,x.r⟩
theorem aaF{γ:Int→G}{t:T}:∀(p:List Int) {s u:T},b9 gs s→cO s p=some u→inst γ (j8 s p t)=hL γ s p (inst γ t)
  | [],s,u,_,_=>by rw[j8,hL]
  |x::p,s,u,ok,h=>by have aB:=KD ok h;obtain⟨j,rfl,au,ab⟩:=zy h;rw[j8,hL,lg,if_neg ah,Int.toNat_natCast,KE au,vh,vh,List.map_set,aaF p (ok.args _ (List.getElem_mem au)) ab]
theorem aaG{γ:Int→G}{x:ak}{p:List Int}{t v:T}(ok:b9 gs (aJ b' x))(h:cO (aJ b' x) p=some v):cL (aU gs) γ (lT x b' p t)=fC (aU gs) x.neg (hL γ (aJ b' x) p (inst γ t)) (inst γ (aJ (!b') x)):=by
 have az:=aaF (γ:=γ) (t:=t) p ok h
 cases b' with
 |false=>unfold aJ at az⊢;unfold lT cL;simp only[Bool.false_eq_true,if_false,Bool.not_false,if_true]at az⊢;rw[az]
 |true=>unfold aJ at az⊢;unfold lT cL;simp only[Bool.false_eq_true,if_false,Bool.not_true,if_true]at az⊢;rw[az,xS]
def x_(c d:List ak)(i:Nat)(b:Bool)(k:Nat)(b':Bool)(p:List Int):List ak:=c.eraseIdx i++d.set k (lT (d.getD k ck) b' p (aJ (!b) (c.getD i ck)))
theorem aaH{γ:Int→G}{p:List Int}(aj:i<c.length)(hk:k<d.length)(ok:b9 gs (aJ b' d[k]))(az:cO (aJ b' d[k]) p=some u):
 bC (aU gs) γ (x_ c d i b k b' p)=bC (aU gs) γ (c.eraseIdx i)++(bC (aU gs) γ d).set k (fC (aU gs) d[k].neg (hL γ (aJ b' d[k]) p (inst γ (aJ (!b) c[i]))) (inst γ (aJ (!b') d[k]))):=by
 unfold x_;rw[g8 aj,g8 hk];unfold bC;rw[List.map_append,List.map_set,aaG ok az]
theorem apP(cM:lj (aJ b c[i]) u bs is e)(gd:is=true)(bo:G_ gs how c d i b k b' u aj hk γ){p:List Int}(ok:b9 gs (aJ b' d[k]))(az:cO (aJ b' d[k]) p=some u){ws:List ak}(hw:iI bs (x_ c d i b k b' p) 0 ws)(aD:(bE (eH ws)).any c5=false):
 eT gs (fun K=>K=eh (eH ws)) (bC (aU gs) γ (c.eraseIdx i)++(bC (aU gs) γ d).set k (fC (aU gs) d[k].neg (hL γ (aJ b' d[k]) p (inst γ (aJ (!b) c[i]))) (inst γ (aJ (!b') d[k])))):=by
 rw[←aaH aj hk ok az];have h:=Le (gs:=gs) aD (γ:=γ) bo.lh;rw[DS hw,cM.co gd bo.eq.symm]at h;exact h
theorem apQ (cM:lj (aJ b c[i]) u bs is e) (gd:is=true) (aj:i<c.length) (hk:k<d.length) (uV:c[i].neg=false) {p:List Int} (ya:b9 gs (aJ b c[i])) (DU:b9 gs (aJ b' d[k])) (BI:b9 gs u) (apR:cy gs (aJ b c[i])=cy gs u) (az:cO (aJ b' d[k]) p=some u) {ws:List ak} (hw:iI bs (x_ c d i b k b' p) 0 ws) (aD:(bE (eH ws)).any c5=false)
 {E:G→G→Prop} (bt:iG E) (aq:∀γ,dw gs γ→gY E (bC (aU gs) γ c)) (aH:∀γ,dw gs γ→gY E (bC (aU gs) γ d)):∀γ,dw gs γ→gY E (bC (aU gs) γ (eh (eH ws))):=by
 refine Lf aD bt fun γ bl=> ?_;rw[DS hw];have sT:=cM.lh gd gs ya BI apR γ bl;have rT:=cM.un gd γ;generalize ki γ (hX bs)=γ' at sT rT;rw[aaH aj hk DU az];obtain⟨y,aw,ar⟩:=aq γ' sT;have C9:=vi (w:=aU gs) (γ:=γ') aj;rcases List.mem_cons.1 (C9.mem_iff.1 aw)with rfl|aw
 rw[pQ γ' b,kJ bt,uV,if_neg (by decide)]at ar;obtain⟨z,a2,nH⟩:=aH γ' sT;have iy:k<(bC (aU gs) γ' d).length:=by unfold bC;simpa using hk
 obtain⟨j,au,rfl⟩:=List.getElem_of_mem a2;by_cases e:j=k;subst e;refine⟨_,List.mem_append_right _ (List.mem_set iy _),?_⟩;have AO:(bC (aU gs) γ' d)[j]=cL (aU gs) γ' d[j]:=by simp only[bC,List.getElem_map]
 rw[AO,pQ γ' b',kJ bt]at nH;rw[kJ bt];have jj:=KF bt (γ:=γ') (b:=inst γ' (aJ (!b) c[i])) p DU az (by rw[←rT];exact ar)
 have nd:E (hL γ' (aJ b' d[j]) p (inst γ' (aJ (!b) c[i]))) (inst γ' (aJ (!b') d[j]))↔E (inst γ' (aJ b' d[j])) (inst γ' (aJ (!b') d[j])):=
   ⟨fun h=>bt.trans jj h,fun h=>bt.trans (bt.symm jj) h⟩
 rw[nd];exact nH;refine⟨_,List.mem_append_right _ ?_,nH⟩;refine List.mem_iff_getElem.2 ⟨j,by rw[List.length_set];exact au,?_⟩;rw[List.getElem_set_ne (fun h=>e h.symm)];exact⟨y,List.mem_append_left _ aw,ar⟩
theorem apS{C D:List ak}(h:oR C D=false){E:G→G→Prop}(aH:∀γ,dw gs γ→gY E (bC (aU gs) γ D)):∀γ,dw gs γ→gY E (bC (aU gs) γ (eC C D)):=fun γ bl=>by obtain⟨du,dy⟩:=Qr h;obtain⟨apT,ab,aQ⟩:=(BG (gs:=gs) dy).1 γ bl;rw[ZR]at aQ;obtain⟨apU,ae,aT⟩:=(BG (gs:=gs) du).2 apT ab;rw[←aQ,aT];exact aH apU ae
end
section
variable {gs:List aE} {how:Int} {c ys ws:List ak} {i k:Nat} {b b':Bool} {γ:Int→G} {bs:List bx} {is:Bool} {e:Int}
theorem apV{aj:i<c.length}(cM:lj c[i].l c[i].r bs is e)(gd:is=true)(hc:DT gs how γ c i aj)(heq:inst γ c[i].l=inst γ c[i].r)(aw:iI bs c 0 ys)(mg:bS gs ys=0):x7 gs c ys how i=true:=
  aaD hc (vv aw).1 (gP mg) fun j ab ae=>by rw[DR aw ab ae,cM.co gd heq]
theorem apW{aj:i<c.length}(cM:lj c[i].l c[i].r bs is e)(gd:is=true)(bl:dw gs γ)(heq:inst γ c[i].l=inst γ c[i].r)(hw:iI bs (c.eraseIdx i) 0 ws)(aD:(bE (eH ws)).any c5=false):
 eT gs (fun K=>K=eh (eH ws)) (bC (aU gs) γ (c.eraseIdx i)):=by
 have h:=Le (gs:=gs) aD (γ:=γ) bl;rw[DS hw,cM.co gd heq]at h;exact h
theorem eq_true{aj:i<c.length}(cM:lj c[i].l c[i].r bs is e)(gd:is=true)(aA:ee gs c[i]=0)(kF:c[i].neg=true)(hw:iI bs (c.eraseIdx i) 0 ws)(aD:(bE (eH ws)).any c5=false){E:G→G→Prop}(bt:iG E)(aq:∀γ,dw gs γ→gY E (bC (aU gs) γ c)):
 ∀γ,dw gs γ→gY E (bC (aU gs) γ (eh (eH ws))):=by
 refine Lf aD bt fun γ bl=> ?_;rw[DS hw];have sT:=cM.lh gd gs (ld aA).1 (ld aA).2 (PK aA) γ bl;have rT:=cM.un gd γ;generalize ki γ (hX bs)=γ' at sT rT;obtain⟨y,aw,ar⟩:=aq γ' sT;rcases List.mem_cons.1 ((vi (w:=aU gs) (γ:=γ') aj).mem_iff.1 aw)with rfl|aw
 unfold cL at ar;rw[kJ bt,if_pos kF,rT]at ar;exact absurd (bt.rfl _) ar;exact⟨y,aw,ar⟩
theorem QM{gs:List aE}(h:mh gs=true)(g:G):¬eG (aU gs) (.mk 0 []) g:=by
 intro aM
 have hw:fe (aU gs) (.mk 0 [])=1:=by
  rw[fe,nI];obtain⟨aA,_⟩:=Dd h
  cases gs with
  |nil=>simp at aA
  |cons x r=>
   simp only[mh,Bool.and_eq_true]at h;have EO:x.wt=1:=by have:=h.2.1;unfold qs at this;simp only[Bool.and_eq_true]at this;simp_all[pC]
   unfold aU Bc;simp[EO]
 have ab:=VA (pO gs) g;rw[wg]at aM;rw[hw]at aM;simp only[show(G.mk 0 []).head=0 from rfl,show(G.mk 0 []).args= []from rfl]at aM;rcases aM with aM|⟨_,aM|⟨_,aM|⟨_,aM⟩⟩⟩
 omega;omega;simp at aM;unfold j3 at aM;exact aM
structure Hb(gs:List aE)(how:Int)(c:List ak)(i k:Nat)(b b':Bool)(aj:i<c.length)(hk:k<c.length)(γ:Int→G):Prop where
  lh:dw gs γ
  top:wV gs γ c c[i]
  eq:inst γ (aJ b c[i])=inst γ (aJ b' c[k])
  gt:eG (aU gs) (inst γ (aJ b c[i])) (inst γ (aJ (!b) c[i]))
theorem aaI{gs:List aE}{t:T}(ok:b9 gs t)(aB:t.head=0):t.args= []:=by
 have ab:=ok.arity ah;rw[aB]at ab
 have:Bb gs 0=0:=by
  obtain⟨aA,_⟩:=Dd ok.right;have h:=ok.right
  cases gs with
  |nil=>simp at aA
  |cons x r=>
   simp only[mh,Bool.and_eq_true]at h;have aW:x.cX=0:=by have:=h.2.1;unfold qs at this;simp only[Bool.and_eq_true]at this;simp_all[pC]
   unfold Bb;simp[aW]
 rw[this]at ab;exact List.eq_nil_of_length_eq_zero ah
theorem Ln{aj:i<c.length}{hk:k<c.length}(aq:∀x∈c,ee gs x=0)(bo:Hb gs how c i k b b' aj hk γ):(aJ b c[i]).head≠0∧(aJ b' c[k]).head≠0∧cy gs (aJ b c[i])=cy gs (aJ b' c[k]):=by
 have BJ:=gB (aq _ (List.getElem_mem aj)) b;have BK:=gB (aq _ (List.getElem_mem hk)) b';have eM:∀{t:T},b9 gs t→t.head=0→inst γ t=.mk 0 []:=fun ok aB=>by rw[tV ah,aaI ok aB,aB];rfl
 refine⟨fun h=> ?_,fun h=> ?_,aaE bo.lh BJ BK bo.eq.symm⟩;have:=bo.gt;rw[eM BJ h]at this;exact QM BJ.right _ this;have:=bo.gt;rw[bo.eq,eM BK h]at this;exact QM BJ.right _ this
theorem aaJ{aj:i<c.length}{hk:k<c.length}(cM:lj (aJ b c[i]) (aJ b' c[k]) bs is e)(gd:is=true)(bo:Hb gs how c i k b b' aj hk γ)(aw:iI bs c 0 ys)(mg:bS gs ys=0):
 (∀h:i<ys.length,eL gs (aJ b ys[i]) (aJ (!b) ys[i])≠-1∧eL gs (aJ b ys[i]) (aJ (!b) ys[i])≠0)∧pV gs ys i false=true:=by
 have x9:=cM.co gd bo.eq;obtain⟨fY,Ha⟩:=vv aw;refine⟨fun h=> ?_,?_⟩;have aA:=gP mg _ (List.getElem_mem h);refine QL (γ:=γ) (gB aA _) (gB aA _) ?_;rw[(Ha i aj h).2,(Ha i aj h).2,qP,qP,x9];exact bo.gt;refine aaA (γ:=γ) ah (gP mg) fun y zN q=> ?_;obtain⟨j,au,rfl⟩:=List.getElem_of_mem zN;rw[DR aw ah au,DR aw aj ah,x9]at q;exact bo.top _ (List.getElem_mem ah) q
def qR(c:List ak)(i k:Nat)(b b':Bool):List ak:=c.eraseIdx i++ [⟨true,aJ (!b) (c.getD i ck),aJ (!b') (c.getD k ck)⟩]
theorem apX{aj:i<c.length}{hk:k<c.length}(cM:lj (aJ b c[i]) (aJ b' c[k]) bs is e)(gd:is=true)(bo:Hb gs how c i k b b' aj hk γ)(hw:iI bs (qR c i k b b') 0 ws)(aD:(bE (eH ws)).any c5=false):
 eT gs (fun K=>K=eh (eH ws)) (fC (aU gs) true (inst γ (aJ (!b) c[i])) (inst γ (aJ (!b') c[k]))::bC (aU gs) γ (c.eraseIdx i)):=by
 have h:=Le (gs:=gs) aD (γ:=γ) bo.lh;rw[DS hw,cM.co gd bo.eq]at h;have az:(bC (aU gs) γ (qR c i k b b')).Perm (fC (aU gs) true (inst γ (aJ (!b) c[i])) (inst γ (aJ (!b') c[k]))::bC (aU gs) γ (c.eraseIdx i)):=by unfold qR bC;rw[g8 aj,g8 hk,List.map_append];exact List.perm_append_comm (l₂:= [_])
 exact eT.of h (.inl az) fun E _ ar=>GC ar az
theorem apY (aj:i<c.length) (hk:k<c.length) (oC:i≠k) (cM:lj (aJ b c[i]) (aJ b' c[k]) bs is e) (gd:is=true) (ab:ee gs c[i]=0) (ae:ee gs c[k]=0) (ao:cy gs (aJ b c[i])=cy gs (aJ b' c[k])) (qS:c[i].neg=false) (kg:c[k].neg=false) (hw:iI bs (qR c i k b b') 0 ws) (aD:(bE (eH ws)).any c5=false)
 {E:G→G→Prop} (bt:iG E) (aq:∀γ,dw gs γ→gY E (bC (aU gs) γ c)):∀γ,dw gs γ→gY E (bC (aU gs) γ (eh (eH ws))):=by
 refine Lf aD bt fun γ bl=> ?_;rw[DS hw];have sT:=cM.lh gd gs (gB ab _) (gB ae _) ao γ bl;have rT:=cM.un gd γ;generalize ki γ (hX bs)=γ' at sT rT;obtain⟨y,aw,ar⟩:=aq γ' sT;unfold qR;rw[g8 aj,g8 hk,G7];rcases List.mem_cons.1 ((vi (w:=aU gs) (γ:=γ') aj).mem_iff.1 aw)with rfl|aw
 rw[pQ γ' b,kJ bt,qS,if_neg (by decide)]at ar;by_cases q:E (inst γ' (aJ (!b) c[i])) (inst γ' (aJ (!b') c[k]));refine⟨c[k],List.mem_append_left _ (PO hk fun h=>oC h.symm),?_⟩;rw[pQ γ' b',kJ bt,kg,if_neg (by decide),←rT];exact bt.trans ar q;refine⟨_,List.mem_append_right _ (List.mem_singleton.2 rfl),?_⟩;unfold cL;rw[kJ bt,if_pos rfl];exact q;obtain⟨x,af,rfl⟩:=List.mem_map.1 aw;exact⟨x,List.mem_append_left _ af,ar⟩
end
end Go.Proofs.YtciibkomnoicdaaGreat
