/- Own texts: a small program logic, plain facts, walks through the program's functions. No condition. -/
import Derived.Test.YtciibkomnoicdaaGreatZ8
set_option maxRecDepth 10000
set_option maxHeartbeats 4000000
set_option linter.unusedVariables false
set_option linter.unusedSimpArgs false
set_option linter.unnecessarySimpa false
set_option linter.unusedSectionVars false
namespace Go.Proofs.YtciibkomnoicdaaGreat
open Go Lg Tryz
section
attribute [local irreducible] aK bf bJ
def hx(x:ak):ak:=if l_ x.l x.r=1 then⟨x.neg,x.r,x.l⟩else x
theorem Gw(x:ak):jO x (hx x)=true:=by
 unfold hx;split;exact vd.2 ⟨rfl,.inr ⟨rfl,rfl⟩⟩;exact Xz x
theorem Kq{x y:ak}:hx x=hx y↔jO x y=true:=by
 constructor;intro h;exact XA (Gw x) (h▸O5 (Gw y));intro h;obtain⟨ab,ae⟩:=vd.1 h;obtain⟨ayx,wP,oL⟩:=x;obtain⟨ayy,ayz,ayA⟩:=y;simp only at ab ae;subst ab;rcases ae with⟨rfl,rfl⟩|⟨rfl,rfl⟩
 rfl;have aD:=X5 wP oL;have an:=Vf wP oL;unfold hx;simp only;by_cases fE:l_ wP oL=1;rw[if_pos fE,if_neg ah];by_cases dT:l_ oL wP=1;rw[if_neg fE,if_pos dT];have:l_ wP oL=0:=by omega
 have e:=(NU _ _).1 this;subst e;rfl
def tS(gs:List aE)(x y:ak):Bool:=decide (lM gs (gM x) (gM y)=1)
theorem am8{gs:List aE}{a b eQ b':List T}(h:a.Perm eQ)(k:b.Perm b'):lM gs a b=lM gs eQ b':=
  alA (WY fun x=>by rw[h.count_eq,k.count_eq]) (WY fun x=>by rw[h.count_eq,k.count_eq])
theorem am9(gs:List aE)(x y:ak):lM gs (gM (hx x)) (gM (hx y))=lM gs (gM x) (gM y):=
  am8 (X8.2 (O5 (Gw x))) (X8.2 (O5 (Gw y)))
theorem am_(gs:List aE)(x y:ak):tS gs (hx x) (hx y)=tS gs x y:=by unfold tS;rw[am9]
def wQ(gs:List aE)(x:ak):Prop:=b9 gs x.l∧b9 gs x.r
theorem wQ.row{gs:List aE}{x:ak}(h:wQ gs x):∀t∈gM x,b9 gs t:=fun t ar=>by
 rcases Gu ar with rfl|rfl
 exact h.1;exact h.2
theorem wQ.can{gs:List aE}{x:ak}(h:wQ gs x):wQ gs (hx x):=by
 unfold hx;split;exact⟨h.2,h.1⟩;exact h
def tT(gs:List aE)(c d:List ak):Int:=hf (tS gs) (c.map hx) (d.map hx)
theorem X9{α:Type}[DecidableEq α]{x:α}:∀{l:List α} {j:Nat} (au:j<l.length),l[j]=x→(∀i (h:i<l.length),i<j→l[i]≠x)→l.eraseIdx j=l.erase x
  |y::r,0,au,h,_=>by simp only[List.getElem_cons_zero]at h;subst h;simp
  |y::r,j+1,au,h,aD=>by have aB:y≠x:=aD 0 (by simp) ah;have aY:=X9 (l:=r) (j:=j) (by simpa using au) (by simpa using h) (fun i aj ob=>by have:=aD (i+1) (by simpa using aj) ah;simpa using this);rw[List.eraseIdx_cons_succ,aY,List.erase_cons,if_neg (by simpa using aB)]
theorem Pj{α β:Type}(f:α→β):∀(l:List α) (j:Nat),(l.map f).eraseIdx j=(l.eraseIdx j).map f
  | [],j=>by simp
  |x::r,0=>by simp
  |x::r,j+1=>by simp[Pj f r j]
theorem zu{I:aa}{n i c:Nat}{A:Option Addr}{xs:List Value}(aj:i<n)(al:n≤1000000000)(ab:∀u∈xs,u.oneCell'=true):
 aS Tryz.prog 151 [.slice A n c,.int .i64 i,.int .i64 ((i:Int)+1)] I [pM A c n xs] (fun v _ δ'=>v=.slice A (n-1) c∧δ'= [pM A c (n-1) (xs.take (i*5)++(xs.drop ((i+1)*5)).take ((n-(i+1))*5))]):=by
 have aQ:(i:Int)+1=((i+1:Nat):Int):=by omega
 have aT:i+(n-(i+1))=n-1:=by omega
 rw[aQ];refine a1 func151 ntmps151 fun aG=> ?_;refine aP ?_;refine aK.gK Has.here ah (fun bo eV=> ?_);refine a_ ?_;refine aI (Um underlying36 xn rfl rfl rfl rfl ah ah ah) ?_;refine aP ?_;refine aI (l2 rfl rfl rfl ah) ?_;refine cT ?_;refine eU [0,2,4,6,8,10,13,15] (fun _=> []) (fun _=>(List.nil_sublist _)) ?_;refine go2 ?_;refine dg rfl (m7 underlying36 xn rfl rfl ah) ?_;refine go2 ?_;refine dg rfl (uQ underlying36 xn rfl rfl ah ah) ?_;refine aX ?_;refine Uo underlying36 UU rfl rfl rfl bc.here ah ah ah ab ah ah bo ?_;refine aX ?_;refine jY rfl (kY aa.ag (fun _=>(by intro x af;cases af))) ?_;refine aR ?_;refine dB ?_;refine a8 ?_;rw[aT];refine a8 ?_;refine aI (Un underlying36 xn rfl rfl rfl ah ah) ?_;refine IZ underlying36 (by kernel_rfl) (z:=.agg #[.bool false,.int .i64 0,.slice none 0 0,.int .i64 0,.slice none 0 0]) (by rfl) (by rfl) rfl Has.here ah ?_;refine br ?_;refine dY ?_;exact⟨rfl,rfl⟩
theorem bd.del{n:Nat}{α:Type}{E:kH n α}{I:aa}{xs:List Value}{ca:List α}{i:Nat}(h:bd E I xs ca)(aj:i<ca.length):bd E I (xs.take (i*n)++(xs.drop ((i+1)*n)).take ((ca.length-(i+1))*n)) (ca.eraseIdx i):=by
 rw[List.eraseIdx_eq_take_drop_succ];refine(h.take i ah).app ?_;have ae:=h.drop (i+1) ah;rw[List.take_of_length_le (by rw[ae.length,List.length_drop];exact Nat.le_refl _)];exact ae
theorem ana{I:aa}{b b2:Nat}{x y:ak}{nr pN:List Value}(af:fG.R I x nr)(aw:fG.R I y pN)(ab:x.l.size≤1000000000)(ae:x.r.size≤1000000000)(aF:y.l.size≤1000000000)(bb:y.r.size≤1000000000):
 aS Tryz.prog 272 [.agg pN.toArray,.pointer (some ⟨b,0,none⟩),.pointer (some ⟨b2,0,none⟩)] I [.box b 110 [.func (.func 49) #[] #[]],.box b2 68 nr] (fun v _ δ'=>v=.bool (jO x y)∧δ'= [.box b 110 [.func (.func 49) #[] #[]],.box b2 68 nr]):=by
 have sJ:=zl af;have Gx:=zl aw;obtain⟨la,lc,ra,rc,rfl,_,_⟩:=af;obtain⟨iZ,jv,hV,hW,rfl,_,_⟩:=aw;refine a1 func272 ntmps272 fun aG=> ?_;refine go2 ?_;refine bw fun b3=> ?_;refine bg ?_;refine e8 rfl rfl rfl ((aS.tc (args:= [_,_]) ai2 (Xu sJ Gx ab ae aF bb))) df.none ?_;rintro so jt _ jJ ⟨rfl,rfl⟩;refine a8 ?_;refine dv (rs:= [.tmp 4]) rfl (List.Perm.refl _) (.cons (.tmp rfl) .nil) (List.sublist_cons_self _ _) ?_;exact⟨rfl,rfl⟩
theorem X_{x:ak}{l:List ak}:hx x∈l.map hx↔l.any (fun m=>jO x m)=true:=by
 rw[List.mem_map,List.any_eq_true];constructor;rintro⟨m,hm,e⟩;exact⟨m,hm,Kq.1 e.symm⟩;rintro⟨m,hm,e⟩;exact⟨m,hm,(Kq.2 e).symm⟩
theorem Ya{I:aa}{bz cN:Value}{a b:List ak}(bk:cf I bz a)(al:cf I cN b)(sF:hK a)(kb:hK b)(zh:a.length≤1000000)(oH:b.length≤1000000):
 aS Tryz.prog 258 [bz,cN,.func (.func 49) #[] #[]] I [] (fun v ai δ'=>(∃O,cf ai v O∧O.map hx=da (a.map hx) (b.map hx)∧(∀x∈O,x∈a)∧O.length≤a.length)∧δ'= []):=by
 obtain⟨ad,ac,fW,rfl,sE,Xg,anb,anc⟩:=bk;refine a1 func258 ntmps258 fun aG=> ?_;refine go2 ?_;refine bw fun b5=> ?_;refine aZ ?_;refine bN rfl (xM al) ?_;rintro sv mi _ oD ⟨la,lc,Pk,rfl,Pl,rfl⟩;refine fx ?_;refine bJ.view (View.gh 68 5) ?_;refine ek (fun m aL ai δ'=>∃(k:Nat) (L O:List ak) (A B:Option Addr) (c e:Nat) (xs ys:List Value),m=a.length-k∧k≤a.length∧aL= [(5,.pointer (some ⟨b5,0,none⟩)),(7,.slice A L.length c),(8,.slice B O.length e),(14,.slice ad a.length ac),(15,.int .i64 a.length),(16,.int .i64 k)]∧mi.le ai∧δ'= [pM B e O.length ys,pM A c L.length xs,.box b5 110 [.func (.func 49) #[] #[]]]∧bd fG ai xs L∧bd fG ai ys O∧da (a.map hx) (b.map hx)=O.map hx++da ((a.drop k).map hx) (L.map hx)∧O.length≤k∧L.length≤b.length∧(∀t∈L,t∈b)∧∀t∈O,t∈a) a.length [(5,.pointer (some ⟨b5,0,none⟩)),(7,.slice la b.length lc),(8,.slice none 0 0),(14,.slice ad a.length ac),(15,.int .i64 a.length),(16,.int .i64 (0:Nat))] ⟨0,b,[],la,none,lc,0,_,[],rfl,Nat.zero_le _,rfl,aa.le_refl _,rfl,Pl,rfl,rfl,Nat.zero_le _,Nat.le_refl _,fun _ h=>h,fun _ h=>by cases h⟩ ⟨rfl,rfl,rfl,rfl,rfl,rfl,trivial⟩ ?_;rintro m _ I0 _ ⟨k,L,O,A,B,c,e,xs,ys,rfl,hk,rfl,bO,rfl,af,aw,ch,mS,eu,zi,Pm⟩;have Yb:I.le I0:=aa.ag;refine aZ ?_;refine bF rfl (fun aV=> ?_) (fun aV=> ?_);have av:k<a.length:=by simpa using aV
 obtain⟨vs,⟨tU,wR,iZ,jv,rfl,aA,an⟩,aW⟩:=anc.fj anb av;have db:=aW.isSome;have hj:=sF.at av;rw[List.drop_eq_getElem_cons av,List.map_cons,da]at ch;refine aP ?_;refine aI (cC (aW.mono Yb)) ?_;refine bh fun dk=> ?_;refine aP ?_;refine r_ ai0 rfl rfl ((XC (c:=L) (p:=fun u=>jO a[k] u) af ah (fun J y u cj hu aw=>cR.fq (args:= [_]) (caps:= [_,_]) aji (ana (b:=b5) (b2:=dk) (fG.mono (aa.le_trans Yb cj) ⟨tU,wR,iZ,jv,rfl,aA,an⟩) hu hj.1 hj.2 (kb y (zi y aw)).1 (kb y (zi y aw)).2)))) (df.three (aO.there (aO.there aO.here)) (aO.there (aO.there aO.here)) aO.here) ?_;rintro v22 nm _ rH ⟨⟨n22,rfl,ane⟩,rfl⟩;refine aP ?_;rcases ane with⟨rfl,iV⟩|⟨j,au,rfl,az,ix⟩
 rw[if_neg (fun h=>by rw[X_.1 h]at iV;cases iV)]at ch;refine bg ?_;refine c_ fun Yc=> ?_;refine gl fun Ds Dt=> ?_;have fw:O.length+1=(O++ [a[k]]).length:=by simp
 refine bA ?_;refine bf.view ((View.drop aO.here).trans ((View.drop (aO.there (aO.there aO.here))).trans (View.perm (List.perm_append_comm (l₁:= [_,_]))))) ?_;refine cV (a.length-(k+1)) [(5,.pointer (some ⟨b5,0,none⟩)),(7,.slice A L.length c),(8,.slice Ds (O.length+1) Dt),(14,.slice ad a.length ac),(15,.int .i64 a.length),(16,.int .i64 (k+1:Nat))] ah ⟨k+1,L,O++ [a[k]],A,Ds,c,Dt,xs,ys++hv a[k] tU wR iZ jv,rfl,av,by rw[fw],aa.ag,by simp only[pM,←fw];rfl,af.mono aa.ag,(aw.mono aa.ag).app (bd.single ⟨tU,wR,iZ,jv,rfl,aA.mono aa.ag,an.mono aa.ag⟩),by rw[ch];simp,by rw[←fw];omega,eu,zi,fun t ar=>by rcases List.mem_append.1 ar with h|h;exact Pm t h;simp at h;subst h;exact List.getElem_mem av⟩ ⟨rfl,rfl,rfl,rfl,rfl,rfl,trivial⟩;rw[if_pos (X_.2 (List.any_eq_true.2 ⟨L[j],List.getElem_mem au,az⟩))]at ch;have anf:(L.map hx).erase (hx a[k])=(L.eraseIdx j).map hx:=by rw[←X9 (l:=L.map hx) (j:=j) (by simpa using au) (by simp only[List.getElem_map];exact(Kq.2 az).symm) (fun i aj ob=>by simp only[List.getElem_map];intro q;have ab:=List.any_eq_false.1 ix (L[i]'(by simpa using aj)) (List.mem_take_iff_getElem.2 ⟨i,by omega,rfl⟩);exact ab (Kq.1 q.symm)),Pj]
 rw[anf]at ch;have hlen:L.length-1=(L.eraseIdx j).length:=by rw[List.length_eraseIdx];simp[au]
 refine bA ?_;refine eo rfl (zu au ah af.kd) (df.one aO.here) ?_;rintro XN A9 _ wy ⟨rfl,rfl⟩;refine bg ?_;refine bf.view ((View.drop (aO.there (aO.there aO.here))).trans (View.perm (List.perm_append_comm (l₁:= [_,_])))) ?_;refine cV (a.length-(k+1)) [(5,.pointer (some ⟨b5,0,none⟩)),(7,.slice A (L.length-1) c),(8,.slice B O.length e),(14,.slice ad a.length ac),(15,.int .i64 a.length),(16,.int .i64 (k+1:Nat))] ah ⟨k+1,L.eraseIdx j,O,A,B,c,e,_,ys,rfl,av,by rw[hlen],aa.ag,by simp only[pM,←hlen];rfl,(af.mono aa.ag).del au,aw.mono aa.ag,ch,by omega,by rw[←hlen];omega,fun t ar=>zi t (List.mem_of_mem_eraseIdx ar),Pm⟩ ⟨rfl,rfl,rfl,rfl,rfl,rfl,trivial⟩;have bV:k=a.length:=by simp at aV;omega
 refine aP ?_;refine aK.dO aO.here ?_;rintro A3 al5 FF sq mc eV iT OX;cases mc;rw[bV,List.drop_length]at ch;refine a_ ?_;refine bn ?_;exact⟨⟨O,⟨_,_,ys,rfl,eV,by omega,OX,aw.mono sq⟩,by rw[ch];simp[da],Pm,by omega⟩,rfl⟩
abbrev Yd(P:Program)(b1:Value)(I:aa)(δm:List ay)(a b:List ak)(q:ak→ak→Bool):Prop:=∀J x y nr pN,I.le J→fG.R J x nr→fG.R J y pN→x∈a→y∈b→cR P b1 [.agg nr.toArray,.agg pN.toArray] J δm (fun v _ δ'=>v=.bool (q x y)∧δ'=δm)
theorem ang{I:aa}{b1:Value}{b5 b8:Nat}{δm:List ay}{a b:List ak}{q:ak→ak→Bool}{x y:ak}{nr pN:List Value}(hm:Yd Tryz.prog b1 I δm a b q)(af:fG.R I x nr)(aw:fG.R I y pN)(Pn:x∈a)(EG:y∈b):
 aS Tryz.prog 273 [.agg nr.toArray,.pointer (some ⟨b5,0,none⟩),.pointer (some ⟨b8,0,none⟩)] I (.box b8 68 pN:: .box b5 110 [b1]::δm) (fun v _ δ'=>v=.bool (q x y)∧δ'=.box b8 68 pN:: .box b5 110 [b1]::δm):=by
 have sJ:=af;have Gx:=aw;obtain⟨la,lc,ra,rc,rfl,_,_⟩:=af;obtain⟨iZ,jv,hV,hW,rfl,_,_⟩:=aw;refine a1 func273 ntmps273 fun aG=> ?_;refine go2 ?_;refine bw fun b3=> ?_;refine bg ?_;refine e8 rfl rfl rfl ((hm _ x y _ _ (aa.le_refl _) sJ Gx Pn EG)) (List.perm_append_comm (l₁:= [_,_,_])) ?_;rintro so jt _ jJ ⟨rfl,rfl⟩;refine aK.view (View.perm (List.perm_append_comm (l₂:= [_,_,_]))) ?_;refine a8 ?_;refine dv (rs:= [.tmp 4]) rfl (List.Perm.refl _) (.cons (.tmp rfl) .nil) (List.sublist_cons_self _ _) ?_;exact⟨rfl,rfl⟩
theorem Ye{I:aa}{bz cN b1:Value}{a b:List ak}{δm:List ay}{q:ak→ak→Bool}(anh:c9 b1= [b1])(bk:cf I bz a)(al:cf I cN b)(hm:Yd Tryz.prog b1 I δm a b q):
 aS Tryz.prog 260 [bz,cN,b1] I δm (fun v ai δ'=>v=.bool ((b.all fun y=>a.any fun x=>q x y)&&decide (0<a.length))∧δ'=δm):=by
 obtain⟨a0,bu,bM⟩:=dK.shape bk;subst bM;obtain⟨gT,ke,Pk,rfl,mF,F6,ani,Pl⟩:=al;refine a1 func260 ntmps260 fun aG=> ?_;refine go2 ?_;refine bw fun b5=> ?_;refine bW ?_;rw[anh];refine ek (fun m aL ai δ'=>∃k:Nat,m=b.length-k∧k≤b.length∧aL= [(0,.slice a0 a.length bu),(5,.pointer (some ⟨b5,0,none⟩)),(9,.slice gT b.length ke),(10,.int .i64 b.length),(11,.int .i64 k)]∧I.le ai∧δ'=.box b5 110 [b1]::δm∧(b.take k).all (fun y=>a.any fun x=>q x y)=true) b.length [(0,.slice a0 a.length bu),(5,.pointer (some ⟨b5,0,none⟩)),(9,.slice gT b.length ke),(10,.int .i64 b.length),(11,.int .i64 (0:Nat))] ⟨0,rfl,Nat.zero_le _,rfl,aa.le_refl _,rfl,rfl⟩ ⟨rfl,rfl,rfl,rfl,rfl,trivial⟩ ?_;rintro m _ I0 _ ⟨k,rfl,hk,rfl,bO,rfl,cE⟩;refine aZ ?_;refine bF rfl (fun aV=> ?_) (fun aV=> ?_);have av:k<b.length:=by simpa using aV
 obtain⟨vs,⟨tU,wR,iZ,jv,rfl,aA,an⟩,aW⟩:=Pl.fj ani av;have db:=aW.isSome;refine aP ?_;refine aI (cC (aW.mono bO)) ?_;refine bh fun b8=> ?_;refine aP ?_;refine hr rfl (O6 (p:=fun x=>q x b[k]) (bk.mono bO) (fun J x u cj hu Pn=>cR.fq (args:= [_]) (caps:= [_,_]) ajj (ang (b5:=b5) (b8:=b8) (fun Po x y nr pN ae=>hm Po x y nr pN (aa.le_trans bO (aa.le_trans cj ae))) hu (fG.mono (aa.le_trans bO cj) ⟨tU,wR,iZ,jv,rfl,aA,an⟩) Pn (List.getElem_mem av)))) ?_;rintro u0 ox _ nc ⟨rfl,rfl⟩;rw[List.append_nil];refine aR ?_;refine bF rfl (fun bq=> ?_) (fun bq=> ?_);have a7:(a.any fun x=>q x b[k])=false:=by simpa using bq
 refine bA ?_;refine dv (rs:= [.tmp 6]) rfl (List.Perm.refl _) (.cons (.tmp rfl) .nil) (List.Sublist.cons _ (List.Sublist.cons _ (List.Sublist.refl _))) ?_;exact⟨by rw[show(b.all fun y=>a.any fun x=>q x y)=false from by cases h:(b.all fun y=>a.any fun x=>q x y);rfl;rw[List.all_eq_true.1 h _ (List.getElem_mem av)]at a7;cases a7];rfl,rfl⟩;have ar:(a.any fun x=>q x b[k])=true:=by simpa using bq
 refine aP ?_;refine bf.view (View.drop aO.here) ?_;refine cV (b.length-(k+1)) [(0,.slice a0 a.length bu),(5,.pointer (some ⟨b5,0,none⟩)),(9,.slice gT b.length ke),(10,.int .i64 b.length),(11,.int .i64 (k+1:Nat))] ah ⟨k+1,rfl,av,rfl,aa.ag,rfl,by rw[List.take_succ_eq_append_getElem av,List.all_append,cE];simp[ar]⟩ ⟨rfl,rfl,rfl,rfl,rfl,trivial⟩;have bV:k=b.length:=by simp at aV;omega
 subst bV;rw[List.take_length]at cE;refine br ?_;refine aI (kV (z:=decide (0<a.length)) rfl rfl (by simp[vT])) ?_;refine a8 ?_;refine dv (rs:= [.tmp 6]) rfl (List.Perm.refl _) (.cons (.tmp rfl) .nil) (List.Sublist.cons _ (List.Sublist.refl _)) ?_;exact⟨by rw[cE];rfl,rfl⟩
theorem Yf{I:aa}{b3:Nat}{vg:Value}{gs:List aE}{x y:ak}{nr pN:List Value}(aM:cP I vg gs)(af:fG.R I x nr)(aw:fG.R I y pN)(ab:x.l.size≤1000000000)(ae:x.r.size≤1000000000)(aF:y.l.size≤1000000000)(bb:y.r.size≤1000000000)(ayB:ee gs x=0)(anj:ee gs y=0):
 aS Tryz.prog 259 [.agg nr.toArray,.agg pN.toArray,.pointer (some ⟨b3,0,none⟩)] I [.box b3 22 [vg]] (fun v _ δ'=>v=.bool (tS gs x y)∧δ'= [.box b3 22 [vg]]):=by
 have sJ:=zl af;have Gx:=zl aw;have he:tQ gs x y=0:=by unfold tQ;rw[if_neg ah];exact anj
 obtain⟨la,lc,ra,rc,rfl,_,_⟩:=af;obtain⟨iZ,jv,hV,hW,rfl,_,_⟩:=aw;refine a1 func259 ntmps259 fun aG=> ?_;refine go2 ?_;refine bw fun b3=> ?_;refine bw fun b4=> ?_;refine bg ?_;refine bN rfl (X2 aM sJ Gx ab ae aF bb) ?_;rintro wC nN _ mf ⟨rfl,rfl⟩;rw[he,if_pos rfl];refine cT ?_;refine cZ ?_;refine aI (kV (z:=tS gs x y) rfl rfl rfl) ?_;refine a_ ?_;refine dv (rs:= [.tmp 5]) rfl (List.Perm.refl _) (.cons (.tmp rfl) .nil) (List.Sublist.cons _ (List.Sublist.cons _ (List.Sublist.refl _))) ?_;exact⟨rfl,rfl⟩
def xP(gs:List aE)(c d:List ak):Int:=if bS gs c≠0 then bS gs c else bS gs d
theorem xQ{gs:List aE}{c:List ak}(h:bS gs c=0):j_ gs=0∧c.length≤32∧∀x∈c,ee gs x=0:=by
 unfold bS at h;by_cases ab:j_ gs≠0;rw[if_pos ab]at h;exact absurd h ab;rw[if_neg ab]at h;by_cases ae:32<c.length;rw[if_pos ae]at h;cases h;rw[if_neg ae]at h;exact⟨Classical.not_not.1 ab,by omega,Gl.1 h⟩
theorem Yg{gs:List aE}(a b:List ak):((b.all fun y=>a.any fun x=>tS gs x y)&&decide (0<a.length))=pv (tS gs) (a.map hx) (b.map hx):=by
 unfold pv;rw[List.length_map,Bool.and_comm];congr 1;rw[List.all_map];congr 1;funext y;simp only[Function.comp,List.any_map];congr 1;funext x;simp only[Function.comp,am_]
theorem ank{I:aa}{vg bz cN:Value}{gs:List aE}{c d:List ak}(aM:cP I vg gs)(bk:cf I bz c)(al:cf I cN d)(ao:hK c)(ar:hK d):
 aS Tryz.prog 243 [vg,bz,cN] I [] (fun v ai δ'=>v=.tuple #[.int .i64 (if xP gs c d=0 then tT gs c d else 0),.int .i64 (xP gs c d)]∧δ'= []):=by
 obtain⟨cQ,gc,Pp⟩:=aM.shape;subst Pp;refine a1 func243 ntmps243 fun aG=> ?_;refine go2 ?_;refine bw fun b3=> ?_;refine br ?_;refine bN rfl (rJ aM bk ao) ?_;rintro wB mR _ sx ⟨rfl,rfl⟩;refine aZ ?_;by_cases nO:bS gs c≠0;have he:xP gs c d=bS gs c:=if_pos nO;refine cT ?_;refine bn ?_;exact⟨by rw[he,if_neg nO];rfl,rfl⟩;have he:xP gs c d=bS gs d:=if_neg nO;refine bA ?_;refine bN rfl (rJ (aM.mono aa.ag) (al.mono aa.ag) ar) ?_;rintro u7 u9 _ rz ⟨rfl,rfl⟩;refine aZ ?_;by_cases vf:bS gs d≠0;refine cT ?_;refine bn ?_;exact⟨by rw[he,if_neg vf];rfl,rfl⟩;have OL:bS gs c=0:=Classical.not_not.1 nO;have Yh:bS gs d=0:=Classical.not_not.1 vf;obtain⟨_,sa,Br⟩:=xQ OL;obtain⟨_,nL,Yi⟩:=xQ Yh;have zv:xP gs c d=0:=he.trans Yh;refine b_ ?_;refine bN rfl (Ya (bk.mono aa.ag) (al.mono aa.ag) ao ar ah ah) ?_;rintro v27 u3 _ wm ⟨⟨X,oj,Pq,Du,ayC⟩,rfl⟩;refine go2 ?_;refine bN rfl (Ya (al.mono aa.ag) (bk.mono aa.ag) ar ao ah ah) ?_;rintro v30 zw _ Dv ⟨⟨Y,Gy,Pr,Dw,ayD⟩,rfl⟩;obtain⟨fW,eK,rfl⟩:=dK.shape oj;obtain⟨e3,ff,rfl⟩:=dK.shape Gy;have ayE:X.length=(da (c.map hx) (d.map hx)).length:=by rw[←Pq,List.length_map]
 have ayF:Y.length=(da (d.map hx) (c.map hx)).length:=by rw[←Pr,List.length_map]
 refine ic ?_;by_cases wA:X.length+Y.length=0;refine dn ?_;refine bn ?_;exact⟨by rw[zv,if_pos rfl];unfold tT hf;rw[if_pos ah];rfl,rfl⟩;refine b_ ?_;refine hr rfl (Ye (q:=tS gs) (δm:= [.box b3 22 [.slice cQ gs.length gc]]) rfl (oj.mono aa.ag) (Gy.mono aa.ag) (fun J x y nr pN cj Ps rn af aw=>cR.fq (args:= [_,_]) (caps:= [_]) U6 (Yf (b3:=b3) (aM.mono (aa.le_trans (show I.le zw from aa.ag) cj)) Ps rn (ao x (Du x af)).1 (ao x (Du x af)).2 (ar y (Dw y aw)).1 (ar y (Dw y aw)).2 (Br x (Du x af)) (Yi y (Dw y aw))))) ?_;rintro Kr Bu _ zx ⟨rfl,rfl⟩;rw[List.append_nil,Yg,Pq,Pr];refine aR ?_;refine bF rfl (fun fV=> ?_) (fun fV=> ?_);refine br ?_;refine bn ?_;exact⟨by rw[zv,if_pos rfl];unfold tT hf;rw[if_neg ah,if_pos fV];rfl,rfl⟩;refine a_ ?_;refine hr rfl (Ye (q:=tS gs) (δm:= [.box b3 22 [.slice cQ gs.length gc]]) rfl (Gy.mono aa.ag) (oj.mono aa.ag) (fun J x y nr pN cj Ps rn af aw=>cR.fq (args:= [_,_]) (caps:= [_]) U6 (Yf (b3:=b3) (aM.mono (aa.le_trans (show I.le Bu from aa.ag) cj)) Ps rn (ar x (Dw x af)).1 (ar x (Dw x af)).2 (ao y (Du y aw)).1 (ao y (Du y aw)).2 (Yi x (Dw x af)) (Br y (Du y aw))))) ?_;rintro Ks Kt _ Ku ⟨rfl,rfl⟩;rw[List.append_nil,Yg,Pq,Pr];refine aR ?_;refine bF rfl (fun u2=> ?_) (fun u2=> ?_);refine br ?_;refine bn ?_;exact⟨by rw[zv,if_pos rfl];unfold tT hf;rw[if_neg ah,if_neg (by rw[fV];simp),if_pos u2];rfl,rfl⟩;refine b_ ?_;refine bn ?_;exact⟨by rw[zv,if_pos rfl];unfold tT hf;rw[if_neg ah,if_neg (by rw[fV];simp),if_neg (by rw[u2];simp)];rfl,rfl⟩
end
mutual
def Dx:T→List Int
  |.mk h ts=>fB (if h<0 then[-1-h]else[]) ts
def fB:List Int→List T→List Int
  |acc,[]=>acc
  |acc,t::r=>fB (fM acc (Dx t)) r
end
theorem Yj:∀ts:List T,(ey ts).map (·.2.head)=ts.flatMap cq
  | []=>rfl
  |t::r=>by rw[ey,List.map_append,Yj r,List.flatMap_cons];congr 1;unfold cq;rw[gU,gU];rfl
theorem ji(h:Int)(ts:List T):cq (.mk h ts)=h::ts.flatMap cq:=by
 have:cq (.mk h ts)=h::(ey ts).map (·.2.head):=by unfold cq;rw[gU];rfl
 rw[this,Yj]
theorem Yk(gs:List aE)(a b:List T):lM gs a b=hf (fun x y=>decide (eL gs x y=1)) a b:=by
 have ab:∀l m:List T,gW l m=da l m:=fun l=>by
  induction l with
  |nil=>intro m;rfl
  |cons t r aY=>intro m;simp only[gW,da,aY]
 unfold lM hf sA pv;simp only[ab]
def aU(gs:List aE)(h:Nat):Nat:=if 1≤Bc gs h then(Bc gs h).toNat else 1
theorem pO(gs:List aE)(h:Nat):1≤aU gs h:=by unfold aU;split<;>omega
mutual
def inst(γ:Int→G):T→G
  |.mk h us=>if h<0 then γ (-1-h)else .mk h.toNat (gN γ us)
def gN(γ:Int→G):List T→List G
  | []=> []
  |t::r=>inst γ t::gN γ r
end
theorem lg(γ:Int→G)(h:Int)(us:List T):inst γ (.mk h us)=if h<0 then γ (-1-h)else .mk h.toNat (gN γ us):=by rw[inst]
theorem vh(γ:Int→G):∀us:List T,gN γ us=us.map (inst γ)
  | []=>rfl
  |t::r=>by simp[gN,vh γ r]
theorem tV{γ:Int→G}{t:T}(h:0≤t.head):inst γ t=.mk t.head.toNat (gN γ t.args):=by
 cases t with
 |mk k us=>rw[lg,if_neg (by simp only[T.head]at h;omega)];rfl
def Gz(gs:List aE)(γ:Int→G)(k:Int):Int:=if k<0 then fe (aU gs) (γ (-1-k))else aU gs k.toNat
def qJ(gs:List aE)(γ:Int→G)(k:Int):Int:=if k<0 then fe (aU gs) (γ (-1-k))-1 else 0
mutual
theorem Yl{gs:List aE}(γ:Int→G):∀t:T,b9 gs t→(fe (aU gs) (inst γ t):Int)=((cq t).map (Gz gs γ)).sum
  |.mk h us,ok=>by rw[ji,lg,List.map_cons,List.sum_cons];by_cases q:h<0;rw[if_pos q];have:us= []:=ok.leaf q;subst this;simp[Gz,q];rw[if_neg q,fe,←Ym γ us ok.args];simp[Gz,q]
theorem Ym{gs:List aE}(γ:Int→G):∀us:List T,(∀x∈us,b9 gs x)→(nI (aU gs) (gN γ us):Int)=((us.flatMap cq).map (Gz gs γ)).sum
  | [],_=>rfl
  |t::r,ok=>by rw[gN,nI,List.flatMap_cons,List.map_append,List.sum_append,←Yl γ t (ok t (List.mem_cons_self ..)),←Ym γ r fun x af=>ok x (List.mem_cons_of_mem _ af)];omega
end
theorem Yn{f g h:Int→Int}:∀l:List Int,(∀k∈l,f k=g k+h k)→(l.map f).sum=(l.map g).sum+(l.map h).sum
  | [],_=>rfl
  |k::r,e=>by simp only[List.map_cons,List.sum_cons];rw[Yn r fun x af=>e x (List.mem_cons_of_mem _ af),e k (List.mem_cons_self ..)];omega
theorem Pt{gs:List aE}(γ:Int→G){t:T}(ok:b9 gs t):(fe (aU gs) (inst γ t):Int)=dq gs t+((cq t).map (qJ gs γ)).sum:=by
 rw[Yl γ t ok];refine Yn _ fun k hk=> ?_;unfold Gz qJ jL;rcases ok.head k hk with h|⟨ab,ae⟩
 rw[if_pos h,if_pos h,if_pos h];omega;rw[if_neg ah,if_neg ah,if_neg ah];have an:=Dh ok.right (.inr ⟨ab,ae⟩);unfold jL at an;rw[if_neg ah]at an;unfold aU;have e:((k.toNat:Nat):Int)=k:=by omega
 rw[e,if_pos an.1];omega
theorem anl(gs:List aE)(γ:Int→G)(k:Int):0≤qJ gs γ k:=by
 unfold qJ;split;have:=VA (pO gs) (γ (-1-k));omega;omega
theorem Yo(gs:List aE)(γ:Int→G):∀l:List Int,0≤(l.map (qJ gs γ)).sum
  | []=>by simp
  |k::r=>by have:=anl gs γ k;have:=Yo gs γ r;simp only[List.map_cons,List.sum_cons];omega
theorem anm{l m:List Int}(h:l.Perm m):l.sum=m.sum:=by
 induction h with
 |nil=>rfl
 |cons x _ aY=>simp only[List.sum_cons,aY]
 |swap x y l=>simp only[List.sum_cons];omega
 |trans _ _ ab ae=>exact ab.trans ae
theorem Pu(gs:List aE)(γ:Int→G):∀(m l:List Int),(∀k:Int,k<0→m.count k≤l.count k)→(m.map (qJ gs γ)).sum≤(l.map (qJ gs γ)).sum
  | [],l,_=>Yo gs γ l
  |x::m,l,h=>by
   simp only[List.map_cons,List.sum_cons];by_cases q:x<0;have af:x∈l:=List.count_pos_iff.1 (by have:=h x q;rw[List.count_cons_self]at this;omega);have p:=(List.perm_cons_erase af).map (qJ gs γ);have e:(l.map (qJ gs γ)).sum=qJ gs γ x+((l.erase x).map (qJ gs γ)).sum:=by rw[anm p,List.map_cons,List.sum_cons]
   have aY:=Pu gs γ m (l.erase x) fun k hk=>by have:=h k hk;rw[List.count_erase];by_cases e:x=k;subst e;rw[List.count_cons_self]at this;simp;omega;rw[List.count_cons_of_ne (by simpa using e)]at this;simp[e];omega
   omega;have e:qJ gs γ x=0:=by unfold qJ;rw[if_neg q]
   have aY:=Pu gs γ m l fun k hk=>by have:=h k hk;rw[List.count_cons_of_ne ah]at this;exact this
   omega
theorem Kv{gs:List aE}(γ:Int→G):∀(n:Nat) (a b:T),a.size≤n→b9 gs a→b9 gs b→eL gs a b=1→eG (aU gs) (inst γ a) (inst γ b):=by
 intro n
 induction n with
 |zero=>intro a b h;have:=a.size_pos;omega
 |succ n aY=>
  intro a b aD bk al h;rw[alw]at h;obtain⟨v,h⟩:=h;have ax:=Pu gs γ (cq b) (cq a) (WT.1 v);have tH:=Pt γ bk;have Yp:=Pt γ al;rw[wg];rcases h with h|⟨e,p,q,h⟩
  left;omega;rcases Nat.lt_or_ge (fe (aU gs) (inst γ b)) (fe (aU gs) (inst γ a))with ab|ab
  exact .inl ab;right;refine⟨by omega,?_⟩;rw[tV p,tV q];simp only[G.head,G.args];rcases h with h|⟨aQ,h⟩
  left;omega;right;refine⟨by rw[aQ],?_⟩;right;have ann:a.args.length=b.args.length:=by have ab:=bk.arity p;have ae:=al.arity q;rw[aQ]at ab;omega
  refine⟨by rw[vh,vh];simpa using ann,?_⟩
  have key:∀(l m:List T),(∀x∈l,x.size≤n∧b9 gs x)→(∀x∈m,b9 gs x)→cS gs l m=1→j3 (aU gs) (gN γ l) (gN γ m):=by
   intro l
   induction l with
   |nil=>intro m _ _ h;cases m<;>simp[cS]at h
   |cons x l Kw=>
    intro m aA hm du
    cases m with
    |nil=>simp[cS]at du
    |cons y m=>simp only[cS]at du;simp only[gN];rw[j3];obtain⟨m6,hG⟩:=aA x (List.mem_cons_self ..);have aw:=hm y (List.mem_cons_self ..);by_cases fE:eL gs x y=0;rw[if_neg ah]at du;have ano:=OG hG aw fE;subst ano;exact .inr ⟨rfl,Kw m (fun w hw=>aA w (List.mem_cons_of_mem _ hw)) (fun w hw=>hm w (List.mem_cons_of_mem _ hw)) du⟩;rw[if_pos fE]at du;exact .inl (aY x y m6 hG aw du)
  refine key a.args b.args (fun x af=>⟨?_,bk.args x af⟩) al.args h;obtain⟨i,aj,rfl⟩:=List.getElem_of_mem af;have:=pt a.args i aj;have:=wv a;omega
section
structure e5 where
  neg:Bool
  l:G
  r:G
noncomputable instance:DecidableEq G:=fun _ _=>Classical.propDecidable _
noncomputable instance:DecidableEq e5:=fun _ _=>Classical.propDecidable _
variable {w:Nat→Nat}
noncomputable def wS(w:Nat→Nat)(a b:G):Bool:= @decide (eG w a b) (Classical.propDecidable _)
theorem rK{a b:G}:wS w a b=true↔eG w a b:=by unfold wS;exact @decide_eq_true_iff _ (Classical.propDecidable _)
theorem Bv:AW (wS w) (fun _=>True) where
  AX x:=by cases h:wS w x x;rfl;exact absurd (rK.1 h) (pw x)
  jH x y z _ _ _ h k:=rK.2 (xx x y z (rK.1 h) (rK.1 k))
def i_(w:Nat→Nat)(x y:e5):Prop:=eG w x.l y.l∨(x.l=y.l∧((x.neg=true∧y.neg=false)∨(x.neg=y.neg∧eG w x.r y.r)))
theorem Yq(x:e5):¬i_ w x x:=by
 rintro(h|⟨_,⟨ab,ae⟩|⟨_,h⟩⟩);exact pw _ h;rw[ab]at ae;cases ae;exact pw _ h
theorem Pv{x y z:e5}(h:i_ w x y)(k:i_ w y z):i_ w x z:=by
 unfold i_ at*;rcases h with h|⟨e,h⟩
 left;rcases k with k|⟨aT,_⟩
 exact xx _ _ _ h k;rw[←aT];exact h;rcases k with k|⟨aT,k⟩
 left;rw[e];exact k;right;refine⟨e.trans aT,?_⟩;rcases h with⟨ab,ae⟩|⟨ab,ae⟩
 rcases k with⟨c8,b6⟩|⟨c8,b6⟩
 exact .inl ⟨ab,b6⟩;exact .inl ⟨ab,by rw[←c8];exact ae⟩;rcases k with⟨c8,b6⟩|⟨c8,b6⟩
 exact .inl ⟨by rw[ab];exact c8,b6⟩;exact .inr ⟨ab.trans c8,xx _ _ _ ae b6⟩
theorem Yr(x y:e5):x=y∨i_ w x y∨i_ w y x:=by
 unfold i_;rcases wh (w:=w) x.l y.l with ab|ab|ab
 rcases wh (w:=w) x.r y.r with ae|ae|ae
 cases af:x.neg<;>cases aw:y.neg;left;cases x;cases y;simp_all;exact .inr (.inr (.inr ⟨ab.symm,.inl ⟨rfl,rfl⟩⟩));exact .inr (.inl (.inr ⟨ab,.inl ⟨rfl,rfl⟩⟩));left;cases x;cases y;simp_all;cases af:x.neg<;>cases aw:y.neg;exact .inr (.inl (.inr ⟨ab,.inr ⟨rfl,ae⟩⟩));exact .inr (.inr (.inr ⟨ab.symm,.inl ⟨rfl,rfl⟩⟩));exact .inr (.inl (.inr ⟨ab,.inl ⟨rfl,rfl⟩⟩));exact .inr (.inl (.inr ⟨ab,.inr ⟨rfl,ae⟩⟩));cases af:x.neg<;>cases aw:y.neg;exact .inr (.inr (.inr ⟨ab.symm,.inr ⟨rfl,ae⟩⟩));exact .inr (.inr (.inr ⟨ab.symm,.inl ⟨rfl,rfl⟩⟩));exact .inr (.inl (.inr ⟨ab,.inl ⟨rfl,rfl⟩⟩));exact .inr (.inr (.inr ⟨ab.symm,.inr ⟨rfl,ae⟩⟩));exact .inr (.inl (.inl ab));exact .inr (.inr (.inl ab))
theorem anp(hw:∀h,1≤w h):WellFounded (fun a b:e5=>i_ w b a):=by
 have key:∀l:G,∀(n:Bool) (r:G),Acc (fun a b:e5=>i_ w b a) ⟨n,l,r⟩:=by
  intro l
  induction l using(AY hw).induction with
  |_ l Kw=>
    have aB:∀r:G,Acc (fun a b:e5=>i_ w b a) ⟨false,l,r⟩:=by
     intro r
     induction r using(AY hw).induction with
     |_ r GA=>
      refine Acc.intro _ fun y aw=> ?_;rcases aw with h|⟨e,⟨h,_⟩|⟨ab,ae⟩⟩
      exact Kw y.l h y.neg y.r;cases h
      cases y with
      |mk n a b=>simp only at e ab ae;subst e;subst ab;exact GA b ae
    intro n r
    cases n with
    |false=>exact aB r
    |true=>
     induction r using(AY hw).induction with
     |_ r GA=>
      refine Acc.intro _ fun y aw=> ?_;rcases aw with h|⟨e,⟨_,h⟩|⟨ab,ae⟩⟩
      exact Kw y.l h y.neg y.r
      cases y with
      |mk n a b=>simp only at e h;subst e;subst h;exact aB b
      cases y with
      |mk n a b=>simp only at e ab ae;subst e;subst ab;exact GA b ae
 exact⟨fun x=>key x.l x.neg x.r⟩
noncomputable def Dy(w:Nat→Nat)(a b:e5):Bool:= @decide (i_ w a b) (Classical.propDecidable _)
theorem xR{a b:e5}:Dy w a b=true↔i_ w a b:=by unfold Dy;exact @decide_eq_true_iff _ (Classical.propDecidable _)
theorem Kx:AW (Dy w) (fun _=>True) where
  AX x:=by cases h:Dy w x x;rfl;exact absurd (xR.1 h) (Yq x)
  jH x y z _ _ _ h k:=xR.2 (Pv (xR.1 h) (xR.1 k))
def e5.ok(w:Nat→Nat)(x:e5):Prop:=gS w x.l x.r
def pP(x:e5):List G:=if x.neg=true then[x.l,x.l,x.r,x.r]else[x.l,x.r]
theorem Pw{x:e5}(h:x.ok w):x.l∈pP x∧∀u∈pP x,gS w x.l u:=by
 unfold pP;split;refine⟨by simp,fun u hu=> ?_⟩;simp only[List.mem_cons,List.not_mem_nil,or_false]at hu;rcases hu with rfl|rfl|rfl|rfl
 exact .refl _;exact .refl _;exact h;exact h;refine⟨by simp,fun u hu=> ?_⟩;simp only[List.mem_cons,List.not_mem_nil,or_false]at hu;rcases hu with rfl|rfl
 exact .refl _;exact h
theorem Ys{x y:e5}(af:x.ok w)(aw:y.ok w)(h:i_ w x y):hf (wS w) (pP x) (pP y)=1:=by
 rcases h with h|⟨e,⟨ab,ae⟩|⟨ab,ae⟩⟩
 refine C4 Bv (s:= []) (List.Perm.refl _) (List.Perm.refl _) (List.ne_nil_of_mem (Pw af).1) fun u hu=>⟨x.l,(Pw af).1,rK.2 (h.ge ((Pw aw).2 u hu))⟩
 unfold pP;rw[if_pos ab,if_neg (by rw[ae];decide),←e];rcases aw with aw|aw
 refine C4 Bv (s:= [x.l,x.l]) (x:= [x.r,x.r]) (y:= []) (List.Perm.refl _) (by rw[←aw,←e];exact List.Perm.refl _) (by simp) fun u hu=>by simp at hu
 refine C4 Bv (s:= [x.l]) (x:= [x.l,x.r,x.r]) (y:= [y.r]) (List.Perm.refl _) (List.Perm.refl _) (by simp) fun u hu=> ?_;rw[List.mem_singleton]at hu;subst hu;exact⟨x.l,by simp,rK.2 (by rw[e];exact aw)⟩;unfold pP;rw[←ab,←e];split;refine C4 Bv (s:= [x.l,x.l]) (x:= [x.r,x.r]) (y:= [y.r,y.r]) (List.Perm.refl _) (List.Perm.refl _) (by simp) fun u hu=>⟨x.r,by simp,?_⟩
 simp only[List.mem_cons,List.not_mem_nil,or_false,or_self]at hu;subst hu;exact rK.2 ae;refine C4 Bv (s:= [x.l]) (x:= [x.r]) (y:= [y.r]) (List.Perm.refl _) (List.Perm.refl _) (by simp) fun u hu=>⟨x.r,by simp,?_⟩
 rw[List.mem_singleton]at hu;subst hu;exact rK.2 ae
theorem anq{x y:e5}(af:x.ok w)(aw:y.ok w)(h:hf (wS w) (pP x) (pP y)=1):i_ w x y:=by
 rcases Yr (w:=w) x y with rfl|k|k
 rw[Vr]at h;cases h;exact k;have:=ajN Bv (fun _ _=>trivial) (fun _ _=>trivial) (Ys aw af k);rw[h]at this;cases this
noncomputable def fC(w:Nat→Nat)(n:Bool)(a b:G):e5:=if wS w b a=true then⟨n,b,a⟩else⟨n,a,b⟩
theorem GB(n:Bool)(a b:G):(fC w n a b).ok w:=by
 unfold fC e5.ok;split;rename_i h;exact .inr (rK.1 h);rename_i h;exact N1.1 (fun k=>h (rK.2 k))
theorem Yt(n:Bool)(a b:G):(fC w n a b).neg=n:=by unfold fC;split<;>rfl
theorem wT{n:Bool}{a b:G}(h:gS w a b):fC w n a b=⟨n,a,b⟩:=by
 unfold fC;rw[if_neg (fun k=>N1.2 h (rK.1 k))]
theorem xS(n:Bool)(a b:G):fC w n a b=fC w n b a:=by
 rcases wh (w:=w) a b with rfl|h|h
 rfl;rw[wT (.inr h)];unfold fC;rw[if_pos (rK.2 h)];rw[wT (a:=b) (.inr h)];unfold fC;rw[if_pos (rK.2 h)]
theorem Bw(n:Bool)(a b:G):(fC w n a b=⟨n,a,b⟩∧gS w a b)∨(fC w n a b=⟨n,b,a⟩∧gS w b a):=by
 rcases wh (w:=w) a b with rfl|h|h
 exact .inl ⟨wT (.refl _),.refl _⟩;exact .inl ⟨wT (.inr h),.inr h⟩;exact .inr ⟨by rw[xS];exact wT (.inr h),.inr h⟩
theorem Px(n:Bool)(a b:G):(pP (fC w n a b)).Perm (if n=true then[a,a,b,b]else[a,b]):=by
 rcases Bw (w:=w) n a b with⟨e,_⟩|⟨e,_⟩
 rw[e];exact List.Perm.refl _;rw[e];unfold pP;split;exact List.perm_append_comm (l₁:= [b,b]) (l₂:= [a,a]);exact List.Perm.swap ..
noncomputable def cL(w:Nat→Nat)(γ:Int→G)(x:ak):e5:=fC w x.neg (inst γ x.l) (inst γ x.r)
noncomputable def bC(w:Nat→Nat)(γ:Int→G)(c:List ak):List e5:=c.map (cL w γ)
theorem Yu{γ:Int→G}{x y:ak}(h:jO x y=true):cL w γ x=cL w γ y:=by
 unfold cL;rcases(vd.1 h)with⟨e,⟨ab,ae⟩|⟨ab,ae⟩⟩;rw[e,ab,ae];rw[e,ab,ae,xS]
theorem Py{gs:List aE}(γ:Int→G){x y:ak}(af:wQ gs x)(aw:wQ gs y)(h:tS gs x y=true):i_ (aU gs) (cL (aU gs) γ x) (cL (aU gs) γ y):=by
 unfold tS at h;rw[decide_eq_true_eq,Yk]at h;have ab:=Vs (g':=wS (aU gs)) (f:=inst γ) (fun a bk b al nk=>rK.2 (Kv γ _ a b (Nat.le_refl _) (af.row a bk) (aw.row b al) (of_decide_eq_true nk))) (Ok:=fun _=>True) Bv (fun _ _=>trivial) (fun _ _=>trivial) h;refine anq (GB ..) (GB ..) ?_;rw[←ab];refine Jk ?_ ?_;refine(Px ..).trans ?_;unfold gM;split<;>exact List.Perm.refl _;refine(Px ..).trans ?_;unfold gM;split<;>exact List.Perm.refl _
def nS(w:Nat→Nat)(c d:List e5):Prop:=hf (Dy w) c d=1
theorem Yv(hw:∀h,1≤w h):WellFounded (fun a b:List e5=>nS w b a):=
  aj2 (Subrelation.wf (fun{a b} h=>xR.1 h) (anp hw))
theorem Pz{a b c:List e5}(h:nS w a b)(k:nS w b c):nS w a c:=Vn Kx (fun _ _=>trivial) (fun _ _=>trivial) (fun _ _=>trivial) h k
theorem Ky{a b eQ b':List e5}(h:nS w a b)(p:a.Perm eQ)(q:b.Perm b'):nS w eQ b':=by unfold nS at*;rw[←Jk p q];exact h
theorem anr{gs:List aE}(γ:Int→G){c d:List ak}(aq:∀x∈c,wQ gs x)(aH:∀x∈d,wQ gs x)(h:tT gs c d=1):nS (aU gs) (bC (aU gs) γ c) (bC (aU gs) γ d):=by
 unfold tT at h;have can:∀x:ak,cL (aU gs) γ (hx x)=cL (aU gs) γ x:=fun x=>(Yu (Gw x)).symm;have ab:=Vs (g':=Dy (aU gs)) (f:=cL (aU gs) γ) (fun a bk b al nk=>by obtain⟨x,af,rfl⟩:=List.mem_map.1 bk;obtain⟨y,aw,rfl⟩:=List.mem_map.1 al;exact xR.2 (Py γ (aq x af).can (aH y aw).can nk)) (Ok:=fun _=>True) Kx (fun _ _=>trivial) (fun _ _=>trivial) h;have e:∀l:List ak,(l.map hx).map (cL (aU gs) γ)=bC (aU gs) γ l:=fun l=>by unfold bC;rw[List.map_map];exact List.map_congr_left fun x _=>can x
 rw[e,e]at ab;exact ab
def kI(w:Nat→Nat)(d c:List e5):Prop:=d.Perm c∨nS w c d
theorem kI.refl(c:List e5):kI w c c:=.inl (List.Perm.refl _)
theorem kI.trans{a b c:List e5}(h:kI w a b)(k:kI w b c):kI w a c:=by
 rcases h with h|h
 rcases k with k|k
 exact .inl (h.trans k);exact .inr (Ky k (List.Perm.refl _) h.symm);rcases k with k|k
 exact .inr (Ky h k (List.Perm.refl _));exact .inr (Pz k h)
theorem kI.gt{a b c:List e5}(h:kI w a b)(k:nS w c b):nS w c a:=by
 rcases h with h|h
 exact Ky k (List.Perm.refl _) h.symm;exact Pz k h
theorem xT{c d s x y:List e5}(aq:c.Perm (s++x))(aH:d.Perm (s++y))(af:x≠[])(h:∀u∈y,∃t∈x,i_ w t u):nS w c d:=
  C4 Kx aq aH af fun u hu=>by obtain⟨t,ar,h⟩:=h u hu;exact⟨t,ar,xR.2 h⟩
theorem Yw{c d e:List e5}(h:c.Perm (d++e)):kI w d c:=by
 cases e with
 |nil=>left;simpa using h.symm
 |cons x e=>exact .inr (xT h (y:= []) (by simp) (by simp) fun u hu=>by simp at hu)
def Yx(w:Nat→Nat)(x y:e5):Prop:=x=y∨i_ w x y
theorem PA{c d:List e5}{x y:e5}(h:kI w d c)(k:Yx w x y):kI w (y::d) (x::c):=by
 have ab:kI w (x::d) (x::c):=by
  rcases h with h|h
  exact .inl (h.cons x);right;obtain⟨s,a,b,ab,ae,aF,bb⟩:=N7 h;exact xT (s:=x::s) (ab.cons x) (ae.cons x) aF fun u hu=>by obtain⟨t,ar,h⟩:=bb u hu;exact⟨t,ar,xR.1 h⟩
 refine kI.trans ?_ ab;rcases k with rfl|k
 exact .refl _;exact .inr (xT (s:=d) (x:= [x]) (y:= [y]) (List.perm_append_comm (l₁:= [x])) (List.perm_append_comm (l₁:= [y])) (by simp) fun u hu=>by rw[List.mem_singleton]at hu;subst hu;exact⟨x,by simp,k⟩)
end
inductive Dz(R:G→G→Prop):List G→List G→Prop
  |nil:Dz R [] []
  |cons {a b:G} {l m:List G}:R a b→Dz R l m→Dz R (a::l) (b::m)
structure iG(E:G→G→Prop):Prop where
  rfl:∀a,E a a
  symm:∀{a b},E a b→E b a
  trans:∀{a b c},E a b→E b c→E a c
  app:∀(h:Nat) {l m:List G},Dz E l m→E (.mk h l) (.mk h m)
def sK(E:G→G→Prop)(x:e5):Prop:=if x.neg=true then¬E x.l x.r else E x.l x.r
def gY(E:G→G→Prop)(c:List e5):Prop:=∃x∈c,sK E x
theorem kJ{E:G→G→Prop}(bt:iG E){w:Nat→Nat}{n:Bool}{a b:G}:sK E (fC w n a b)↔if n=true then¬E a b else E a b:=by
 have aq:E a b↔E b a:=⟨bt.symm,bt.symm⟩
 unfold sK;rcases Bw (w:=w) n a b with⟨e,_⟩|⟨e,_⟩<;>rw[e]<;>simp only
 rw[aq]
theorem GC{E:G→G→Prop}{c d:List e5}(h:gY E c)(p:c.Perm d):gY E d:=by
 obtain⟨x,af,h⟩:=h;exact⟨x,p.mem_iff.1 af,h⟩
mutual
def mU(gs:List aE):G→Prop
  |.mk h us=>wz gs h=false∧GD gs us
def GD(gs:List aE):List G→Prop
  | []=>True
  |a::r=>mU gs a∧GD gs r
end
theorem Kz{gs:List aE}:∀{l:List G},GD gs l↔∀x∈l,mU gs x
  | []=>by simp[GD]
  |a::r=>by simp[GD,Kz (l:=r)]
def dw(gs:List aE)(γ:Int→G):Prop:=∀v,mU gs (γ v)
def eT(gs:List aE)(S:List ak→Prop)(c:List e5):Prop:=
  ∀E,iG E→(∀C,S C→∀γ,dw gs γ→kI (aU gs) (bC (aU gs) γ C) c→gY E (bC (aU gs) γ C))→gY E c
theorem eT.trans{gs:List aE}{S eA:List ak→Prop}{c:List e5}(h:eT gs S c)(k:∀C,S C→∀γ,dw gs γ→eT gs eA (bC (aU gs) γ C)):eT gs eA c:=fun E bt eO=>
  h E bt fun C cD γ bl hle=>k C cD γ bl E bt fun D fK δ nT F5=>eO D fK δ nT (F5.trans hle)
theorem eT.mono{gs:List aE}{S eA:List ak→Prop}{c:List e5}(h:eT gs S c)(k:∀C,S C→eA C):eT gs eA c:=fun E bt eO=>h E bt fun C cD=>eO C (k C cD)
theorem eT.self{gs:List aE}{S:List ak→Prop}{C:List ak}(h:S C){γ:Int→G}(bl:dw gs γ):eT gs S (bC (aU gs) γ C):=fun E bt eO=>eO C h γ bl (.refl _)
theorem eT.of{gs:List aE}{S:List ak→Prop}{c d:List e5}(h:eT gs S d)(hle:kI (aU gs) d c)(a7:∀E,iG E→gY E d→gY E c):eT gs S c:=fun E bt eO=>
  a7 E bt (h E bt fun C cD γ bl aA=>eO C cD γ bl (aA.trans hle))
section
variable {w:Nat→Nat}
theorem Bx(hw:∀h,1≤w h){P:G→Prop}(h:∃r,P r):∃r,P r∧∀kR,P kR→gS w kR r:=by
 obtain⟨r,an⟩:=h
 induction r using(AY hw).induction with
 |_ r aY=>by_cases q:∃kR,P kR∧eG w r kR;obtain⟨kR,ab,ae⟩:=q;exact aY kR ae ab;exact⟨r,an,fun kR h=>N1.1 fun k=>q ⟨kR,h,k⟩⟩
abbrev DA(w:Nat→Nat)(t:G):= {v:G//gS w t v}
def DB(w:Nat→Nat)(cv:G→G→List e5→Prop)(t:G)(f:∀u,qq w u t→DA w u)(r:G):Prop:=
  ∃rest,cv t r rest∧∃an:eG w t r,∀y∈rest,i_ w ⟨false,t,r⟩ y∧y.ok w∧
    (∀(ab:eG w t y.l) (ae:eG w t y.r),(y.neg=true→(f y.l ab).1=(f y.r ae).1)∧(y.neg=false→(f y.l ab).1≠(f y.r ae).1))∧
    (y.l=t→y.neg=false∧∀ae:eG w t y.r,(f y.r ae).1≠(f r an).1)
theorem DB.gt{cv:G→G→List e5→Prop}{t r:G}{f:∀u,qq w u t→DA w u}(h:DB w cv t f r):eG w t r:=by
 obtain⟨_,_,an,_⟩:=h;exact an
theorem Yy(hw:∀h,1≤w h)(t:G)(f:∀u,qq w u t→DA w u)(aA:∀x∈t.args,qq w x t):∀(l:List G) (h:∀x∈l,x∈t.args),k4 w l (l.attach.map fun a=>(f a.1 (aA a.1 (h a.1 a.2))).1)
  | [],_=>.nil
  |x::l,h=>by rw[List.attach_cons,List.map_cons,List.map_map];exact .cons (f x _).2 (Yy hw t f aA l fun y aw=>h y (List.mem_cons_of_mem _ aw))
theorem KA(hw:∀h,1≤w h)(t:G):∀x∈t.args,qq w x t:=fun x af=>by have:=Vz hw (x:=x) (h:=t.head) af;rw[←t.eta]at this;exact this
open Classical in
noncomputable def GF(hw:∀h,1≤w h)(cv:G→G→List e5→Prop)(t:G)(f:∀u,qq w u t→DA w u):DA w t:=
  if bk:(t.args.attach.map fun a=>(f a.1 (KA hw t a.1 a.2)).1)=t.args then
    if aq:∃r,DB w cv t f r then
      ⟨(f (Bx hw aq).choose (Bx hw aq).choose_spec.1.gt).1,.inr ((Bx hw aq).choose_spec.1.gt.ge (f _ (Bx hw aq).choose_spec.1.gt).2)⟩
    else⟨t,.refl t⟩
  else
    have aM:eG w t (.mk t.head (t.args.attach.map fun a=>(f a.1 (KA hw t a.1 a.2)).1)):=by have ab:=(Yy hw t f (KA hw t) t.args fun x af=>af).Fq (fun e=>bk e.symm) t.head;rw[←t.eta]at ab;exact ab
    ⟨(f _ aM).1,.inr (aM.ge (f _ aM).2)⟩
noncomputable def sL(hw:∀h,1≤w h)(cv:G→G→List e5→Prop)(t:G):DA w t:=(AY hw).fix (GF hw cv) t
noncomputable def fg(hw:∀h,1≤w h)(cv:G→G→List e5→Prop)(t:G):G:=(sL hw cv t).1
variable (hw:∀h,1≤w h) (cv:G→G→List e5→Prop)
def wU(t r:G):Prop:=
  ∃rest,cv t r rest∧eG w t r∧∀y∈rest,i_ w ⟨false,t,r⟩ y∧y.ok w∧
    (eG w t y.l→(y.neg=true→fg hw cv y.l=fg hw cv y.r)∧(y.neg=false→fg hw cv y.l≠fg hw cv y.r))∧
    (y.l=t→y.neg=false∧fg hw cv y.r≠fg hw cv r)
theorem By(t:G):gS w t (fg hw cv t):=(sL hw cv t).2
theorem PB(t r:G):DB w cv t (fun u _=>sL hw cv u) r↔wU hw cv t r:=by
 unfold DB wU;constructor;rintro⟨rest,ab,ae,aF⟩;refine⟨rest,ab,ae,fun y aw=> ?_⟩;obtain⟨a,b,c,d⟩:=aF y aw;refine⟨a,b,fun h=>c h (h.ge b),fun e=>⟨(d e).1,?_⟩⟩;rcases a with a|⟨_,⟨a,_⟩|⟨_,a⟩⟩
 simp only at a;rw[e]at a;exact absurd a (pw _);cases a;exact(d e).2 (xx _ _ _ ae a);rintro⟨rest,ab,ae,aF⟩;refine⟨rest,ab,ae,fun y aw=> ?_⟩;obtain⟨a,b,c,d⟩:=aF y aw;exact⟨a,b,fun h _=>c h,fun e=>⟨(d e).1,fun _=>(d e).2⟩⟩
theorem PC(t:G):sL hw cv t=GF hw cv t (fun u _=>sL hw cv u):=by
 unfold sL;rw[WellFounded.fix_eq]
theorem PD(t:G):(t.args.attach.map fun a=>(sL hw cv a.1).1)=t.args.map (fg hw cv):=by
 have h:t.args.attach.map (fg hw cv∘Subtype.val)=(t.args.attach.map Subtype.val).map (fg hw cv):=List.map_map.symm;rw[List.attach_map_subtype_val]at h;exact h
theorem KB{t:G}(h:t.args.map (fg hw cv)≠t.args):fg hw cv t=fg hw cv (.mk t.head (t.args.map (fg hw cv))):=by
 unfold fg;rw[PC hw cv t];unfold GF;have bk:¬(t.args.attach.map fun a=>(sL hw cv a.1).1)=t.args:=by rw[PD];exact h
 rw[dif_neg bk];exact congrArg (fun l=>(sL hw cv (G.mk t.head l)).1) (PD hw cv t)
theorem PE{t:G}(h:t.args.map (fg hw cv)=t.args):(∃r,wU hw cv t r∧(∀kR,wU hw cv t kR→gS w kR r)∧fg hw cv t=fg hw cv r)∨((∀r,¬wU hw cv t r)∧fg hw cv t=t):=by
 have bk:(t.args.attach.map fun a=>(sL hw cv a.1).1)=t.args:=by rw[PD];exact h
 by_cases aq:∃r,DB w cv t (fun u _=>sL hw cv u) r;left;refine⟨(Bx hw aq).choose,(PB hw cv _ _).1 (Bx hw aq).choose_spec.1,fun kR et=>(Bx hw aq).choose_spec.2 kR ((PB hw cv _ _).2 et),?_⟩;show(sL hw cv t).1=_;rw[PC hw cv t];unfold GF;rw[dif_pos bk,dif_pos aq];rfl;right;refine⟨fun r an=>aq ⟨r,(PB hw cv _ _).2 an⟩,?_⟩;show(sL hw cv t).1=_;rw[PC hw cv t];unfold GF;rw[dif_pos bk,dif_neg aq]
end
section
variable {w:Nat→Nat} (hw:∀h,1≤w h) (cv:G→G→List e5→Prop)
theorem PF{f:G→G}:∀{l:List G},l.map f=l↔∀x∈l,f x=x
  | []=>by simp
  |a::l=>by simp[PF (l:=l)]
theorem Yz:∀t:G,fg hw cv (fg hw cv t)=fg hw cv t:=by
 intro t
 induction t using(AY hw).induction with
 |_ t aY=>
  by_cases h:t.args.map (fg hw cv)=t.args;rcases PE hw cv h with⟨r,an,_,e⟩|⟨_,e⟩
  obtain⟨_,_,fy,_⟩:=an;rw[e];exact aY r fy;rw[e,e];rw[KB hw cv h];refine aY _ ?_
  have aM:k4 w t.args (t.args.map (fg hw cv)):=by
   generalize t.args=l
   induction l with
   |nil=>exact .nil
   |cons x l aY=>exact .cons (By hw cv x) aY
  have:=aM.Fq (fun e=>h e.symm) t.head;rw[←t.eta]at this;exact this
theorem YA(h:Nat)(us:List G):fg hw cv (.mk h us)=fg hw cv (.mk h (us.map (fg hw cv))):=by
 by_cases q:(G.mk h us).args.map (fg hw cv)=(G.mk h us).args;have:us.map (fg hw cv)=us:=q;rw[this];exact KB hw cv q
def KC(a b:G):Prop:=fg hw cv a=fg hw cv b
theorem YB:iG (KC hw cv) where
  rfl _:=rfl
  symm h:=Eq.symm h
  trans h k:=Eq.trans h k
  app h l m aA:=by
   unfold KC;rw[YA hw cv h l,YA hw cv h m]
   have:l.map (fg hw cv)=m.map (fg hw cv):=by
    induction aA with
    |nil=>rfl
    |cons h _ aY=>rw[List.map_cons,List.map_cons,aY,show fg hw cv _=fg hw cv _ from h]
   rw[this]
theorem ans{t:G}(h:fg hw cv t=t):∀x∈t.args,fg hw cv x=x:=by
 refine(PF).1 ?_;refine Classical.byContradiction fun q=> ?_;have e:=KB hw cv q
 have aM:k4 w t.args (t.args.map (fg hw cv)):=by
  generalize t.args=l
  induction l with
  |nil=>exact .nil
  |cons x l aY=>exact .cons (By hw cv x) aY
 have ab:=aM.Fq (fun e=>q e.symm) t.head;rw[←t.eta]at ab;have ae:=ab.ge (By hw cv _);rw[←e,h]at ae;exact pw _ ae
structure Bz(l r:G):Prop where
  args:∀x∈l.args,fg hw cv x=x
  GG:wU hw cv l r
  least:∀kR,wU hw cv l kR→gS w kR r
  eq:fg hw cv l=fg hw cv r
theorem Bz.gt{l r:G}(h:Bz hw cv l r):eG w l r:=by obtain⟨_,_,h,_⟩:=h.GG;exact h
theorem Bz.ne{l r:G}(h:Bz hw cv l r):fg hw cv l≠l:=fun e=>by have:=(h.gt hw cv).ge (By hw cv r);rw[←h.eq,e]at this;exact pw _ this
theorem YC{t:G}(bk:∀x∈t.args,fg hw cv x=x)(h:(∃r,wU hw cv t r)∨fg hw cv t≠t):∃r,Bz hw cv t r:=by
 rcases PE hw cv (PF.2 bk)with⟨r,ab,ae,aF⟩|⟨ab,ae⟩
 exact⟨r,bk,ab,ae,aF⟩;rcases h with⟨r,h⟩|h
 exact absurd h (ab r);exact absurd ae h
end
def hL(γ:Int→G):T→List Int→G→G
  |_,[],b=>b
  |t,x::p,b=>.mk t.head.toNat ((gN γ t.args).set x.toNat (hL γ (t.args.getD x.toNat jd) p b))
theorem zy{t u:T}{x:Int}{p:List Int}(h:cO t (x::p)=some u):∃i:Nat,x=i∧∃aj:i<t.args.length,cO t.args[i] p=some u:=by
 unfold cO at h;by_cases bK:0≤x∧x.toNat<t.args.length;rw[dif_pos bK]at h;obtain⟨i,rfl⟩:=Int.eq_ofNat_of_zero_le bK.1;exact⟨i,rfl,by simpa using bK.2,by simpa using h⟩;rw[dif_neg bK]at h;cases h
theorem KD{t u:T}{x:Int}{p:List Int}{gs:List aE}(ok:b9 gs t)(h:cO t (x::p)=some u):0≤t.head:=by
 obtain⟨i,_,aj,_⟩:=zy h;refine Classical.byContradiction fun q=> ?_;rw[ok.leaf ah]at aj;simp at aj
theorem KE{t:T}{i:Nat}(aj:i<t.args.length):t.args.getD i jd=t.args[i]:=by
 rw[List.getD_eq_getElem?_getD,List.getElem?_eq_getElem aj];rfl
theorem ant{l:List G}{i:Nat}(aj:i<l.length)(b:G):l=l.take i++l[i]::l.drop (i+1)∧l.set i b=l.take i++b::l.drop (i+1):=by
 refine⟨?_,?_⟩;rw[←List.drop_eq_getElem_cons aj,List.take_append_drop];rw[List.set_eq_take_append_cons_drop,if_pos aj]
theorem PG{gs:List aE}{γ:Int→G}{t u:T}{x:Int}{p:List Int}{b:G}(ok:b9 gs t)(h:cO t (x::p)=some u):
 ∃(i:Nat) (aj:i<t.args.length) (l r:List G),x=i∧cO t.args[i] p=some u∧inst γ t=.mk t.head.toNat (l++inst γ t.args[i]::r)∧hL γ t (x::p) b=.mk t.head.toNat (l++hL γ t.args[i] p b::r):=by
 have aB:=KD ok h;obtain⟨i,rfl,aj,ab⟩:=zy h;have aA:i<(gN γ t.args).length:=by rw[vh];simpa using aj
 have ao:=ant aA;have he:(gN γ t.args)[i]=inst γ t.args[i]:=by simp only[vh,List.getElem_map]
 refine⟨i,aj,(gN γ t.args).take i,(gN γ t.args).drop (i+1),rfl,ab,?_,?_⟩;rw[tV aB,←he,←(ao (.mk 0 [])).1];rw[hL,Int.toNat_natCast,KE aj,(ao _).2]
theorem KF{gs:List aE}{E:G→G→Prop}(bt:iG E){γ:Int→G}{b:G}:∀(p:List Int) {t u:T},b9 gs t→cO t p=some u→E (inst γ u) b→E (inst γ t) (hL γ t p b)
  | [],t,u,_,h,e=>by simp only[cO,Option.some.injEq]at h;subst h;exact e
  |x::p,t,u,ok,h,e=>by
   obtain⟨i,aj,l,r,rfl,ab,ae,aF⟩:=PG (γ:=γ) (b:=b) ok h;rw[ae,aF];refine bt.app _ ?_;have aY:=KF bt p (ok.args _ (List.getElem_mem aj)) ab e;clear ae aF
   have refl:∀m:List G,Dz E m m:=fun m=>by
    induction m with
    |nil=>exact .nil
    |cons x m aY=>exact .cons (bt.rfl x) aY
   induction l with
   |nil=>exact .cons aY (refl r)
   |cons y l anu=>exact .cons (bt.rfl y) anu
theorem KG{gs:List aE}{w:Nat→Nat}{γ:Int→G}{b:G}:∀(p:List Int) {t u:T},b9 gs t→cO t p=some u→eG w (inst γ u) b→eG w (inst γ t) (hL γ t p b)
  | [],t,u,_,h,e=>by simp only[cO,Option.some.injEq]at h;subst h;exact e
  |x::p,t,u,ok,h,e=>by obtain⟨i,aj,l,r,rfl,ab,ae,aF⟩:=PG (γ:=γ) (b:=b) ok h;rw[ae,aF];exact ajT (KG p (ok.args _ (List.getElem_mem aj)) ab e) _ l r
theorem YD{gs:List aE}{w:Nat→Nat}(hw:∀h,1≤w h){γ:Int→G}:∀(p:List Int) {t u:T},b9 gs t→cO t p=some u→(p= []∧inst γ t=inst γ u)∨eG w (inst γ t) (inst γ u)
  | [],t,u,_,h=>by simp only[cO,Option.some.injEq]at h;subst h;exact .inl ⟨rfl,rfl⟩
  |x::p,t,u,ok,h=>by
   obtain⟨i,aj,l,r,rfl,ab,ae,_⟩:=PG (γ:=γ) (b:=.mk 0 []) ok h;right;have bb:eG w (inst γ t) (inst γ t.args[i]):=by rw[ae];exact Vz hw (by simp)
   rcases YD hw (γ:=γ) p (ok.args _ (List.getElem_mem aj)) ab with⟨_,e⟩|e
   rw[←e];exact bb;exact xx _ _ _ bb e
section
variable {w:Nat→Nat} (hw:∀h,1≤w h) (cv:G→G→List e5→Prop)
theorem KH{t:T}{i:Nat}(aj:i<t.args.length):t.args[i].size<t.size:=by
 have:=pt t.args i aj;have:=wv t;omega
theorem anv{gs:List aE}{γ:Int→G}:∀(n:Nat) (t:T),t.size≤n→b9 gs t→(∀k∈cq t,k<0→fg hw cv (γ (-1-k))=γ (-1-k))→fg hw cv (inst γ t)≠inst γ t→∃p u r,cO t p=some u∧0≤u.head∧Bz hw cv (inst γ u) r:=by
 intro n
 induction n with
 |zero=>intro t h;have:=t.size_pos;omega
 |succ n aY=>
  intro t aD ok bl h;by_cases aB:0≤t.head;by_cases q:∃i,∃aj:i<t.args.length,fg hw cv (inst γ t.args[i])≠inst γ t.args[i];obtain⟨i,aj,q⟩:=q;have:=KH aj
  obtain⟨p,u,r,ab,ae,aF⟩:=aY t.args[i] ah (ok.args _ (List.getElem_mem aj)) (fun k hk=>bl k (by
   have e:t=.mk t.head t.args:=by cases t;rfl
   rw[e,ji];exact List.mem_cons_of_mem _ (List.mem_flatMap.2 ⟨_,List.getElem_mem aj,hk⟩))) q
  refine⟨(i:Int)::p,u,r,?_,ae,aF⟩;unfold cO;rw[dif_pos ⟨by omega,by simpa using aj⟩];simpa using ab;obtain⟨r,an⟩:=YC hw cv (t:=inst γ t) (fun x af=>by rw[tV aB,vh]at af;simp only[G.args]at af;obtain⟨a,bk,rfl⟩:=List.mem_map.1 af;obtain⟨i,aj,rfl⟩:=List.getElem_of_mem bk;exact Classical.byContradiction fun k=>q ⟨i,aj,k⟩) (.inr h);exact⟨[],t,r,rfl,aB,an⟩;exfalso;have e:t=.mk t.head t.args:=by cases t;rfl
  have hk:t.head∈cq t:=by rw[e,ji];exact List.mem_cons_self ..
  have aT:inst γ t=γ (-1-t.head):=by have:=lg γ t.head t.args;rw[←e]at this;rw[this,if_pos ah]
  rw[aT]at h;exact h (bl _ hk ah)
end
theorem YE(d:Nat):∀ts:List T,(jI d ts).any d_=ts.any fun t=>(dd 1 t).any d_
  | []=>rfl
  |t::r=>by rw[jI,List.any_append,List.any_cons,YE d r,Ox d 1 t]
theorem PH(p:Bool×T→Bool):∀ts:List T,(ey ts).any p=ts.any fun t=>(hi false t).any p
  | []=>rfl
  |t::r=>by rw[ey,List.any_append,List.any_cons,PH p r]
theorem anw(gs:List aE)(b:Bool)(t:T):(hi b t).any (hU gs)=sw gs t:=by
 unfold sw;rw[gU,gU];rfl
theorem anx(gs:List aE)(t:T):sw gs t=(hU gs (true,t)||t.args.any (sw gs)):=by
 unfold sw;rw[gU,List.any_cons,PH];congr 2;funext u;exact anw gs false u
theorem anz(gs:List aE)(t:T):xG gs t=t.args.any fun u=>jg gs (false,u)||xG gs u:=by
 have aB:∀u:T,jg gs (true,u)=false:=fun u=>by simp[jg]
 have ab:∀u:T,xG gs u=(ey u.args).any (jg gs):=fun u=>by unfold xG;rw[gU,List.any_cons,aB];simp
 rw[ab,PH];congr 1;funext u;rw[gU,List.any_cons,ab u]
def oM(t:T):Bool:=(dd 1 t).any d_
theorem KI(h:Int)(ts:List T):oM (.mk h ts)=(d_ (1,.mk h ts)||ts.any oM):=by
 unfold oM;rw[dd,List.any_cons,YE]
theorem PI{h:Int}{ts:List T}(aq:c2 (.mk h ts)=0):(h<0→ts= [])∧∀k (hk:k<ts.length),c2 ts[k]=0:=
  ⟨fun aD=>(F1 aq (true,.mk h ts) (by rw[gU];exact List.mem_cons_self ..)).1 aD,fun k hk=>Wu aq k hk⟩
def KJ(gs:List aE)(t:T):Bool:=decide (0≤t.head)&&(decide (t.head<gs.length)&&wz gs t.head)
theorem anA{gs:List aE}{t:T}(h:sw gs t=false):jg gs (false,t)=KJ gs t:=by
 have ae:hU gs (false,t)=false:=by rw[anx]at h;simp only[Bool.or_eq_false_iff]at h;exact h.1
 unfold jg KJ;rw[ae];by_cases aB:0≤t.head;have:¬(gs.length:Int)≤t.head:=by intro aC;simp[hU,aB,aC]at ae
 simp[aB,show t.head<gs.length by omega];simp[aB]
theorem PJ{h:Int}{ts:List T}:d_ (1,.mk h ts)=true↔(h<0∧0<ts.length)∨h< -256∨1023<h∨8<ts.length:=by
 have e:d_ (1,.mk h ts)=(decide (h<0)&&decide (0<ts.length)||decide (h< -256)||decide (1023<h)||decide (8<ts.length)):=rfl;rw[e];simp only[Bool.or_eq_true,Bool.and_eq_true,decide_eq_true_eq,or_assoc]
theorem anB{gs:List aE}{t:T}(h:b9 gs t):KJ gs t=cy gs t:=by
 have q:=h.ze (true,t) (by rw[gU];exact List.mem_cons_self ..);simp only at q;unfold KJ cy;by_cases aB:0≤t.head;have:t.head<(gs.length:Int):=by omega
 simp[this];simp[aB]
theorem bY.cells{I:aa}{ad:Option Addr}{n c:Nat}{xs:List Int}(h:bY I (.slice ad n c) xs):Cells I ad (xs.map (Value.int .i64)):=by
 generalize ax:Value.slice ad n c=v at h;obtain⟨qn,cJ,xs,_,_,aW,_⟩:=h;cases ax;exact aW
structure YF where
  size:Int
  rows:List (List Int)
structure anC(gs:List aE)(w:YF):Prop where
  ayG:1≤w.size
  aj:w.size≤4
  len:w.rows.length=gs.length
  each:∀i (h:i<gs.length),gs[i].cX≤4∧((w.rows[i]'(by omega)).length:Int)=w.size^gs[i].cX.toNat∧∀x∈w.rows[i]'(by omega),0≤x∧(gs[i].jH=false→x<w.size)
theorem KK{gs:List aE}{t:T}(h:b9 gs t)(i:Nat)(aj:i<t.args.length):cy gs t.args[i]=false:=by
 have aq:=(h.child i aj).1;have ab:=h.mix;rw[anz,List.any_eq_false]at ab;have ae:=ab t.args[i] (List.getElem_mem aj);simp only[Bool.or_eq_true,not_or,Bool.not_eq_true]at ae;rw[←anB aq,←anA aq.FW];exact ae.1
def aJ(b:Bool)(x:ak):T:=if b=true then x.r else x.l
theorem pQ{w:Nat→Nat}(γ:Int→G)(b:Bool)(x:ak):cL w γ x=fC w x.neg (inst γ (aJ b x)) (inst γ (aJ (!b) x)):=by
 unfold cL aJ;cases b;rfl;rw[xS];rfl
theorem anD{gs:List aE}(h:mh gs=true){t:T}(aB:t.head=0):cy gs t=true:=by
 obtain⟨aA,_⟩:=Dd h
 cases gs with
 |nil=>simp at aA
 |cons x r=>
  simp only[mh,Bool.and_eq_true]at h;have gF:x.jH=true:=by have:=h.2.1;unfold qs at this;simp only[Bool.and_eq_true]at this;simp_all[pC]
  unfold cy wz;rw[aB];simp[gF]
theorem PK{gs:List aE}{x:ak}(h:ee gs x=0):cy gs x.l=cy gs x.r:=by
 obtain⟨ab,ae⟩:=ld h;have ao:mT gs x=false:=by unfold ee at h;split at h;rename_i q;exact absurd h q;split at h;rename_i q;exact absurd h q;split at h;cases h;rename_i q;simpa using q
 unfold mT at ao;simp only[Bool.or_eq_false_iff,Bool.and_eq_false_iff,Bool.not_eq_false',decide_eq_false_iff_not,ne_eq,Classical.not_not]at ao;obtain⟨aQ,aT⟩:=ao;cases q:cy gs x.l;rcases aT with e|e
 rw[q]at e;cases e;exact e.symm;rcases aQ with e|e
 rw[q]at e;cases e;exact(anD ab.right e).symm
theorem YG{gs:List aE}{x:ak}(h:ee gs x=0)(b:Bool):cy gs (aJ (!b) x)=cy gs (aJ b x):=by
 have:=PK h;unfold aJ;cases b;exact this.symm;exact this
theorem gB{gs:List aE}{x:ak}(h:ee gs x=0)(b:Bool):b9 gs (aJ b x):=by
 obtain⟨ab,ae⟩:=ld h;unfold aJ;split;exact ae;exact ab
theorem PL{gs:List aE}{γ:Int→G}(bl:dw gs γ):∀(n:Nat) (t:T),t.size≤n→b9 gs t→cy gs t=false→mU gs (inst γ t):=by
 intro n
 induction n with
 |zero=>intro t h;have:=t.size_pos;omega
 |succ n aY=>
  intro t aD ok h;by_cases aB:0≤t.head;rw[tV aB,mU,Kz,vh];unfold cy at h;rw[decide_eq_true aB,Bool.true_and]at h;refine⟨?_,fun x af=> ?_⟩;have e:((t.head.toNat:Nat):Int)=t.head:=by omega
  rw[e];exact h;obtain⟨a,bk,rfl⟩:=List.mem_map.1 af;obtain⟨i,aj,rfl⟩:=List.getElem_of_mem bk;have:=KH aj;exact aY _ ah (ok.args _ bk) (KK ok i aj)
  have aT:inst γ t=γ (-1-t.head):=by
   have e:t=.mk t.head t.args:=by cases t;rfl
   have:=lg γ t.head t.args;rw[←e]at this;rw[this,if_pos ah]
  rw[aT];exact bl _
theorem KL{gs:List aE}{γ:Int→G}(bl:dw gs γ){t:T}(ok:b9 gs t):mU gs (inst γ t)↔cy gs t=false:=by
 refine⟨fun h=> ?_,PL bl _ t (Nat.le_refl _) ok⟩;by_cases aB:0≤t.head;rw[tV aB,mU]at h;unfold cy;have e:((t.head.toNat:Nat):Int)=t.head:=by omega
 rw[e]at h;rw[h.1,Bool.and_false];unfold cy;rw[decide_eq_false aB];rfl
theorem KM{w:Nat→Nat}(n:Bool){a b eQ b':G}(bk:gS w a eQ)(al:gS w b b'):fC w n a b=fC w n eQ b'∧((a=eQ∧b=b')∨(a=b'∧b=eQ))∨i_ w (fC w n a b) (fC w n eQ b'):=by
 have key:∀{a b eQ b':G},gS w a eQ→gS w b b'→gS w a b→(fC w n a b=fC w n eQ b'∧((a=eQ∧b=b')∨(a=b'∧b=eQ)))∨i_ w (fC w n a b) (fC w n eQ b'):=by
  intro a b eQ b' bk al nk;rw[wT nk];rcases Bw (w:=w) n eQ b' with⟨e,h⟩|⟨e,h⟩
  rw[e];rcases bk with rfl|bk
  rcases al with rfl|al
  exact .inl ⟨rfl,.inl ⟨rfl,rfl⟩⟩;exact .inr (.inr ⟨rfl,.inr ⟨rfl,al⟩⟩);exact .inr (.inl bk);rw[e];rcases nk.trans al with q|q
  subst q;have ia:b=a:=Vx al nk;subst ia;rcases h with rfl|h
  exact .inl ⟨rfl,.inl ⟨rfl,rfl⟩⟩;exact .inr (.inr ⟨rfl,.inr ⟨rfl,h⟩⟩);exact .inr (.inl q)
 rcases wh (w:=w) a b with e|e|e
 exact key bk al (.inl e);exact key bk al (.inr e);rw[xS n a b,xS n eQ b'];rcases key al bk (.inr e)with⟨ab,ae⟩|h
 refine .inl ⟨ab,?_⟩;rcases ae with⟨ae,aF⟩|⟨ae,aF⟩
 exact .inl ⟨aF,ae⟩;exact .inr ⟨aF,ae⟩;exact .inr h
mutual
theorem GH{w:Nat→Nat}{γ γ':Int→G}(h:∀v,gS w (γ v) (γ' v)):∀t:T,gS w (inst γ t) (inst γ' t)
  |.mk k us=>by rw[lg,lg];split;exact h _;exact(YH h us).mk _
theorem YH{w:Nat→Nat}{γ γ':Int→G}(h:∀v,gS w (γ v) (γ' v)):∀us:List T,k4 w (gN γ us) (gN γ' us)
  | []=>.nil
  |t::r=>.cons (GH h t) (YH h r)
end
mutual
theorem PM{gs:List aE}{γ γ':Int→G}:∀t:T,b9 gs t→inst γ t=inst γ' t→∀k∈cq t,k<0→γ (-1-k)=γ' (-1-k)
  |.mk h us,ok,e,k,hk,aB=>by
   rw[lg,lg]at e;rw[ji]at hk;by_cases q:h<0;rw[if_pos q,if_pos q]at e;have:us= []:=ok.leaf q;subst this;rcases List.mem_cons.1 hk with rfl|hk
   exact e;simp at hk;rw[if_neg q,if_neg q]at e;injection e with _ e;rcases List.mem_cons.1 hk with rfl|hk
   omega;exact YI us ok.args e k hk aB
theorem YI{gs:List aE}{γ γ':Int→G}:∀us:List T,(∀x∈us,b9 gs x)→gN γ us=gN γ' us→∀k∈us.flatMap cq,k<0→γ (-1-k)=γ' (-1-k)
  | [],_,_,k,hk,_=>by simp at hk
  |t::r,ok,e,k,hk,aB=>by
   rw[List.flatMap_cons]at hk;rw[gN,gN]at e;injection e with aQ aT;rcases List.mem_append.1 hk with hk|hk
   exact PM t (ok t (List.mem_cons_self ..)) aQ k hk aB;exact YI r (fun x af=>ok x (List.mem_cons_of_mem _ af)) aT k hk aB
end
mutual
theorem PN{E:G→G→Prop}(bt:iG E){γ γ':Int→G}(h:∀v,E (γ v) (γ' v)):∀t:T,E (inst γ t) (inst γ' t)
  |.mk k us=>by rw[lg,lg];split;exact h _;exact bt.app _ (YJ bt h us)
theorem YJ{E:G→G→Prop}(bt:iG E){γ γ':Int→G}(h:∀v,E (γ v) (γ' v)):∀us:List T,Dz E (gN γ us) (gN γ' us)
  | []=>.nil
  |t::r=>.cons (PN bt h t) (YJ bt h r)
end
theorem anE{w:Nat→Nat}{γ γ':Int→G}(h:∀v,gS w (γ v) (γ' v))(x:ak):Yx w (cL w γ x) (cL w γ' x):=by
 rcases KM x.neg (GH h x.l) (GH h x.r)with⟨e,_⟩|e
 exact .inl e;exact .inr e
theorem YK{w:Nat→Nat}{γ γ':Int→G}(h:∀v,gS w (γ v) (γ' v)):∀C:List ak,kI w (bC w γ' C) (bC w γ C)
  | []=>.refl _
  |x::C=>PA (YK h C) (anE h x)
theorem GI{α:Type}:∀(l:List α) (i:Nat) (aj:i<l.length),l.Perm (l[i]::l.eraseIdx i)
  |x::l,0,_=>List.Perm.refl _
  |x::l,i+1,aj=>by have:=GI l i (by simpa using aj);exact(this.cons x).trans (List.Perm.swap ..)
theorem anF{w:Nat→Nat}{γ:Int→G}(C:List ak)(i:Nat):bC w γ (C.eraseIdx i)=(bC w γ C).eraseIdx i:=by
 unfold bC;exact(Pj _ C i).symm
theorem vi{w:Nat→Nat}{γ:Int→G}{C:List ak}{i:Nat}(aj:i<C.length):(bC w γ C).Perm (cL w γ C[i]::bC w γ (C.eraseIdx i)):=by
 unfold bC;exact(GI C i aj).map (cL w γ)
theorem set_perm{α:Type}:∀(l:List α) (i:Nat) (aj:i<l.length) (y:α),(l.set i y).Perm (y::l.eraseIdx i)
  |x::l,0,_,_=>List.Perm.refl _
  |x::l,i+1,aj,y=>by have:=set_perm l i (by simpa using aj) y;exact(this.cons x).trans (List.Perm.swap ..)
theorem PO{α:Type}{d:List α}{j k:Nat}(au:j<d.length)(cu:j≠k):d[j]∈d.eraseIdx k:=
  List.mem_eraseIdx_iff_getElem.2 ⟨j,au,cu,rfl⟩
theorem anG{gs:List aE}{γ γ':Int→G}(h:∀v,gS (aU gs) (γ v) (γ' v)){C:List ak}(cD:∀x∈C,ee gs x=0){x:ak}(af:x∈C){k:Int}(hk:k∈cq x.l∨k∈cq x.r)(aB:k<0)(cu:γ (-1-k)≠γ' (-1-k)):nS (aU gs) (bC (aU gs) γ C) (bC (aU gs) γ' C):=by
 obtain⟨i,aj,rfl⟩:=List.getElem_of_mem af;obtain⟨ij,gx⟩:=ld (cD _ af)
 have YL:¬(inst γ C[i].l=inst γ' C[i].l∧inst γ C[i].r=inst γ' C[i].r):=fun⟨aQ,aT⟩=>by
  rcases hk with hk|hk
  exact cu (PM _ ij aQ k hk aB);exact cu (PM _ gx aT k hk aB)
 have aM:i_ (aU gs) (cL (aU gs) γ C[i]) (cL (aU gs) γ' C[i]):=by
  have du:=GH h C[i].l;have dy:=GH h C[i].r;rcases KM C[i].neg du dy with⟨_,e|⟨aQ,aT⟩⟩|e
  exact absurd e YL;exfalso;rw[aQ]at du;rw[aT]at dy;have:=Vx du dy;exact YL ⟨by rw[aQ,this],by rw[aT,this]⟩;exact e
 have mE:=vi (w:=aU gs) (γ:=γ) aj;have n_:=vi (w:=aU gs) (γ:=γ') aj
 have s1:nS (aU gs) (cL (aU gs) γ C[i]::bC (aU gs) γ (C.eraseIdx i)) (cL (aU gs) γ' C[i]::bC (aU gs) γ (C.eraseIdx i)):=
   xT (s:=bC (aU gs) γ (C.eraseIdx i)) (x:= [_]) (y:= [_]) (List.perm_append_comm (l₁:= [_])) (List.perm_append_comm (l₁:= [_])) (by simp) fun u hu=>by rw[List.mem_singleton]at hu;subst hu;exact⟨_,by simp,aM⟩
 have s2:=PA (w:=aU gs) (x:=cL (aU gs) γ' C[i]) (YK h (C.eraseIdx i)) (.inl rfl);exact Ky (s2.gt s1) mE.symm n_.symm
def wV(gs:List aE)(γ:Int→G)(C:List ak)(x:ak):Prop:=∀y∈C,¬i_ (aU gs) (cL (aU gs) γ y) (cL (aU gs) γ x)
def xU(gs:List aE)(γ:Int→G)(C:List ak)(i:Nat)(aj:i<C.length):Prop:=∀k (hk:k<C.length),k≠i→i_ (aU gs) (cL (aU gs) γ C[i]) (cL (aU gs) γ C[k])
structure YM(gs:List aE)(S:List ak→Prop)(sel:List ak→Option Nat):Prop where
  ok:∀C,S C→∀x∈C,ee gs x=0
  ne:∀C,S C→C≠[]
  sM:∀C,S C→∀i,sel C=some i→∃aj:i<C.length,C[i].neg=true
  eq:∀C,S C→∀γ,dw gs γ→∀i (aj:i<C.length),C[i].neg=true→(sel C=some i∨(sel C=none∧wV gs γ C C[i]))→inst γ C[i].l=inst γ C[i].r→eT gs S (bC (aU gs) γ (C.eraseIdx i))
  DC:∀C,S C→∀γ,dw gs γ→sel C=none→∀i k (aj:i<C.length) (hk:k<C.length) (b b':Bool),i≠k→C[i].neg=false→C[k].neg=false→wV gs γ C C[i]→
    inst γ (aJ b C[i])=inst γ (aJ b' C[k])→eG (aU gs) (inst γ (aJ b C[i])) (inst γ (aJ (!b) C[i]))→
    eT gs S (fC (aU gs) true (inst γ (aJ (!b) C[i])) (inst γ (aJ (!b') C[k]))::bC (aU gs) γ (C.eraseIdx i))
  sup:∀D,S D→∀δ,dw gs δ→sel D=none→∀j (au:j<D.length) (b:Bool),D[j].neg=false→xU gs δ D j au→eG (aU gs) (inst δ (aJ b D[j])) (inst δ (aJ (!b) D[j]))→
    ∀C,S C→∀γ,dw gs γ→∀i (aj:i<C.length) (b':Bool),((C[i].neg=true∧(sel C=some i∨(sel C=none∧wV gs γ C C[i])))∨(C[i].neg=false∧sel C=none∧xU gs γ C i aj))→
    eG (aU gs) (inst γ (aJ b' C[i])) (inst γ (aJ (!b') C[i]))→∀p u,cO (aJ b' C[i]) p=some u→0≤u.head→inst γ u=inst δ (aJ b D[j])→
    eT gs S (bC (aU gs) δ (D.eraseIdx j)++(bC (aU gs) γ C).set i (fC (aU gs) C[i].neg (hL γ (aJ b' C[i]) p (inst δ (aJ (!b) D[j]))) (inst γ (aJ (!b') C[i]))))
def xV(gs:List aE)(S:List ak→Prop)(sel:List ak→Option Nat)(s t:G)(rest:List e5):Prop:=
  ∃D δ j b,∃au:j<D.length,S D∧dw gs δ∧sel D=none∧D[j].neg=false∧inst δ (aJ b D[j])=s∧inst δ (aJ (!b) D[j])=t∧rest=bC (aU gs) δ (D.eraseIdx j)
section
variable {gs:List aE} {S:List ak→Prop} {sel:List ak→Option Nat}
noncomputable abbrev mV (gs:List aE) (S:List ak→Prop) (sel:List ak→Option Nat):G→G:=fg (pO gs) (xV gs S sel)
abbrev nU(gs:List aE)(S:List ak→Prop)(sel:List ak→Option Nat):G→G→Prop:=KC (pO gs) (xV gs S sel)
theorem anH(eO:YM gs S sel):∀t:G,mU gs t→mU gs (mV gs S sel t):=by
 intro t
 induction t using(AY (pO gs)).induction with
 |_ t aY=>
  intro ar;by_cases h:t.args.map (mV gs S sel)=t.args;rcases PE (pO gs) (xV gs S sel) h with⟨r,an,_,e⟩|⟨_,e⟩
  obtain⟨rest,⟨D,δ,j,b,au,fK,nT,_,_,ab,ae,_⟩,fy,_⟩:=an;show mU gs (fg _ _ t);rw[e];refine aY r fy ?_;have aA:=eO.ok D fK _ (List.getElem_mem au);rw[←ae,KL nT (gB aA _),YG aA,←KL nT (gB aA _),ab];exact ar;show mU gs (fg _ _ t);rw[e];exact ar;show mU gs (fg _ _ t);rw[KB _ _ h]
  have aM:k4 (aU gs) t.args (t.args.map (mV gs S sel)):=by
   generalize t.args=l
   induction l with
   |nil=>exact .nil
   |cons x l aY=>exact .cons (By _ _ x) aY
  have fy:=aM.Fq (fun e=>h e.symm) t.head;rw[←t.eta]at fy;refine aY _ fy ?_;have p8:=ar;rw[t.eta,mU,Kz]at p8;rw[mU,Kz];refine⟨p8.1,fun x af=> ?_⟩;obtain⟨y,aw,rfl⟩:=List.mem_map.1 af;exact aY y (KA (pO gs) t y aw) (p8.2 y aw)
theorem anI{l r:G}(h:Bz (pO gs) (xV gs S sel) l r):∃D δ j b,∃au:j<D.length,S D∧dw gs δ∧sel D=none∧D[j].neg=false∧inst δ (aJ b D[j])=l∧inst δ (aJ (!b) D[j])=r∧xU gs δ D j au∧
 ∀y∈bC (aU gs) δ (D.eraseIdx j),i_ (aU gs) ⟨false,l,r⟩ y∧¬sK (nU gs S sel) y:=by
 obtain⟨rest,⟨D,δ,j,b,au,fK,nT,ao,aD,ab,ae,rfl⟩,fy,an⟩:=h.GG;have af:cL (aU gs) δ D[j]=⟨false,l,r⟩:=by rw[pQ δ b,aD,ab,ae,wT (.inr fy)]
 refine⟨D,δ,j,b,au,fK,nT,ao,aD,ab,ae,fun k hk cu=> ?_,fun y aw=>⟨(an y aw).1,?_⟩⟩;rw[af];refine(an _ ?_).1;exact List.mem_map_of_mem (PO hk cu);obtain⟨du,dy,gv,oa⟩:=an y aw;unfold sK nU KC;rcases du with g|⟨e,⟨g,_⟩|⟨g,k⟩⟩
 have:=gv g;split;rename_i q;exact fun h=>h (this.1 q);rename_i q;exact this.2 (by simpa using q);cases g;have:=oa e.symm;rw[if_neg (by rw[this.1];decide)];intro q;simp only at e;rw[←e,h.eq]at q;exact this.2 q.symm
theorem complete(eO:YM gs S sel):∃E,iG E∧∀C,S C→∀γ,dw gs γ→gY E (bC (aU gs) γ C):=by
 refine⟨nU gs S sel,YB _ _,?_⟩;have bt:iG (nU gs S sel):=YB _ _;suffices H:∀c:List e5,∀C,S C→∀γ,dw gs γ→bC (aU gs) γ C=c→gY (nU gs S sel) c from fun C cD γ bl=>H _ C cD γ bl rfl;intro c
 induction c using(Yv (pO gs)).induction with
 |_ c aY=>
 intro C cD γ bl aq;have DD:∀d,eT gs S d→nS (aU gs) c d→gY (nU gs S sel) d:=fun d aH fy=>aH _ bt fun D fK δ nT hle=>aY _ (hle.gt fy) D fK δ nT rfl;have cn:=eO.ok C cD;refine Classical.byContradiction fun iu=> ?_;have a7:∀x∈C,¬sK (nU gs S sel) (cL (aU gs) γ x):=fun x af k=>iu ⟨_,by rw[←aq];exact List.mem_map_of_mem af,k⟩
 have anJ:∀x∈C,∀k:Int,(k∈cq x.l∨k∈cq x.r)→k<0→mV gs S sel (γ (-1-k))=γ (-1-k):=by
  intro x af k hk aB;refine Classical.byContradiction fun cu=> ?_;have bV:∀v,gS (aU gs) (γ v) (mV gs S sel (γ v)):=fun v=>By _ _ _;have fy:=anG (γ':=fun v=>mV gs S sel (γ v)) bV cn af hk aB (fun e=>cu e.symm);rw[aq]at fy;obtain⟨y,aw,ar⟩:=aY _ fy C cD (fun v=>mV gs S sel (γ v)) (fun v=>anH eO _ (bl v)) rfl;obtain⟨z,a2,rfl⟩:=List.mem_map.1 aw;refine a7 z a2 ?_;unfold cL at ar⊢;rw[kJ bt]at ar⊢;have aQ:=PN bt (γ:=γ) (γ':=fun v=>mV gs S sel (γ v)) (fun v=>(Yz _ _ _).symm) z.l;have aT:=PN bt (γ:=γ) (γ':=fun v=>mV gs S sel (γ v)) (fun v=>(Yz _ _ _).symm) z.r
  have nd:nU gs S sel (inst (fun v=>mV gs S sel (γ v)) z.l) (inst (fun v=>mV gs S sel (γ v)) z.r)↔nU gs S sel (inst γ z.l) (inst γ z.r):=
    ⟨fun h=>bt.trans aQ (bt.trans h (bt.symm aT)),fun h=>bt.trans (bt.symm aQ) (bt.trans h aT)⟩
  rw[nd]at ar;exact ar
 have anK:∀x∈C,∀b,∀k∈cq (aJ b x),k<0→mV gs S sel (γ (-1-k))=γ (-1-k):=fun x af b k hk aB=>anJ x af k (by unfold aJ at hk;split at hk;exact .inr hk;exact .inl hk) aB
 have YN:∀i (aj:i<C.length) (b':Bool),((C[i].neg=true∧(sel C=some i∨(sel C=none∧wV gs γ C C[i])))∨(C[i].neg=false∧sel C=none∧xU gs γ C i aj))→
     eG (aU gs) (inst γ (aJ b' C[i])) (inst γ (aJ (!b') C[i]))→mV gs S sel (inst γ (aJ b' C[i]))≠inst γ (aJ b' C[i])→
     (C[i].neg=false→wU (pO gs) (xV gs S sel) (inst γ (aJ b' C[i])) (inst γ (aJ (!b') C[i])))→False:=by
   intro i aj b' hc ch anL anM
   have aA:=cn _ (List.getElem_mem aj)
   have zz:=gB aA b'
   obtain⟨p,u,r,aW,MY,an⟩:=anv (pO gs) (xV gs S sel) _ (aJ b' C[i]) (Nat.le_refl _) zz (anK _ (List.getElem_mem aj) b') anL
   obtain⟨D,δ,j,b,au,fK,nT,ao,aD,ab,ae,tW,OE⟩:=anI an
   have fy:=an.gt
   have J1:=eO.sup D fK δ nT ao j au b aD tW (by rw[ab,ae];exact fy) C cD γ bl i aj b' hc ch p u aW MY ab.symm
   rw[ae]at J1
   have af:cL (aU gs) γ C[i]=⟨C[i].neg,inst γ (aJ b' C[i]),inst γ (aJ (!b') C[i])⟩:=by rw[pQ γ b',wT (.inr ch)]
   have jj:=KG (w:=aU gs) (γ:=γ) (b:=r) p zz aW fy
   have YO:=KF bt (γ:=γ) (b:=r) p zz aW an.eq
   have anN:i_ (aU gs) (cL (aU gs) γ C[i]) ⟨false,inst γ u,r⟩:=by
    rw[af];rcases YD (pO gs) (γ:=γ) p zz aW with⟨_,e⟩|e
    cases kF:C[i].neg with
    |true=>exact .inr ⟨e,.inl ⟨rfl,rfl⟩⟩
    |false=>
      have hle:=an.least _ (by rw[←e];exact anM kF)
      rcases hle with q|q
      · exfalso
        have anO:nU gs S sel (inst γ (aJ b' C[i])) (inst γ (aJ (!b') C[i])):=by rw[q,e];exact an.eq
        refine a7 _ (List.getElem_mem aj) ?_
        rw[af];unfold sK
        rw[if_neg (by simp[kF])];exact anO
      · exact .inr ⟨e,.inr ⟨rfl,q⟩⟩
    exact .inl e
   have anP:i_ (aU gs) (cL (aU gs) γ C[i]) (fC (aU gs) C[i].neg (hL γ (aJ b' C[i]) p r) (inst γ (aJ (!b') C[i]))):=by
    rw[af];left;rcases Bw (w:=aU gs) C[i].neg (hL γ (aJ b' C[i]) p r) (inst γ (aJ (!b') C[i]))with⟨e,_⟩|⟨e,_⟩
    rw[e];exact jj;rw[e];exact ch
   have e0:i<(bC (aU gs) γ C).length:=by unfold bC;simpa using aj
   have anQ:nS (aU gs) c (bC (aU gs) δ (D.eraseIdx j)++(bC (aU gs) γ C).set i (fC (aU gs) C[i].neg (hL γ (aJ b' C[i]) p r) (inst γ (aJ (!b') C[i])))):=by
    rw[←aq];refine xT (s:=(bC (aU gs) γ C).eraseIdx i) (x:= [cL (aU gs) γ C[i]]) (y:=fC (aU gs) C[i].neg (hL γ (aJ b' C[i]) p r) (inst γ (aJ (!b') C[i]))::bC (aU gs) δ (D.eraseIdx j)) ?_ ?_ (List.cons_ne_nil _ _) fun y aw=>⟨cL (aU gs) γ C[i],List.mem_singleton.2 rfl,?_⟩
    have:=vi (w:=aU gs) (γ:=γ) aj;rw[anF]at this;exact this.trans (List.perm_append_comm (l₁:= [_]));refine(List.Perm.append_left _ (set_perm _ i e0 _)).trans ?_;refine List.perm_append_comm.trans ?_;rw[List.cons_append];exact List.perm_middle.symm;rcases List.mem_cons.1 aw with rfl|aw
    exact anP;exact Pv anN (OE y aw).1
   obtain⟨y,aw,ar⟩:=DD _ J1 anQ
   rcases List.mem_append.1 aw with aw|aw
   · exact(OE y aw).2 ar
   · rcases List.mem_or_eq_of_mem_set aw with aw|rfl
     · exact iu ⟨y,by rw[←aq];exact aw,ar⟩
     · rw[kJ bt]at ar
       have hold:=a7 _ (List.getElem_mem aj)
       rw[pQ γ b',kJ bt]at hold
       have nd:nU gs S sel (hL γ (aJ b' C[i]) p r) (inst γ (aJ (!b') C[i]))↔nU gs S sel (inst γ (aJ b' C[i])) (inst γ (aJ (!b') C[i])):=
         ⟨fun h=>bt.trans YO h,fun h=>bt.trans (bt.symm YO) h⟩
       rw[nd]at ar
       exact hold ar
 have neg:∀i (aj:i<C.length),C[i].neg=true→(sel C=some i∨(sel C=none∧wV gs γ C C[i]))→False:=by
  intro i aj kF hc;have oe:=a7 _ (List.getElem_mem aj);unfold cL at oe;rw[kJ bt,if_pos kF,Classical.not_not]at oe;have go:∀b':Bool,eG (aU gs) (inst γ (aJ b' C[i])) (inst γ (aJ (!b') C[i]))→nU gs S sel (inst γ (aJ b' C[i])) (inst γ (aJ (!b') C[i]))→False:=fun b' ch he=>by refine YN i aj b' (.inl ⟨kF,hc⟩) ch (fun e=> ?_) (fun h=>by rw[kF]at h;cases h);have ab:=ch.ge (By (pO gs) (xV gs S sel) _);have o_:mV gs S sel (inst γ (aJ b' C[i]))=mV gs S sel (inst γ (aJ (!b') C[i])):=he;rw[e]at o_;have ae:eG (aU gs) (inst γ (aJ b' C[i])) (mV gs S sel (inst γ (aJ (!b') C[i]))):=ab;rw[←o_]at ae;exact pw _ ae
  rcases wh (w:=aU gs) (inst γ C[i].l) (inst γ C[i].r)with e|e|e
  have ab:=eO.eq C cD γ bl i aj kF hc e;have az:=vi (w:=aU gs) (γ:=γ) aj;obtain⟨y,aw,ar⟩:=DD _ ab (by rw[←aq];exact xT (s:=bC (aU gs) γ (C.eraseIdx i)) (x:= [cL (aU gs) γ C[i]]) (y:= []) (az.trans (List.perm_append_comm (l₁:= [_]))) (by simp) (List.cons_ne_nil _ _) fun u hu=>by simp at hu);exact iu ⟨y,by rw[←aq];exact az.mem_iff.2 (List.mem_cons_of_mem _ aw),ar⟩;exact go false e oe;exact go true e (bt.symm oe)
 cases kv:sel C with
 |some i=>obtain⟨aj,aD⟩:=eO.sM C cD i kv;exact neg i aj aD (.inl kv)
 |none=>
  obtain⟨m,hm,xw⟩:=Jm (Kx (w:=aU gs)) (bC (aU gs) γ C) (by
   have:=eO.ne C cD;unfold bC
   cases C with
   |nil=>exact absurd rfl this
   |cons=>simp) (fun _ _=>trivial)
  obtain⟨x,af,rfl⟩:=List.mem_map.1 hm;obtain⟨i,aj,rfl⟩:=List.getElem_of_mem af;have tW:wV gs γ C C[i]:=fun y aw k=>by have:=xw _ (List.mem_map_of_mem aw);rw[xR.2 k]at this;cases this
  cases aD:C[i].neg with
  |true=>exact neg i aj aD (.inr ⟨kv,tW⟩)
  |false=>
    have oe:=a7 _ (List.getElem_mem aj)
    have go:∀b':Bool,eG (aU gs) (inst γ (aJ b' C[i])) (inst γ (aJ (!b') C[i]))→False:=by
     intro b' ch;have af:cL (aU gs) γ C[i]=⟨false,inst γ (aJ b' C[i]),inst γ (aJ (!b') C[i])⟩:=by rw[pQ γ b',wT (.inr ch),aD]
     have cu:¬nU gs S sel (inst γ (aJ b' C[i])) (inst γ (aJ (!b') C[i])):=fun h=>oe (by rw[af];unfold sK;rw[if_neg (by simp)];exact h)
     have DC:∀k (hk:k<C.length) (ik:Bool),i≠k→C[k].neg=false→inst γ (aJ ik C[k])=inst γ (aJ b' C[i])→nU gs S sel (inst γ (aJ (!ik) C[k])) (inst γ (aJ (!b') C[i]))→False:=by
      intro k hk ik oC kg ao he;have ab:=eO.DC C cD γ bl kv i k aj hk b' ik oC aD kg tW ao.symm ch;have wW:=a7 _ (List.getElem_mem hk);rw[pQ γ ik,kJ bt,kg,if_neg (by decide),ao]at wW
      have ax:eG (aU gs) (inst γ (aJ b' C[i])) (inst γ (aJ (!ik) C[k])):=by
       rcases wh (w:=aU gs) (inst γ (aJ b' C[i])) (inst γ (aJ (!ik) C[k]))with e|e|e
       exact absurd (show nU gs S sel _ _ by rw[←e];exact bt.rfl _) wW;exact e;exfalso;refine tW _ (List.getElem_mem hk) ?_;rw[af,pQ γ ik,xS,ao,wT (.inr e)];exact .inl e
      have az:=vi (w:=aU gs) (γ:=γ) aj
      obtain⟨y,aw,ar⟩:=DD _ ab (by
       rw[←aq];refine xT (s:=bC (aU gs) γ (C.eraseIdx i)) (x:= [cL (aU gs) γ C[i]]) (y:= [_]) (az.trans (List.perm_append_comm (l₁:= [_]))) (List.perm_append_comm (l₁:= [_])) (List.cons_ne_nil _ _) fun u hu=>⟨cL (aU gs) γ C[i],List.mem_singleton.2 rfl,?_⟩
       rw[List.mem_singleton]at hu;subst hu;rw[af];left;rcases Bw (w:=aU gs) true (inst γ (aJ (!b') C[i])) (inst γ (aJ (!ik) C[k]))with⟨e,_⟩|⟨e,_⟩
       rw[e];exact ch;rw[e];exact ax)
      rcases List.mem_cons.1 aw with rfl|aw
      rw[kJ bt,if_pos rfl]at ar;exact ar (bt.symm he);exact iu ⟨y,by rw[←aq];exact az.mem_iff.2 (List.mem_cons_of_mem _ aw),ar⟩
     have strict:xU gs γ C i aj:=fun k hk DE=>by
      rcases Yr (w:=aU gs) (cL (aU gs) γ C[i]) (cL (aU gs) γ C[k])with e|e|e
      exfalso;have kg:C[k].neg=false:=by have:=congrArg e5.neg e;rw[af]at this;unfold cL at this;rw[Yt]at this;exact this.symm
      rw[af]at e;have jc:fC (aU gs) C[k].neg (inst γ C[k].l) (inst γ C[k].r)=⟨false,inst γ (aJ b' C[i]),inst γ (aJ (!b') C[i])⟩:=e.symm;rcases Bw (w:=aU gs) C[k].neg (inst γ C[k].l) (inst γ C[k].r)with⟨q,_⟩|⟨q,_⟩
      rw[q]at jc;injection jc with _ dj cY;refine DC k hk false (fun h=>DE h.symm) kg dj ?_;show nU gs S sel (inst γ C[k].r) _;rw[cY];exact bt.rfl _;rw[q]at jc;injection jc with _ dj cY;refine DC k hk true (fun h=>DE h.symm) kg dj ?_;show nU gs S sel (inst γ C[k].l) _;rw[cY];exact bt.rfl _;exact e;exact absurd e (tW _ (List.getElem_mem hk))
     have GG:wU (pO gs) (xV gs S sel) (inst γ (aJ b' C[i])) (inst γ (aJ (!b') C[i])):=by
      refine⟨_,⟨C,γ,i,b',aj,cD,bl,kv,aD,rfl,rfl,rfl⟩,ch,fun y aw=> ?_⟩;obtain⟨z,a2,rfl⟩:=List.mem_map.1 aw;obtain⟨k,hk,DE,rfl⟩:=List.mem_eraseIdx_iff_getElem.1 a2;have fy:=strict k hk DE;rw[af]at fy;have wW:=a7 _ (List.getElem_mem hk);refine⟨fy,GB ..,fun _=> ?_,fun e=> ?_⟩;unfold sK at wW;refine⟨fun h=> ?_,fun h=> ?_⟩;rw[if_pos h,Classical.not_not]at wW;exact wW;rw[if_neg (by rw[h];decide)]at wW;exact wW
      have kg:(cL (aU gs) γ C[k]).neg=false:=by
       rcases fy with g|⟨_,⟨g,_⟩|⟨g,_⟩⟩
       simp only at g;rw[e]at g;exact absurd g (pw _);cases g;exact g.symm
      refine⟨kg,fun q=> ?_⟩;have YP:C[k].neg=false:=by unfold cL at kg;rw[Yt]at kg;exact kg
      rcases Bw (w:=aU gs) C[k].neg (inst γ C[k].l) (inst γ C[k].r)with⟨dj,_⟩|⟨dj,_⟩
      have aQ:inst γ C[k].l=inst γ (aJ b' C[i]):=by unfold cL at e;rw[dj]at e;exact e
      have aT:mV gs S sel (inst γ C[k].r)=mV gs S sel (inst γ (aJ (!b') C[i])):=by unfold cL at q;rw[dj]at q;exact q
      exact DC k hk false (fun h=>DE h.symm) YP aQ aT;have aQ:inst γ C[k].r=inst γ (aJ b' C[i]):=by unfold cL at e;rw[dj]at e;exact e
      have aT:mV gs S sel (inst γ C[k].l)=mV gs S sel (inst γ (aJ (!b') C[i])):=by unfold cL at q;rw[dj]at q;exact q
      exact DC k hk true (fun h=>DE h.symm) YP aQ aT
     refine YN i aj b' (.inr ⟨aD,kv,strict⟩) ch (fun e=> ?_) (fun _=>GG);obtain⟨r,an⟩:=YC (pO gs) (xV gs S sel) (ans _ _ e) (.inl ⟨_,GG⟩);exact an.ne _ _ e
    rcases wh (w:=aU gs) (inst γ C[i].l) (inst γ C[i].r)with e|e|e
    · refine oe ?_
      unfold cL
      rw[kJ bt,if_neg (by rw[aD];decide),e]
      exact bt.rfl _
    · exact go false e
    · exact go true e
end
abbrev anR(b:bx)(a:Option Addr)(c:Nat):List Value:= [.int .i64 b.1,.int .i64 b.2.head,.slice a b.2.args.length c]
def PQ:kH 3 bx where
  R:=fun I b vs=>dZ b.1∧∃(a:Option Addr) (c:Nat),vs=anR b a c∧ba I (.agg #[.int .i64 b.2.head,.slice a b.2.args.length c]) b.2
  len:=by rintro I a vs ⟨_,la,lc,rfl,_⟩;rfl
  one:=by rintro I a vs ⟨_,la,lc,rfl,_⟩ u hu;simp only[List.mem_cons,List.not_mem_nil,or_false]at hu;rcases hu with rfl|rfl|rfl<;>rfl
  mono:=by rintro I J a vs aA ⟨aB,la,lc,rfl,ab⟩;exact⟨aB,la,lc,rfl,ab.mono aA⟩
abbrev KN(A:Option Addr)(c n:Nat)(xs:List Value):ay:=.row (.slice A n c) 354 3 n xs
theorem bd.PR{I:aa}{ad:Option Addr}{c:Nat}{xs:List Value}{bs:List bx}(h:bd PQ I xs bs)(aq:Cells I ad xs)(hle:bs.length≤c)(al:bs.length≤4398046511104):hh I (.slice ad bs.length c) bs:=by
 have hex:∃bj:Nat→Option Addr×Nat,∀i (h:i<bs.length),dZ bs[i].1∧At I ad (i*3) [.int .i64 bs[i].1,.int .i64 bs[i].2.head,.slice (bj i).1 bs[i].2.args.length (bj i).2]∧ba I (.agg #[.int .i64 bs[i].2.head,.slice (bj i).1 bs[i].2.args.length (bj i).2]) bs[i].2:=by
  classical
  have key:∀i (aj:i<bs.length),∃s:Option Addr×Nat,dZ bs[i].1∧At I ad (i*3) [.int .i64 bs[i].1,.int .i64 bs[i].2.head,.slice s.1 bs[i].2.args.length s.2]∧ba I (.agg #[.int .i64 bs[i].2.head,.slice s.1 bs[i].2.args.length s.2]) bs[i].2:=fun i aj=>by obtain⟨vs,⟨aB,a,n,rfl,an⟩,aW⟩:=h.fj aq aj;exact⟨(a,n),aB,aW,an⟩
  exact⟨fun i=>if h:i<bs.length then(key i h).choose else(none,0),fun i aj=>by simp only[dif_pos aj];exact(key i aj).choose_spec⟩
 obtain⟨bj,tq⟩:=hex;exact⟨ad,c,bj,bs,hle,al,fun i aj=>(tq i aj).2.1,fun i aj=>(tq i aj).1,fun i aj=>(tq i aj).2.2⟩
def bI(θ:Int→T)(t:T):T:=iD (fun u=>θ (-1-u.head)) t
def fN(θ:Int→T)(ts:List T):List T:=gL (fun u=>θ (-1-u.head)) ts
theorem pR(θ:Int→T)(h:Int)(us:List T):bI θ (.mk h us)=if h<0 then θ (-1-h)else .mk h (fN θ us):=by
 unfold bI fN;simp only[iD,T.head]
theorem wX{θ:Int→T}{t:T}(h:t.head<0):bI θ t=θ (-1-t.head):=by
 obtain⟨k,us⟩:=t;rw[pR];exact if_pos h
theorem tX{θ:Int→T}{t:T}(h:¬t.head<0):bI θ t=.mk t.head (fN θ t.args):=by
 obtain⟨k,us⟩:=t;rw[pR];exact if_neg h
theorem jQ(θ:Int→T)(ts:List T):fN θ ts=ts.map (bI θ):=De _ _
theorem T.eta(t:T):T.mk t.head t.args=t:=by cases t;rfl
theorem PS{θ:Int→T}{p t:T}(h:¬p.head<0):bI θ p=t↔p.head=t.head∧p.args.length=t.args.length∧∀i (ab:i<p.args.length) (ae:i<t.args.length),bI θ p.args[i]=t.args[i]:=by
 rw[tX h];obtain⟨k,us⟩:=t;constructor;intro e;have aQ:p.head=k:=congrArg T.head e;have aT:fN θ p.args=us:=congrArg T.args e;refine⟨aQ,?_,fun i ab ae=> ?_⟩;show p.args.length=us.length;rw[←aT,jQ,List.length_map];subst aT;show bI θ p.args[i]=(fN θ p.args)[i]'ae;simp only[jQ,List.getElem_map];rintro⟨aQ,aT,dA⟩;have:fN θ p.args=us:=by rw[jQ];refine List.ext_getElem (by rw[List.length_map];exact aT) fun i ab ae=> ?_;rw[List.getElem_map];exact dA i (by simpa using ab) ae
 rw[this];show T.mk p.head us=T.mk k us;rw[show p.head=k from aQ]
def Ext(θ:Int→T)(bs:List bx):Prop:=∀v t,cd bs v=some t→θ v=t
theorem YQ(θ:Int→T):Ext θ []:=fun v t h=>by simp[cd]at h
theorem PT{θ:Int→T}{bs:List bx}{v:Int}{t:T}(h:cd bs v=none∨cd bs v=some t):Ext θ ((v,t)::bs)↔Ext θ bs∧θ v=t:=by
 constructor;intro af;have ax:θ v=t:=af v t (by simp[cd]);refine⟨fun w u hw=> ?_,ax⟩;by_cases e:v=w;subst e;rcases h with h|h
 rw[h]at hw;cases hw;rw[h]at hw;cases hw;exact ax;exact af w u (by simp only[cd];rw[if_neg e];exact hw);rintro⟨af,ax⟩ w u hw;simp only[cd]at hw;by_cases e:v=w;rw[if_pos e]at hw;cases hw;rw[←e];exact ax;rw[if_neg e]at hw;exact af w u hw
theorem anS{θ:Int→T}{bs:List bx}{v:Int}{u t:T}(h:cd bs v=some u)(cu:u≠t):¬(Ext θ bs∧θ v=t):=fun⟨af,ax⟩=>cu ((af v u h).symm.trans ax)
def tY(bs:List bx):Prop:=∀b∈bs,b.2.size≤1000000000
theorem tY.get{bs:List bx}(h:tY bs){v:Int}{t:T}(e:cd bs v=some t):t.size≤1000000000:=by
 obtain⟨b,al,_,rfl⟩:=Oz e;exact h b al
theorem tY.cons{bs:List bx}(h:tY bs){v:Int}{t:T}(ar:t.size≤1000000000):tY ((v,t)::bs):=fun b al=>by
 rcases List.mem_cons.1 al with rfl|al
 exact ar;exact h b al
def sN(l:ak):Bool:=decide (l.l.head=0)||decide (l.r.head=0)
def zA(θ:Int→T)(a l:ak):Prop:=sN a=sN l∧((bI θ a.l=l.l∧bI θ a.r=l.r)∨(bI θ a.l=l.r∧bI θ a.r=l.l))
def wY(θ:Int→T)(d:List ak):List Bool→List ak→Prop
  |_,[]=>True
  |us,a::r=>∃(k:Nat) (h:k<d.length),us[k]? =some false∧d[k].neg=a.neg∧zA θ a d[k]∧wY θ d (us.set k true) r
def DF(bs:List bx)(d:List ak)(us:List Bool)(c:List ak):Prop:=∃θ,Ext θ bs∧wY θ d us c
def BA(bs:List bx)(d:List ak)(us:List Bool)(a:ak)(r:List ak)(k:Nat):Prop:=∃(h:k<d.length),us[k]? =some false∧d[k].neg=a.neg∧∃θ,Ext θ bs∧zA θ a d[k]∧wY θ d (us.set k true) r
theorem YR{bs:List bx}{d:List ak}{us:List Bool}{a:ak}{r:List ak}:DF bs d us (a::r)↔∃k,BA bs d us a r k:=by
 constructor;rintro⟨θ,ab,k,hk,ae,aF,bb,eX⟩;exact⟨k,hk,ae,aF,θ,ab,bb,eX⟩;rintro⟨k,hk,ae,aF,θ,ab,bb,eX⟩;exact⟨θ,ab,k,hk,ae,aF,bb,eX⟩
theorem anT{bs:List bx}{d:List ak}{us:List Bool}:DF bs d us []:=⟨fun v=>(cd bs v).getD jd,fun v t h=>by simp[h],trivial⟩
def tZ(θ:Int→T)(xs ys:List T):Prop:=xs.length=ys.length∧∀i (ab:i<xs.length) (ae:i<ys.length),bI θ xs[i]=ys[i]
theorem PU(θ:Int→T):tZ θ [] []:=⟨rfl,fun i h=>by simp at h⟩
theorem zB{θ:Int→T}{xs ys:List T}{x y:T}(aA:xs.length=ys.length):tZ θ (xs++ [x]) (ys++ [y])↔tZ θ xs ys∧bI θ x=y:=by
 constructor;rintro⟨ab,ae⟩;refine⟨⟨aA,fun i c8 b6=> ?_⟩,?_⟩;have:=ae i (by simp;omega) (by simp;omega);rwa[List.getElem_append_left c8,List.getElem_append_left b6]at this;have:=ae xs.length (by simp) (by simp;omega);simpa[aA]using this;rintro⟨⟨ab,ae⟩,aF⟩;refine⟨by simp[aA],fun i c8 b6=> ?_⟩;by_cases q:i<xs.length;rw[List.getElem_append_left q,List.getElem_append_left ah];exact ae i q ah;have e:i=xs.length:=by simp at c8;omega
 subst e;simpa[aA]using aF
theorem PV{θ:Int→T}:∀{xs ys us vs:List T},xs.length=ys.length→us.length=vs.length→(tZ θ (xs++us) (ys++vs)↔tZ θ xs ys∧tZ θ us vs):=by
 intro xs ys us vs aA hk;constructor;rintro⟨ab,ae⟩;refine⟨⟨aA,fun i c8 b6=> ?_⟩,hk,fun i c8 b6=> ?_⟩;have:=ae i (by simp;omega) (by simp;omega);rwa[List.getElem_append_left c8,List.getElem_append_left b6]at this;have:=ae (xs.length+i) (by simp;omega) (by simp;omega);rw[List.getElem_append_right ah,List.getElem_append_right ah]at this;simpa[aA]using this;rintro⟨⟨ab,ae⟩,aF,bb⟩;refine⟨by simp[aA,hk],fun i c8 b6=> ?_⟩;by_cases q:i<xs.length;rw[List.getElem_append_left q,List.getElem_append_left ah];exact ae i q ah;rw[List.getElem_append_right ah,List.getElem_append_right ah];have:=bb (i-xs.length) (by simp at c8;omega) (by simp at b6;omega);simpa[aA]using this
theorem YS{θ:Int→T}{p t:T}(h:¬p.head<0)(aQ:p.head=t.head)(aT:p.args.length=t.args.length):bI θ p=t↔tZ θ p.args t.args:=by
 rw[PS h];constructor;rintro⟨_,_,aF⟩;exact⟨aT,aF⟩;rintro⟨_,aF⟩;exact⟨aQ,aT,aF⟩
end Go.Proofs.YtciibkomnoicdaaGreat
