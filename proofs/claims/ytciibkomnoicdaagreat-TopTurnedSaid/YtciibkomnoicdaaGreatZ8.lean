/- Own texts: a small program logic, plain facts, walks through the program's functions. No condition. -/
import Derived.Test.YtciibkomnoicdaaGreatZ7
set_option maxRecDepth 10000
set_option maxHeartbeats 4000000
set_option linter.unusedVariables false
set_option linter.unusedSimpArgs false
set_option linter.unnecessarySimpa false
set_option linter.unusedSectionVars false
namespace Go.Proofs.YtciibkomnoicdaaGreat
open Go Lg Tryz
section
attribute [local irreducible] aK bf bJ
theorem xM{I:aa}{v:Value}{c:List ak}(ax:cf I v c):
 aS Tryz.prog 66 [v] I [] (fun v ai δ'=>∃qn cJ xs,v=.slice qn c.length cJ∧bd fG ai xs c∧δ'= [.row (.slice qn c.length cJ) 68 5 c.length xs]):=by
 obtain⟨ad,bu,xs,rfl,aq,al,ep,bm⟩:=ax;refine a1 func66 ntmps66 fun aG=> ?_;have iw:=bm.length;refine br ?_;refine aI (EJ underlying36 rfl rfl rfl) ?_;refine go2 ?_;refine bF rfl (fun aV=> ?_) (fun aV=> ?_);have l3:ad=none:=by simpa using aV
 subst l3
 have kW:c= []:=by
  rcases c with _|⟨x,r⟩
  rfl;exfalso;obtain⟨vs,⟨la,lc,ra,rc,rfl,_⟩,aW⟩:=bm.fj ep (i:=0) (by simp);have:=aW.isSome;simp at this
 subst kW;refine aP ?_;refine bf.view (View.gh 68 5) (dv (rs:= [.tmp 2]) rfl (List.Perm.refl _) (.cons (.tmp rfl) .nil) (List.Sublist.refl _) ⟨none,0,[],rfl,rfl,rfl⟩);refine a8 ?_;refine c_ fun b5=> ?_;refine aX ?_;refine mL rfl rfl (Src.m8 ep) iw bm.kd (fun j5 j6=> ?_);refine a8 ?_;refine dY ?_;refine⟨j5,j6,xs,?_,bm.mono aa.ag,?_⟩;simp[dF];simp[cat]
theorem wL(c:List ak):(bE c).length=2*c.length:=by
 induction c with
 |nil=>rfl
 |cons x r aY=>simp only[bE,List.flatMap_cons,List.length_append,List.length_cons,List.length_nil]at aY⊢;omega
theorem Xr(c:List ak)(k:Nat)(h:k<c.length):bE (c.take (k+1))=bE (c.take k)++ [c[k].l,c[k].r]:=by
 rw[List.take_succ_eq_append_getElem h];simp only[bE,List.flatMap_append,List.flatMap_cons,List.flatMap_nil,List.append_nil]
theorem ame{I:aa}{v:Value}{c:List ak}(ax:cf I v c):
 aS Tryz.prog 7 [v] I [] (fun v ai δ'=>ed ai v (bE c)∧δ'= []):=by
 obtain⟨ad,bu,xs,rfl,aq,al,ep,bm⟩:=ax;refine a1 func7 ntmps7 fun aG=> ?_;refine fx ?_;refine bJ.view (View.gh 41 2) ?_;refine ek (fun m aL ai δ'=>∃(k:Nat) (A:Option Addr) (cJ:Nat) (ys:List Value),m=c.length-k∧k≤c.length∧aL= [(0,.slice ad c.length bu),(3,.slice A (2*k) cJ),(4,.int .i64 k)]∧I=ai∧δ'= [.row (.slice A (2*k) cJ) 41 2 (2*k) ys]∧bd sH I ys (bE (c.take k))) c.length [(0,.slice ad c.length bu),(3,.slice none (2*0) 0),(4,.int .i64 (0:Nat))] ⟨0,none,0,[],rfl,Nat.zero_le _,rfl,rfl,rfl,rfl⟩ ⟨rfl,rfl,rfl,trivial⟩ ?_;rintro m _ _ _ ⟨k,A,cJ,ys,rfl,hk,rfl,rfl,rfl,dX⟩;refine br ?_;refine bF rfl (fun aV=> ?_) (fun aV=> ?_);have av:k<c.length:=by simpa using aV
 obtain⟨vs,⟨la,lc,ra,rc,rfl,aA,an⟩,aW⟩:=bm.fj ep av;have db:=aW.isSome;refine a8 ?_;refine eU [0,2,4,6,8,10,12,14,16,18,20,23,25,27] (fun _=>([]:List ay)) (fun _=>(List.nil_sublist _)) ?_;refine a_ ?_;refine dg rfl (U8 (k:=1) aW) ?_;refine a8 ?_;refine dg rfl (U8 (k:=3) aW) ?_;refine aX ?_;refine c_ fun O0=> ?_;refine aR ?_;refine gl fun a23 O1=> ?_;refine a_ ?_;refine dB ?_;refine bg ?_;refine bf.view (View.drop aO.here) ?_;refine cV (c.length-(k+1)) [(0,.slice ad c.length bu),(3,.slice a23 (2*(k+1)) O1),(4,.int .i64 (k+1:Nat))] ah ⟨k+1,a23,O1,ys++ [.int .i64 c[k].l.head,.slice la c[k].l.args.length lc,.int .i64 c[k].r.head,.slice ra c[k].r.args.length rc],rfl,av,rfl,rfl,?_,?_⟩ ⟨rfl,rfl,rfl,trivial⟩;simp[cat,c9];omega;rw[Xr c k av];exact dX.app ⟨[.int .i64 c[k].l.head,.slice la c[k].l.args.length lc],[.int .i64 c[k].r.head,.slice ra c[k].r.args.length rc],rfl,⟨la,lc,rfl,aA⟩,bd.single ⟨ra,rc,rfl,an⟩⟩;have bV:k=c.length:=by simp at aV;omega
 subst bV;rw[List.take_length]at dX;refine aP ?_;refine aK.dO aO.here ?_;rintro mQ Bo wK lL aC Xs amf O2;cases aC;refine a_ ?_;refine bn ?_;refine⟨?_,rfl⟩;have ae:=wL c;have:=bd.tC (c:=cJ) (dX.mono lL) O2 ah ah;rw[ae]at this;exact this
theorem Ge{ts:List T}{n:Nat}(h:bG ts≤n):∀x∈ts,x.size≤n:=by
 intro x af;obtain⟨i,aj,rfl⟩:=List.getElem_of_mem af;have ab:=Ji ts i aj;have ae:bG (ts.take (i+1))+bG (ts.drop (i+1))=bG ts:=by rw[←ot,List.take_append_drop]
 omega
end
section
attribute [local irreducible] aK bf bJ
theorem Xt{I:aa}{bz cN:Value}{x y:ak}(bk:mm I bz x)(al:mm I cN y)(ab:x.l.size≤1000000000)(ae:x.r.size≤1000000000)(aF:y.l.size≤1000000000)(bb:y.r.size≤1000000000):
 aS Tryz.prog 76 [bz,cN] I [] (fun v _ δ'=>v=.bool (tM x y)∧δ'= []):=by
 obtain⟨la,lc,ra,rc,rfl,aA,an⟩:=bk;obtain⟨iZ,jv,hV,hW,rfl,zn,vc⟩:=al;refine a1 func76 ntmps76 fun aG=> ?_;refine go2 ?_;refine bw fun b2=> ?_;refine bw fun b3=> ?_;refine br ?_;refine bN rfl (u4 (aA.mono aa.ag) (zn.mono aa.ag) ab aF) ?_;rintro _ tB _ lF ⟨rfl,rfl⟩;by_cases aQ:x.l=y.l;rw[show decide (x.l=y.l)=true by simpa using aQ];refine a_ ?_;refine cZ ?_;refine bN rfl (u4 (an.mono aa.ag) (vc.mono aa.ag) ae bb) ?_;rintro _ mR _ sx ⟨rfl,rfl⟩;by_cases aT:x.r=y.r;rw[show decide (x.r=y.r)=true by simpa using aT];refine ic ?_;refine bn ?_;exact⟨by simp[dF,tM,aQ,aT],rfl⟩;rw[show decide (x.r=y.r)=false by simpa using aT];refine aZ ?_;refine cZ ?_;refine bN rfl (u4 (aA.mono aa.ag) (vc.mono aa.ag) ab bb) ?_;rintro _ nm _ rH ⟨rfl,rfl⟩;by_cases dA:x.l=y.r;rw[show decide (x.l=y.r)=true by simpa using dA];refine a_ ?_;refine cZ ?_;refine bN rfl (u4 (an.mono aa.ag) (zn.mono aa.ag) ae aF) ?_;rintro _ pD _ qD ⟨rfl,rfl⟩;refine aZ ?_;refine bn ?_;exact⟨by unfold tM;simp_all[dF],rfl⟩;rw[show decide (x.l=y.r)=false by simpa using dA];refine bW ?_;refine bn ?_;exact⟨by unfold tM;simp_all[dF],rfl⟩;rw[show decide (x.l=y.l)=false by simpa using aQ];refine bW ?_;refine cZ ?_;refine bN rfl (u4 (aA.mono aa.ag) (vc.mono aa.ag) ab bb) ?_;rintro _ nm _ rH ⟨rfl,rfl⟩;by_cases dA:x.l=y.r;rw[show decide (x.l=y.r)=true by simpa using dA];refine a_ ?_;refine cZ ?_;refine bN rfl (u4 (an.mono aa.ag) (zn.mono aa.ag) ae aF) ?_;rintro _ pD _ qD ⟨rfl,rfl⟩;refine aZ ?_;refine bn ?_;exact⟨by unfold tM;simp_all[dF],rfl⟩;rw[show decide (x.l=y.r)=false by simpa using dA];refine bW ?_;refine bn ?_;exact⟨by unfold tM;simp_all[dF],rfl⟩
theorem Xu{I:aa}{bz cN:Value}{x y:ak}(bk:mm I bz x)(al:mm I cN y)(ab:x.l.size≤1000000000)(ae:x.r.size≤1000000000)(aF:y.l.size≤1000000000)(bb:y.r.size≤1000000000):
 aS Tryz.prog 49 [bz,cN] I [] (fun v _ δ'=>v=.bool (jO x y)∧δ'= []):=by
 have sD:=bk;have qB:=al;obtain⟨la,lc,ra,rc,rfl,aA,an⟩:=bk;obtain⟨iZ,jv,hV,hW,rfl,zn,vc⟩:=al;refine a1 func49 ntmps49 fun aG=> ?_;refine go2 ?_;refine bw fun b2=> ?_;refine bw fun b3=> ?_;refine br ?_;refine aI (vU (z:=(x.neg==y.neg)) underlying4 rfl rfl rfl) ?_;by_cases aQ:(x.neg==y.neg)=true;rw[aQ];refine aR ?_;refine cZ ?_;refine bN rfl (Xt (sD.mono aa.ag) (qB.mono aa.ag) ab ae aF bb) ?_;rintro _ mi _ oD ⟨rfl,rfl⟩;refine a_ ?_;refine bn ?_;exact⟨by unfold jO;rw[aQ];rfl,rfl⟩;have tN:(x.neg==y.neg)=false:=by simpa using aQ
 rw[tN];refine br ?_;refine bn ?_;exact⟨by unfold jO;rw[tN];rfl,rfl⟩
theorem amg{I:aa}{bz cN:Value}{x y:ak}(bk:mm I bz x)(al:mm I cN y)(ab:x.l.size≤1000000000)(ae:x.r.size≤1000000000)(aF:y.l.size≤1000000000)(bb:y.r.size≤1000000000):
 aS Tryz.prog 79 [bz,cN] I [] (fun v _ δ'=>v=.bool (sG x y)∧δ'= []):=by
 have sD:=bk;have qB:=al;obtain⟨la,lc,ra,rc,rfl,aA,an⟩:=bk;obtain⟨iZ,jv,hV,hW,rfl,zn,vc⟩:=al;refine a1 func79 ntmps79 fun aG=> ?_;refine go2 ?_;refine bw fun b2=> ?_;refine bw fun b3=> ?_;refine br ?_;refine aI (vU (z:= !(x.neg==y.neg)) underlying4 rfl rfl rfl) ?_;by_cases aQ:(x.neg==y.neg)=true;rw[aQ];refine br ?_;refine bn ?_;exact⟨by unfold sG;rw[aQ];rfl,rfl⟩;have tN:(x.neg==y.neg)=false:=by simpa using aQ
 rw[tN];refine aR ?_;refine cZ ?_;refine bN rfl (Xt (sD.mono aa.ag) (qB.mono aa.ag) ab ae aF bb) ?_;rintro _ mi _ oD ⟨rfl,rfl⟩;refine a_ ?_;refine bn ?_;exact⟨by unfold sG;rw[tN];rfl,rfl⟩
theorem Xv{I:aa}{bz:Value}{x:ak}(bk:mm I bz x)(ab:x.l.size≤1000000000)(ae:x.r.size≤1000000000):
 aS Tryz.prog 50 [bz] I [] (fun v _ δ'=>v=.bool (decide (x.l=x.r))∧δ'= []):=by
 obtain⟨la,lc,ra,rc,rfl,aA,an⟩:=bk;refine a1 func50 ntmps50 fun aG=> ?_;refine go2 ?_;refine bw fun e2=> ?_;refine br ?_;refine bN rfl (u4 (aA.mono aa.ag) (an.mono aa.ag) ab ae) ?_;rintro _ je _ kA ⟨rfl,rfl⟩;refine a8 ?_;refine bn ?_;exact⟨rfl,rfl⟩
theorem Xw{I:aa}{bz:Value}{x:ak}(bk:mm I bz x):
 aS Tryz.prog 253 [bz] I [] (fun v ai δ'=>ed ai v (gM x)∧δ'= []):=by
 obtain⟨la,lc,ra,rc,rfl,aA,an⟩:=bk;refine a1 func253 ntmps253 fun aG=> ?_;refine go2 ?_;refine bw fun e2=> ?_;refine b_ ?_;refine bF rfl (fun aV=> ?_) (fun aV=> ?_);have aD:x.neg=true:=aV;refine b_ ?_;refine c_ fun ie=> ?_;refine aK.dO aO.here ?_;rintro mi Wy Wz oD aC amh ami O3;cases aC;refine a_ ?_;refine bn ?_;exact⟨by unfold gM;rw[if_pos aD];exact cF.tC (ts:= [x.l,x.l,x.r,x.r]) rfl O3 ((cF.one (aA.mono aa.ag)).app ((cF.one (aA.mono aa.ag)).app ((cF.one (an.mono aa.ag)).app (cF.one (an.mono aa.ag))))) amh ah,rfl⟩;have aD:¬x.neg=true:=by rw[aV];simp
 refine bg ?_;refine c_ fun Xx=> ?_;refine aK.dO aO.here ?_;rintro oy Bp Bq qw aC amj amk O4;cases aC;refine a8 ?_;refine bn ?_;exact⟨by unfold gM;rw[if_neg aD];exact cF.tC (ts:= [x.l,x.r]) rfl O4 ((cF.one (aA.mono aa.ag)).app (cF.one (an.mono aa.ag))) amj ah,rfl⟩
def rI(x:ak):Bool:=decide (x.l=x.r)
theorem Xy{x y:ak}:tM x y=true↔(x.l=y.l∧x.r=y.r)∨(x.l=y.r∧x.r=y.l):=by
 unfold tM;simp only[Bool.or_eq_true,Bool.and_eq_true,decide_eq_true_eq]
theorem vd{x y:ak}:jO x y=true↔x.neg=y.neg∧((x.l=y.l∧x.r=y.r)∨(x.l=y.r∧x.r=y.l)):=by
 unfold jO;rw[Bool.and_eq_true,Xy,beq_iff_eq]
theorem Xz(x:ak):jO x x=true:=vd.2 ⟨rfl,.inl ⟨rfl,rfl⟩⟩
theorem O5{x y:ak}(h:jO x y=true):jO y x=true:=by
 obtain⟨ab,ae|ae⟩:=vd.1 h;exact vd.2 ⟨ab.symm,.inl ⟨ae.1.symm,ae.2.symm⟩⟩;exact vd.2 ⟨ab.symm,.inr ⟨ae.2.symm,ae.1.symm⟩⟩
theorem XA{x y z:ak}(h:jO x y=true)(k:jO y z=true):jO x z=true:=by
 obtain⟨ab,ae⟩:=vd.1 h;obtain⟨c8,b6⟩:=vd.1 k;refine vd.2 ⟨ab.trans c8,?_⟩;rcases ae with⟨a,b⟩|⟨a,b⟩<;>rcases b6 with⟨c,d⟩|⟨c,d⟩
 exact .inl ⟨a.trans c,b.trans d⟩;exact .inr ⟨a.trans c,b.trans d⟩;exact .inr ⟨a.trans d,b.trans c⟩;exact .inl ⟨a.trans d,b.trans c⟩
theorem aml{x y:ak}(h:jO x y=true):(x.neg&&rI x)=(y.neg&&rI y):=by
 obtain⟨ab,⟨ae,aF⟩|⟨ae,aF⟩⟩:=vd.1 h;unfold rI;rw[ab,ae,aF];unfold rI;rw[ab,ae,aF];congr 1;rw[decide_eq_decide];exact⟨Eq.symm,Eq.symm⟩
def oJ(acc:List ak)(x:ak):Bool:=acc.any (fun m=>jO x m)||(x.neg&&rI x)
def hl(acc:List ak):List ak→List ak
  | []=>acc
  |x::r=>hl (if oJ acc x=true then acc else acc++ [x]) r
def eH(c:List ak):List ak:=hl [] c
theorem amm(acc a b:List ak):hl acc (a++b)=hl (hl acc a) b:=by
 induction a generalizing acc with
 |nil=>rfl
 |cons x r aY=>exact aY _
theorem amn(acc c:List ak):(hl acc c).length≤acc.length+c.length:=by
 induction c generalizing acc with
 |nil=>simp[hl]
 |cons x r aY=>
   have:=aY (if oJ acc x=true then acc else acc++ [x])
   show(hl (if oJ acc x=true then acc else acc++ [x]) r).length≤_
   split at this
   · rename_i h;rw[if_pos h];simp only[List.length_cons];omega
   · rename_i h;rw[if_neg h];simp only[List.length_cons,List.length_append,List.length_nil]at this⊢;omega
theorem amo(acc c:List ak):∀x∈hl acc c,x∈acc∨x∈c:=by
 induction c generalizing acc with
 |nil=>intro x af;exact .inl af
 |cons y r aY=>
  intro x af;rcases aY _ x af with h|h
  split at h;exact .inl h;rcases List.mem_append.1 h with h|h
  exact .inl h;simp at h;subst h;exact .inr (List.mem_cons_self ..);exact .inr (List.mem_cons_of_mem _ h)
theorem amp(c:List ak)(k:Nat)(h:k<c.length):hl [] (c.take (k+1))=if oJ (hl [] (c.take k)) c[k]=true then hl [] (c.take k)else hl [] (c.take k)++ [c[k]]:=by
 rw[List.take_succ_eq_append_getElem h,amm];rfl
abbrev Kc(P:Program)(b1:Value)(I:aa)(δf:List ay)(c:List ak)(p:ak→Bool):Prop:=∀J x u,I.le J→fG.R J x u→x∈c→cR P b1 [.agg u.toArray] J δf (fun v _ δ'=>v=.bool (p x)∧δ'=δf)
def Kd(c:List ak)(p:ak→Bool)(n:Int):Prop:=(n= -1∧c.any p=false)∨∃(j:Nat) (h:j<c.length),n=j∧p c[j]=true∧(c.take j).any p=false
theorem Kd.any{c:List ak}{p:ak→Bool}{n:Int}(h:Kd c p n):decide (0≤n)=c.any p:=by
 rcases h with⟨rfl,h⟩|⟨j,au,rfl,h,_⟩
 rw[h];rfl;rw[show c.any p=true from List.any_eq_true.2 ⟨c[j],List.getElem_mem au,h⟩];simp
theorem XB{I:aa}{v b1:Value}{c:List ak}{δf:List ay}{p:ak→Bool}(ax:cf I v c)(a7:Kc Tryz.prog b1 I δf c p):
 aS Tryz.prog 41 [v,b1] I δf (fun v _ δ'=>(∃n:Int,v=.int .i64 n∧Kd c p n)∧δ'=δf):=by
 obtain⟨ad,bu,xs,rfl,aq,al,ep,bm⟩:=ax;refine a1 func41 ntmps41 fun aG=> ?_;refine dn ?_;refine ek (fun m aL ai δ'=>∃k:Nat,m=c.length-k∧k≤c.length∧aL= [(0,.slice ad c.length bu),(1,b1),(7,.int .i64 c.length),(8,.int .i64 k)]∧I.le ai∧δ'=δf∧(c.take k).any p=false) c.length [(0,.slice ad c.length bu),(1,b1),(7,.int .i64 c.length),(8,.int .i64 (0:Nat))] ⟨0,rfl,Nat.zero_le _,rfl,aa.le_refl _,rfl,rfl⟩ ⟨rfl,rfl,rfl,rfl,trivial⟩ ?_;rintro m _ I0 _ ⟨k,rfl,hk,rfl,bO,rfl,az⟩;refine aZ ?_;refine bF rfl (fun aV=> ?_) (fun aV=> ?_);have av:k<c.length:=by simpa using aV
 obtain⟨vs,⟨la,lc,ra,rc,rfl,aA,an⟩,aW⟩:=bm.fj ep av;have db:=aW.isSome;refine fT ?_;refine aI (cC (aW.mono bO)) ?_;refine e8 rfl rfl rfl ((a7 _ c[k] (hv c[k] la lc ra rc) bO ⟨la,lc,ra,rc,rfl,aA.mono bO,an.mono bO⟩ (List.getElem_mem av))) df.all ?_;rintro mO jK _ jf ⟨rfl,rfl⟩;rw[List.append_nil];refine go2 ?_;refine bF rfl (fun bq=> ?_) (fun bq=> ?_);refine bW ?_;refine dY ?_;exact⟨⟨k,rfl,.inr ⟨k,av,rfl,bq,az⟩⟩,rfl⟩;refine aP ?_;refine cV (c.length-(k+1)) [(0,.slice ad c.length bu),(1,b1),(7,.int .i64 c.length),(8,.int .i64 (k+1:Nat))] ah ⟨k+1,rfl,av,rfl,aa.le_trans bO jf,rfl,by rw[List.take_succ_eq_append_getElem av,List.any_append,az];simp[bq]⟩ ⟨rfl,rfl,rfl,rfl,trivial⟩;have bV:k=c.length:=by simp at aV;omega
 subst bV;rw[List.take_length]at az;refine bA ?_;refine dY ?_;exact⟨⟨-1,rfl,.inl ⟨rfl,az⟩⟩,rfl⟩
abbrev pM(A:Option Addr)(c:Nat)(n:Nat)(xs:List Value):ay:=.row (.slice A n c) 68 5 n xs
theorem XC{I:aa}{b1:Value}{A:Option Addr}{bu:Nat}{c:List ak}{xs:List Value}{δf:List ay}{p:ak→Bool}(bm:bd fG I xs c)(al:c.length≤1954687338211)(a7:Kc Tryz.prog b1 I δf c p):
 aS Tryz.prog 41 [.slice A c.length bu,b1] I (pM A bu c.length xs::δf) (fun v _ δ'=>(∃n:Int,v=.int .i64 n∧Kd c p n)∧δ'=pM A bu c.length xs::δf):=by
 refine a1 func41 ntmps41 fun aG=> ?_;refine dn ?_;refine ek (fun m aL ai δ'=>∃k:Nat,m=c.length-k∧k≤c.length∧aL= [(0,.slice A c.length bu),(1,b1),(7,.int .i64 c.length),(8,.int .i64 k)]∧I.le ai∧δ'=pM A bu c.length xs::δf∧(c.take k).any p=false) c.length [(0,.slice A c.length bu),(1,b1),(7,.int .i64 c.length),(8,.int .i64 (0:Nat))] ⟨0,rfl,Nat.zero_le _,rfl,aa.le_refl _,rfl,rfl⟩ ⟨rfl,rfl,rfl,rfl,trivial⟩ ?_;rintro m _ I0 _ ⟨k,rfl,hk,rfl,bO,rfl,az⟩;refine aZ ?_;refine bF rfl (fun aV=> ?_) (fun aV=> ?_);have av:k<c.length:=by simpa using aV
 obtain⟨vs,⟨la,lc,ra,rc,rfl,aA,an⟩,_,r,jP⟩:=bm.at av;refine gk ?_;refine aK.gK Has.here ah (fun bo eV=> ?_);refine aX ?_;refine aI (gH (v:=.agg (hv c[k] la lc ra rc).toArray) Fc rfl Has.here bo (by rw[jP];rfl)) ?_;refine e8 rfl rfl rfl ((a7 _ c[k] (hv c[k] la lc ra rc) bO ⟨la,lc,ra,rc,rfl,aA.mono bO,an.mono bO⟩ (List.getElem_mem av))) (List.perm_append_comm (l₁:= [_])) ?_;rintro mO jK _ jf ⟨rfl,rfl⟩;refine aK.view (View.perm (List.perm_append_comm (l₂:= [_]))) ?_;refine go2 ?_;refine bF rfl (fun bq=> ?_) (fun bq=> ?_);refine bW ?_;refine dY ?_;exact⟨⟨k,rfl,.inr ⟨k,av,rfl,bq,az⟩⟩,rfl⟩;refine aP ?_;refine cV (c.length-(k+1)) [(0,.slice A c.length bu),(1,b1),(7,.int .i64 c.length),(8,.int .i64 (k+1:Nat))] ah ⟨k+1,rfl,av,rfl,aa.le_trans bO jf,rfl,by rw[List.take_succ_eq_append_getElem av,List.any_append,az];simp[bq]⟩ ⟨rfl,rfl,rfl,rfl,trivial⟩;have bV:k=c.length:=by simp at aV;omega
 subst bV;rw[List.take_length]at az;refine bA ?_;refine dY ?_;exact⟨⟨-1,rfl,.inl ⟨rfl,az⟩⟩,rfl⟩
theorem O6{I:aa}{v b1:Value}{c:List ak}{δf:List ay}{p:ak→Bool}(ax:cf I v c)(a7:Kc Tryz.prog b1 I δf c p):
 aS Tryz.prog 47 [v,b1] I δf (fun v _ δ'=>v=.bool (c.any p)∧δ'=δf):=by
 refine a1 func47 ntmps47 fun aG=> ?_;refine br ?_;refine hr rfl (XB ax a7) ?_;rintro mM je _ kA ⟨⟨n,rfl,aD⟩,rfl⟩;rw[List.append_nil];refine aI (kV (z:=c.any p) rfl rfl (by rw[←aD.any];rfl)) ?_;refine a8 ?_;refine dY ?_;exact⟨rfl,rfl⟩
theorem amq{I:aa}{b1:Value}{A:Option Addr}{bu:Nat}{c:List ak}{xs:List Value}{δf:List ay}{p:ak→Bool}(bm:bd fG I xs c)(al:c.length≤1954687338211)(a7:Kc Tryz.prog b1 I δf c p):
 aS Tryz.prog 47 [.slice A c.length bu,b1] I (pM A bu c.length xs::δf) (fun v _ δ'=>v=.bool (c.any p)∧δ'=pM A bu c.length xs::δf):=by
 refine a1 func47 ntmps47 fun aG=> ?_;refine br ?_;refine hr rfl (XC bm al a7) ?_;rintro mM je _ kA ⟨⟨n,rfl,aD⟩,rfl⟩;rw[List.append_nil];refine aI (kV (z:=c.any p) rfl rfl (by rw[←aD.any];rfl)) ?_;refine a8 ?_;refine dY ?_;exact⟨rfl,rfl⟩
def cy(gs:List aE)(t:T):Bool:=decide (0≤t.head)&&wz gs t.head
def mT(gs:List aE)(x:ak):Bool:=(cy gs x.l&&decide (x.r.head≠0))||(!cy gs x.l&&cy gs x.r)
def ee(gs:List aE)(x:ak):Int:=if fX gs x.l≠0 then fX gs x.l else if fX gs x.r≠0 then fX gs x.r else if mT gs x=true then 10 else 0
theorem ld{gs:List aE}{x:ak}(h:ee gs x=0):b9 gs x.l∧b9 gs x.r:=by
 unfold ee at h;by_cases ab:fX gs x.l=0;by_cases ae:fX gs x.r=0;exact⟨oF.1 ab,oF.1 ae⟩;rw[if_neg ah,if_pos ae]at h;exact absurd h ae;rw[if_pos ab]at h;exact absurd h ab
theorem amr{I:aa}{vg:Value}{gs:List aE}{x:ak}{la ra:Option Addr}{lc rc:Nat}(aM:cP I vg gs)(aA:ba I (.agg #[.int .i64 x.l.head,.slice la x.l.args.length lc]) x.l)(ab:x.l.size≤1000000000):
 aS Tryz.prog 69 [.agg #[vg,.bool x.neg,.int .i64 x.l.head,.slice la x.l.args.length lc,.int .i64 x.r.head,.slice ra x.r.args.length rc]] I [] (fun v _ δ'=>v=.int .i64 (fX gs x.l)∧δ'= []):=by
 obtain⟨cQ,gc,rfl⟩:=aM.shape;refine a1 func69 ntmps69 fun aG=> ?_;refine go2 ?_;refine bw fun e2=> ?_;refine b_ ?_;refine bN rfl (JS (aM.mono aa.ag) (aA.mono aa.ag) ab) ?_;rintro _ jt _ jJ ⟨rfl,rfl⟩;refine a8 ?_;refine bn ?_;exact⟨rfl,rfl⟩
theorem ams{I:aa}{vg:Value}{gs:List aE}{x:ak}{la ra:Option Addr}{lc rc:Nat}(aM:cP I vg gs)(aA:ba I (.agg #[.int .i64 x.r.head,.slice ra x.r.args.length rc]) x.r)(ab:x.r.size≤1000000000):
 aS Tryz.prog 70 [.agg #[vg,.bool x.neg,.int .i64 x.l.head,.slice la x.l.args.length lc,.int .i64 x.r.head,.slice ra x.r.args.length rc]] I [] (fun v _ δ'=>v=.int .i64 (fX gs x.r)∧δ'= []):=by
 obtain⟨cQ,gc,rfl⟩:=aM.shape;refine a1 func70 ntmps70 fun aG=> ?_;refine go2 ?_;refine bw fun e2=> ?_;refine b_ ?_;refine bN rfl (JS (aM.mono aa.ag) (aA.mono aa.ag) ab) ?_;rintro _ jt _ jJ ⟨rfl,rfl⟩;refine a8 ?_;refine bn ?_;exact⟨rfl,rfl⟩
theorem XD{I:aa}{vg v:Value}{gs:List aE}{t:T}{cs:List Value}(aM:cP I vg gs)(ax:ba I v t)(eX:∃a b c d e,cs= [a,b,c,d,e])(bK:0≤t.head→t.head<gs.length):
 aS Tryz.prog 108 [.agg (vg::cs).toArray,v] I [] (fun v _ δ'=>v=.bool (cy gs t)∧δ'= []):=by
 obtain⟨a,b,c,d,e,rfl⟩:=eX;obtain⟨cQ,gc,rfl⟩:=aM.shape;obtain⟨_,Br,Ke,sI,Kf⟩:=aM.open;obtain⟨a0,bu,rfl,ib⟩:=ax.shape;refine a1 func108 ntmps108 fun aG=> ?_;refine go2 ?_;refine bw fun b2=> ?_;refine bw fun b3=> ?_;refine aP ?_;by_cases iC:0≤t.head;have kx:=bK iC;have tO:t.head.toNat<gs.length:=by omega
 have uW:=(sI _ tO).isSome;refine aZ ?_;refine cZ ?_;refine aI (tn underlying22 wa rfl rfl) ?_;refine aX ?_;refine cZ ?_;refine aI (q7 k0 (sI _ tO) rfl rfl rfl) ?_;refine a_ ?_;refine bn ?_;exact⟨by simp[dF,cy,iC,Dg iC kx],rfl⟩;refine dn ?_;refine bn ?_;exact⟨by simp[dF,cy,iC],rfl⟩
theorem amt{I:aa}{vg:Value}{gs:List aE}{x:ak}{la ra:Option Addr}{lc rc:Nat}(aM:cP I vg gs)(aA:ba I (.agg #[.int .i64 x.l.head,.slice la x.l.args.length lc]) x.l)(an:ba I (.agg #[.int .i64 x.r.head,.slice ra x.r.args.length rc]) x.r)(ab:0≤x.l.head→x.l.head<gs.length)(ae:0≤x.r.head→x.r.head<gs.length):
 aS Tryz.prog 71 [.agg #[vg,.bool x.neg,.int .i64 x.l.head,.slice la x.l.args.length lc,.int .i64 x.r.head,.slice ra x.r.args.length rc]] I [] (fun v _ δ'=>v=.int .i64 (if mT gs x=true then 10 else 0)∧δ'= []):=by
 obtain⟨cQ,gc,rfl⟩:=aM.shape;refine a1 func71 ntmps71 fun aG=> ?_;refine go2 ?_;refine bw fun e2=> ?_;refine br ?_;refine bN rfl (XD (cs:=hv x la lc ra rc) (aM.mono aa.ag) (aA.mono aa.ag) ⟨_,_,_,_,_,rfl⟩ ab) ?_;rintro _ jt _ jJ ⟨rfl,rfl⟩;refine aZ ?_;by_cases aQ:cy gs x.l=true;rw[aQ];refine aZ ?_;by_cases aT:x.r.head≠0;refine xp ?_;refine bn ?_;exact⟨by rw[if_pos (by simp[mT,aQ,aT])];rfl,rfl⟩;refine xq ?_;refine bn ?_;exact⟨by rw[if_neg (by simp[mT,aQ];omega)];rfl,rfl⟩;have tN:cy gs x.l=false:=by simpa using aQ
 rw[tN];refine fT ?_;refine cZ ?_;refine bN rfl (XD (cs:=hv x la lc ra rc) (aM.mono aa.ag) (an.mono aa.ag) ⟨_,_,_,_,_,rfl⟩ ae) ?_;rintro _ tz _ k7 ⟨rfl,rfl⟩;by_cases dA:cy gs x.r=true;rw[dA];refine bW ?_;refine bn ?_;exact⟨by rw[if_pos (by simp[mT,tN,dA])];rfl,rfl⟩;have XE:cy gs x.r=false:=by simpa using dA
 rw[XE];refine cT ?_;refine bn ?_;exact⟨by rw[if_neg (by simp[mT,tN,XE])];rfl,rfl⟩
theorem amu {I:aa} {A:Option Addr} {vg:Value} {x:ak} {la ra:Option Addr} {lc rc:Nat} {dE:List Value} {es:List Int} (ep:Cells I A dE) (hlen:dE.length=es.length) (Bj:dE.length≤1000) (zo:vg.oneCell'=true)
 (a7:∀J i (h:i<dE.length),I.le J→(∀j (au:j<es.length),j<i→es[j]=0)→cR Tryz.prog dE[i] [.agg #[vg,.bool x.neg,.int .i64 x.l.head,.slice la x.l.args.length lc,.int .i64 x.r.head,.slice ra x.r.args.length rc]] J [] (fun v _ δ'=>v=.int .i64 (es[i]'(by omega))∧δ'= [])):
 aS Tryz.prog 68 [.agg #[vg,.bool x.neg,.int .i64 x.l.head,.slice la x.l.args.length lc,.int .i64 x.r.head,.slice ra x.r.args.length rc],.slice A dE.length dE.length] I [] (fun v _ δ'=>v=.int .i64 (nM es)∧δ'= []):=by
 have aW:∀i (h:i<dE.length),At I A (i*1) [dE[i]]:=fun i h=>ep.at _ fun j u au=>by
  rcases j with _|j
  simp at au;subst au;simp[h];simp at au
 refine a1 func68 ntmps68 fun aG=> ?_;refine go2 ?_;refine bw fun b2=> ?_;refine bW ?_;refine ek (fun m aL ai δ'=>∃k:Nat,m=dE.length-k∧k≤dE.length∧aL= [(2,.pointer (some ⟨b2,0,none⟩)),(8,.slice A dE.length dE.length),(9,.int .i64 dE.length),(10,.int .i64 k)]∧I.le ai∧δ'= [.box b2 130 [vg,.bool x.neg,.int .i64 x.l.head,.slice la x.l.args.length lc,.int .i64 x.r.head,.slice ra x.r.args.length rc]]∧nM es=nM (es.drop k)∧∀j (au:j<es.length),j<k→es[j]=0) dE.length [(2,.pointer (some ⟨b2,0,none⟩)),(8,.slice A dE.length dE.length),(9,.int .i64 dE.length),(10,.int .i64 (0:Nat))] ⟨0,rfl,Nat.zero_le _,rfl,aa.le_refl _,rfl,rfl,fun j _ h=>by omega⟩ ⟨rfl,rfl,rfl,rfl,trivial⟩ ?_;rintro m _ I0 _ ⟨k,rfl,hk,rfl,bO,rfl,az,a2⟩;refine aZ ?_;refine bF rfl (fun aV=> ?_) (fun aV=> ?_);have av:k<dE.length:=by simpa using aV
 have jN:k<es.length:=by omega
 have db:=(aW k av).isSome;rw[List.drop_eq_getElem_cons jN]at az;refine aP ?_;refine aI (cC ((aW k av).mono bO)) ?_;refine aP ?_;refine e8 rfl rfl rfl ((a7 _ k av aa.ag a2)) df.none ?_;rintro _ jK _ jf ⟨rfl,rfl⟩;refine br ?_;refine bF rfl (fun bq=> ?_) (fun bq=> ?_);have cu:es[k]≠0:=by simpa using bq
 refine bW ?_;refine bn ?_;exact⟨by rw[az];simp[dF,nM,cu],rfl⟩;have heq:es[k]=0:=by simpa using bq
 refine aP ?_;refine cV (dE.length-(k+1)) [(2,.pointer (some ⟨b2,0,none⟩)),(8,.slice A dE.length dE.length),(9,.int .i64 dE.length),(10,.int .i64 (k+1:Nat))] ah ⟨k+1,rfl,av,rfl,aa.ag,rfl,by rw[az];simp[nM,heq],fun j au xN=> ?_⟩ ⟨rfl,rfl,rfl,rfl,trivial⟩;rcases Nat.lt_or_ge j k with aC|aC
 exact a2 j au aC;have fL:j=k:=by omega
 subst fL;exact heq;have bV:k=es.length:=by simp at aV;omega
 rw[bV,List.drop_length]at az;refine bA ?_;refine bn ?_;exact⟨by rw[az];simp[dF,nM],rfl⟩
theorem O7{I:aa}{vg bz:Value}{gs:List aE}{x:ak}(aM:cP I vg gs)(bk:mm I bz x)(ab:x.l.size≤1000000000)(ae:x.r.size≤1000000000):
 aS Tryz.prog 40 [vg,bz] I [] (fun v _ δ'=>v=.int .i64 (ee gs x)∧δ'= []):=by
 obtain⟨la,lc,ra,rc,rfl,aA,an⟩:=bk;obtain⟨cQ,gc,rfl⟩:=aM.shape
 have kf:nM [fX gs x.l,fX gs x.r,if mT gs x=true then 10 else 0]=ee gs x:=by
  unfold ee;simp only[nM];split<;>(try rfl)
  split<;>(try rfl)
  split<;>rfl
 refine a1 func40 ntmps40 fun aG=> ?_;refine go2 ?_;refine bw fun b3=> ?_;refine aP ?_;refine aI (T_ (cs:= [.slice cQ gs.length gc,.bool x.neg,.int .i64 x.l.head,.slice la x.l.args.length lc,.int .i64 x.r.head,.slice ra x.r.args.length rc]) UW rfl rfl) ?_;refine c_ fun b8=> ?_;refine aK.dO aO.here ?_;rintro jt FB FC jJ aC zp Dn Bs;cases aC;have fV:Cells jt _ [.func (.func 69) #[] #[],.func (.func 70) #[] #[],.func (.func 71) #[] #[]]:=Bs;have amv:∀J,jt.le J→cR Tryz.prog (.func (.func 69) #[] #[]) [.agg #[.slice cQ gs.length gc,.bool x.neg,.int .i64 x.l.head,.slice la x.l.args.length lc,.int .i64 x.r.head,.slice ra x.r.args.length rc]] J [] (fun v _ δ'=>v=.int .i64 (fX gs x.l)∧δ'= []):=fun J cj=>cR.fq (caps:= []) (show eb Tryz.prog 69=true by kernel_rfl) (amr (x:=x) (aM.mono aa.ag) (aA.mono aa.ag) ab);have amw:∀J,jt.le J→cR Tryz.prog (.func (.func 70) #[] #[]) [.agg #[.slice cQ gs.length gc,.bool x.neg,.int .i64 x.l.head,.slice la x.l.args.length lc,.int .i64 x.r.head,.slice ra x.r.args.length rc]] J [] (fun v _ δ'=>v=.int .i64 (fX gs x.r)∧δ'= []):=fun J cj=>cR.fq (caps:= []) (show eb Tryz.prog 70=true by kernel_rfl) (ams (x:=x) (aM.mono aa.ag) (an.mono aa.ag) ae);have Kg:∀J,jt.le J→b9 gs x.l→b9 gs x.r→cR Tryz.prog (.func (.func 71) #[] #[]) [.agg #[.slice cQ gs.length gc,.bool x.neg,.int .i64 x.l.head,.slice la x.l.args.length lc,.int .i64 x.r.head,.slice ra x.r.args.length rc]] J [] (fun v _ δ'=>v=.int .i64 (if mT gs x=true then 10 else 0)∧δ'= []):=fun J cj eM dz=>by have dj:=eM.ze (true,x.l) (by rw[gU];exact List.mem_cons_self ..);have cY:=dz.ze (true,x.r) (by rw[gU];exact List.mem_cons_self ..);simp only at dj cY;exact cR.fq (caps:= []) (show eb Tryz.prog 71=true by kernel_rfl) (amt (x:=x) (aM.mono aa.ag) (aA.mono aa.ag) (an.mono aa.ag) ah ah)
 have iu:∀J i (h:i< [Value.func (.func 69) #[] #[],Value.func (.func 70) #[] #[],Value.func (.func 71) #[] #[]].length),jt.le J→(∀j (au:j< [fX gs x.l,fX gs x.r,if mT gs x=true then 10 else 0].length),j<i→[fX gs x.l,fX gs x.r,if mT gs x=true then 10 else 0][j]=0)→cR Tryz.prog [Value.func (.func 69) #[] #[],Value.func (.func 70) #[] #[],Value.func (.func 71) #[] #[]][i] [.agg #[.slice cQ gs.length gc,.bool x.neg,.int .i64 x.l.head,.slice la x.l.args.length lc,.int .i64 x.r.head,.slice ra x.r.args.length rc]] J [] (fun v _ δ'=>v=.int .i64 ([fX gs x.l,fX gs x.r,if mT gs x=true then 10 else 0][i]'(by simpa using h))∧δ'= []):=fun J i aj cj a2=>by
  rcases i with _|_|_|i
  exact amv J cj;exact amw J cj;exact Kg J cj (oF.1 (a2 0 (by simp) ah)) (oF.1 (a2 1 (by simp) ah));simp at aj;omega
 have XF:=amu (A:=some ⟨b8,0,none⟩) (x:=x) (vg:=.slice cQ gs.length gc) (la:=la) (ra:=ra) (lc:=lc) (rc:=rc) (es:= [fX gs x.l,fX gs x.r,if mT gs x=true then 10 else 0]) fV (by simp) (by simp) rfl iu;rw[kf]at XF;refine bN rfl XF ?_;rintro _ tB _ lF ⟨rfl,rfl⟩;refine a8 ?_;refine bn ?_;exact⟨rfl,rfl⟩
def hK(c:List ak):Prop:=∀x∈c,x.l.size≤1000000000∧x.r.size≤1000000000
theorem hK.at{c:List ak}(h:hK c){k:Nat}(hk:k<c.length):c[k].l.size≤1000000000∧c[k].r.size≤1000000000:=h _ (List.getElem_mem hk)
theorem Gf{I:aa}{v:Value}{c:List ak}(ax:cf I v c):
 aS Tryz.prog 45 [v] I [] (fun v ai δ'=>ed ai v (bE c)∧δ'= []):=by
 obtain⟨ad,bu,xs,rfl,aq,al,ep,bm⟩:=ax;refine a1 func45 ntmps45 fun aG=> ?_;refine ic ?_;refine bJ.view (View.gh 41 2) ?_;refine ek (fun m aL ai δ'=>∃(k:Nat) (A:Option Addr) (cJ:Nat) (ys:List Value),m=c.length-k∧k≤c.length∧aL= [(3,.slice A (2*k) cJ),(6,.slice ad c.length bu),(7,.int .i64 c.length),(8,.int .i64 k)]∧I=ai∧δ'= [.row (.slice A (2*k) cJ) 41 2 (2*k) ys]∧bd sH I ys (bE (c.take k))) c.length [(3,.slice none (2*0) 0),(6,.slice ad c.length bu),(7,.int .i64 c.length),(8,.int .i64 (0:Nat))] ⟨0,none,0,[],rfl,Nat.zero_le _,rfl,rfl,rfl,rfl⟩ ⟨rfl,rfl,rfl,rfl,trivial⟩ ?_;rintro m _ _ _ ⟨k,A,cJ,ys,rfl,hk,rfl,rfl,rfl,dX⟩;refine aZ ?_;refine bF rfl (fun aV=> ?_) (fun aV=> ?_);have av:k<c.length:=by simpa using aV
 obtain⟨vs,⟨la,lc,ra,rc,rfl,aA,an⟩,aW⟩:=bm.fj ep av;have db:=aW.isSome;refine aP ?_;refine aI (cC (aW)) ?_;refine bh fun b5=> ?_;refine br ?_;refine c_ fun jM=> ?_;refine gl fun Bp Bq=> ?_;refine bg ?_;refine bf.view (View.drop aO.here) ?_;refine bf.view (View.drop aO.here) ?_;refine cV (c.length-(k+1)) [(3,.slice Bp (2*(k+1)) Bq),(6,.slice ad c.length bu),(7,.int .i64 c.length),(8,.int .i64 (k+1:Nat))] ah ⟨k+1,Bp,Bq,ys++ [.int .i64 c[k].l.head,.slice la c[k].l.args.length lc,.int .i64 c[k].r.head,.slice ra c[k].r.args.length rc],rfl,av,rfl,rfl,?_,?_⟩ ⟨rfl,rfl,rfl,rfl,trivial⟩;simp[cat,c9];omega;rw[Xr c k av];exact dX.app ⟨[.int .i64 c[k].l.head,.slice la c[k].l.args.length lc],[.int .i64 c[k].r.head,.slice ra c[k].r.args.length rc],rfl,⟨la,lc,rfl,aA⟩,bd.single ⟨ra,rc,rfl,an⟩⟩;have bV:k=c.length:=by simp at aV;omega
 subst bV;rw[List.take_length]at dX;refine aP ?_;refine aK.dO aO.here ?_;rintro vb Gg amx tI aC ayr ays amy;cases aC;refine a_ ?_;refine bn ?_;refine⟨?_,rfl⟩;have ae:=wL c;have:=bd.tC (c:=cJ) (dX.mono tI) amy ah ah;rw[ae]at this;exact this
theorem amz{I:aa}{b:Nat}{l m:ak}{ul Gh:List Value}(aA:fG.R I l ul)(hm:fG.R I m Gh)(ab:l.l.size≤1000000000)(ae:l.r.size≤1000000000)(aF:m.l.size≤1000000000)(bb:m.r.size≤1000000000):
 aS Tryz.prog 48 [.agg Gh.toArray,.pointer (some ⟨b,0,none⟩)] I [.box b 68 ul] (fun v _ δ'=>v=.bool (jO l m)∧δ'= [.box b 68 ul]):=by
 have kx:=zl aA;have xj:=zl hm;obtain⟨la,lc,ra,rc,rfl,_,_⟩:=aA;obtain⟨iZ,jv,hV,hW,rfl,_,_⟩:=hm;refine a1 func48 ntmps48 fun aG=> ?_;refine go2 ?_;refine bw fun b2=> ?_;refine aP ?_;refine bN rfl (Xu kx xj ab ae aF bb) ?_;rintro v6 wk _ tw ⟨rfl,rfl⟩;refine a8 ?_;refine dv (rs:= [.tmp 3]) rfl (List.Perm.refl _) (.cons (.tmp rfl) .nil) (List.sublist_cons_self _ _) ?_;exact⟨rfl,rfl⟩
theorem amA{I:aa}{b:Nat}{l m:ak}{ul Gh:List Value}(aA:fG.R I l ul)(hm:fG.R I m Gh)(ab:l.l.size≤1000000000)(ae:l.r.size≤1000000000)(aF:m.l.size≤1000000000)(bb:m.r.size≤1000000000):
 aS Tryz.prog 78 [.agg Gh.toArray,.pointer (some ⟨b,0,none⟩)] I [.box b 68 ul] (fun v _ δ'=>v=.bool (sG l m)∧δ'= [.box b 68 ul]):=by
 have kx:=zl aA;have xj:=zl hm;obtain⟨la,lc,ra,rc,rfl,_,_⟩:=aA;obtain⟨iZ,jv,hV,hW,rfl,_,_⟩:=hm;refine a1 func78 ntmps78 fun aG=> ?_;refine go2 ?_;refine bw fun b2=> ?_;refine aP ?_;refine bN rfl (amg kx xj ab ae aF bb) ?_;rintro v6 wk _ tw ⟨rfl,rfl⟩;refine a8 ?_;refine dv (rs:= [.tmp 3]) rfl (List.Perm.refl _) (.cons (.tmp rfl) .nil) (List.sublist_cons_self _ _) ?_;exact⟨rfl,rfl⟩
theorem Gi{I:aa}{v:Value}{c:List ak}(ax:cf I v c)(ao:hK c):
 aS Tryz.prog 31 [v] I [] (fun v ai δ'=>cf ai v (eH c)∧δ'= []):=by
 obtain⟨ad,bu,xs,rfl,aq,al,ep,bm⟩:=ax;refine a1 func31 ntmps31 fun aG=> ?_;refine ic ?_;refine bJ.view (View.gh 68 5) ?_;refine ek (fun m aL ai δ'=>∃(k:Nat) (A:Option Addr) (cJ:Nat) (ys:List Value),m=c.length-k∧k≤c.length∧aL= [(3,.slice A (hl [] (c.take k)).length cJ),(7,.slice ad c.length bu),(8,.int .i64 c.length),(9,.int .i64 k)]∧I.le ai∧δ'= [pM A cJ (hl [] (c.take k)).length ys]∧bd fG ai ys (hl [] (c.take k))) c.length [(3,.slice none 0 0),(7,.slice ad c.length bu),(8,.int .i64 c.length),(9,.int .i64 (0:Nat))] ⟨0,none,0,[],rfl,Nat.zero_le _,rfl,aa.le_refl _,rfl,rfl⟩ ⟨rfl,rfl,rfl,rfl,trivial⟩ ?_;rintro m _ I0 _ ⟨k,A,cJ,ys,rfl,hk,rfl,bO,rfl,dX⟩;have uO:=amn [] (c.take k);rw[List.length_take,List.length_nil]at uO;refine aZ ?_;refine bF rfl (fun aV=> ?_) (fun aV=> ?_);have av:k<c.length:=by simpa using aV
 obtain⟨vs,bL,aW⟩:=bm.fj ep av;obtain⟨la,lc,ra,rc,rfl,aA,an⟩:=bL;have db:=aW.isSome;have hj:=ao.at av;have hQ:∀x∈hl [] (c.take k),x∈c:=fun x af=>by rcases amo _ _ x af with h|h;cases h;exact List.mem_of_mem_take h
 have mn:=amp c k av;refine aP ?_;refine aI (cC (aW.mono bO)) ?_;refine bh fun b5=> ?_;refine aP ?_;refine eo rfl (amq (c:=hl [] (c.take k)) (p:=fun m=>jO c[k] m) dX ah (fun J x u cj hu af=>cR.fq (args:= [_]) (caps:= [_]) ai1 (amz (b:=b5) (fG.mono (aa.le_trans bO cj) ⟨la,lc,ra,rc,rfl,aA,an⟩) hu hj.1 hj.2 (ao x (hQ x af)).1 (ao x (hQ x af)).2))) (List.Perm.swap _ _ _) ?_;rintro wB mR _ sx ⟨rfl,rfl⟩;rw[List.append_nil];refine aZ ?_;by_cases ar:((hl [] (c.take k)).any fun m=>jO c[k] m)=true;rw[ar];have mo:oJ (hl [] (c.take k)) c[k]=true:=by unfold oJ;rw[ar];rfl
 rw[if_pos mo]at mn;refine rk ?_;refine bf.view (View.drop (aO.there aO.here)) ?_;refine cV (c.length-(k+1)) [(3,.slice A (hl [] (c.take k)).length cJ),(7,.slice ad c.length bu),(8,.int .i64 c.length),(9,.int .i64 (k+1:Nat))] ah ⟨k+1,A,cJ,ys,rfl,av,by rw[mn],aa.ag,by rw[mn],by rw[mn];exact dX.mono aa.ag⟩ ⟨rfl,rfl,rfl,rfl,trivial⟩;have l1:((hl [] (c.take k)).any fun m=>jO c[k] m)=false:=by simpa using ar
 rw[l1];refine aR ?_;by_cases aD:c[k].neg=true;refine cZ ?_;refine aI (uX (cs:=hv c[k] la lc ra rc) (off:=0) (agg:=false) (n:=1) (v:=.bool true) k0 rfl (by show some (Value.bool c[k].neg)=_;rw[aD])) ?_;refine go2 ?_;refine cZ ?_;refine bN rfl (Xv (x:=c[k]) ⟨la,lc,ra,rc,rfl,aA.mono aa.ag,an.mono aa.ag⟩ hj.1 hj.2) ?_;rintro v23 pJ _ pK ⟨rfl,rfl⟩;refine a_ ?_;refine bF rfl (fun bq=> ?_) (fun bq=> ?_);have mo:oJ (hl [] (c.take k)) c[k]=false:=by unfold oJ rI;rw[l1,aD];simpa using bq
 rw[if_neg (by rw[mo];simp)]at mn;refine aR ?_;refine c_ fun Df=> ?_;refine gl fun za zb=> ?_;refine bg ?_;refine bf.view (View.drop aO.here) ?_;refine bf.view (View.drop (aO.there aO.here)) ?_;refine cV (c.length-(k+1)) [(3,.slice za ((hl [] (c.take k)).length+1) zb),(7,.slice ad c.length bu),(8,.int .i64 c.length),(9,.int .i64 (k+1:Nat))] ah ⟨k+1,za,zb,ys++hv c[k] la lc ra rc,rfl,av,by rw[mn];simp,aa.ag,by rw[mn];simp[cat,c9],by rw[mn];exact(dX.mono aa.ag).app (bd.single ⟨la,lc,ra,rc,rfl,aA.mono aa.ag,an.mono aa.ag⟩)⟩ ⟨rfl,rfl,rfl,rfl,trivial⟩;have mo:oJ (hl [] (c.take k)) c[k]=true:=by unfold oJ rI;rw[l1,aD];simpa using bq
 rw[if_pos mo]at mn;refine aP ?_;refine bf.view (View.drop (aO.there aO.here)) ?_;refine cV (c.length-(k+1)) [(3,.slice A (hl [] (c.take k)).length cJ),(7,.slice ad c.length bu),(8,.int .i64 c.length),(9,.int .i64 (k+1:Nat))] ah ⟨k+1,A,cJ,ys,rfl,av,by rw[mn],aa.ag,by rw[mn],by rw[mn];exact dX.mono aa.ag⟩ ⟨rfl,rfl,rfl,rfl,trivial⟩;have mN:c[k].neg=false:=by simpa using aD
 have mo:oJ (hl [] (c.take k)) c[k]=false:=by unfold oJ;rw[l1,mN];rfl
 rw[if_neg (by rw[mo];simp)]at mn;refine cZ ?_;refine aI (uX (cs:=hv c[k] la lc ra rc) (off:=0) (agg:=false) (n:=1) (v:=.bool false) k0 rfl (by show some (Value.bool c[k].neg)=_;rw[mN])) ?_;refine bW ?_;refine c_ fun Df=> ?_;refine gl fun za zb=> ?_;refine bg ?_;refine bf.view (View.drop aO.here) ?_;refine bf.view (View.drop (aO.there aO.here)) ?_;refine cV (c.length-(k+1)) [(3,.slice za ((hl [] (c.take k)).length+1) zb),(7,.slice ad c.length bu),(8,.int .i64 c.length),(9,.int .i64 (k+1:Nat))] ah ⟨k+1,za,zb,ys++hv c[k] la lc ra rc,rfl,av,by rw[mn];simp,aa.ag,by rw[mn];simp[cat,c9],by rw[mn];exact(dX.mono aa.ag).app (bd.single ⟨la,lc,ra,rc,rfl,aA.mono aa.ag,an.mono aa.ag⟩)⟩ ⟨rfl,rfl,rfl,rfl,trivial⟩;have bV:k=c.length:=by simp at aV;omega
 subst bV;rw[List.take_length]at dX;refine aP ?_;refine aK.dO aO.here ?_;rintro rr a32 Gj ss aC Kh XG Gk;cases aC;rw[List.take_length]at uO Kh;rw[List.take_length];refine a_ ?_;refine bn ?_;exact⟨⟨_,_,ys,rfl,Kh,by show(hl [] c).length≤_;omega,Gk,dX.mono ss⟩,rfl⟩
def Dp:List ak→List ak→Bool
  |_,[]=>false
  |pre,x::r=>(pre.any (fun m=>sG x m)||(!x.neg&&rI x))||Dp (pre++ [x]) r
def zq(c:List ak):Bool:=Dp [] c
theorem XH(c:List ak)(k:Nat)(h:k<c.length):Dp (c.take k) (c.drop k)=(((c.take k).any (fun m=>sG c[k] m)||(!c[k].neg&&rI c[k]))||Dp (c.take (k+1)) (c.drop (k+1))):=by
 rw[List.drop_eq_getElem_cons h,List.take_succ_eq_append_getElem h];rfl
theorem XI{I:aa}{v:Value}{c:List ak}(ax:cf I v c)(ao:hK c):
 aS Tryz.prog 51 [v] I [] (fun v ai δ'=>v=.bool (zq c)∧δ'= []):=by
 obtain⟨ad,bu,xs,rfl,aq,al,ep,bm⟩:=ax;refine a1 func51 ntmps51 fun aG=> ?_;refine dn ?_;refine ek (fun m aL ai δ'=>∃k:Nat,m=c.length-k∧k≤c.length∧aL= [(0,.slice ad c.length bu),(6,.slice ad c.length bu),(7,.int .i64 c.length),(8,.int .i64 k)]∧I.le ai∧δ'= []∧zq c=Dp (c.take k) (c.drop k)) c.length [(0,.slice ad c.length bu),(6,.slice ad c.length bu),(7,.int .i64 c.length),(8,.int .i64 (0:Nat))] ⟨0,rfl,Nat.zero_le _,rfl,aa.le_refl _,rfl,rfl⟩ ⟨rfl,rfl,rfl,rfl,trivial⟩ ?_;rintro m _ I0 _ ⟨k,rfl,hk,rfl,bO,rfl,np⟩;refine aZ ?_;refine bF rfl (fun aV=> ?_) (fun aV=> ?_);have av:k<c.length:=by simpa using aV
 obtain⟨vs,⟨la,lc,ra,rc,rfl,aA,an⟩,aW⟩:=bm.fj ep av;have db:=aW.isSome;have hj:=ao.at av;have fb:=dK.amc (k:=k) (aq) al (ep.mono bO) (bm.mono bO) ah;rw[XH c k av]at np;refine bg ?_;refine aI (cC (aW.mono bO)) ?_;refine bh fun b4=> ?_;refine bg ?_;refine aI (m7 underlying36 xn rfl rfl ah) ?_;refine aX ?_;refine hr rfl (O6 (c:=c.take k) (p:=fun m=>sG c[k] m) fb (fun J x u cj hu af=>cR.fq (args:= [_]) (caps:= [_]) ai4 (amA (b:=b4) (fG.mono (aa.le_trans bO cj) ⟨la,lc,ra,rc,rfl,aA,an⟩) hu hj.1 hj.2 (ao x (List.mem_of_mem_take af)).1 (ao x (List.mem_of_mem_take af)).2))) ?_;rintro u0 ox _ nc ⟨rfl,rfl⟩;rw[List.append_nil];refine aZ ?_;by_cases ar:((c.take k).any fun m=>sG c[k] m)=true;rw[ar];rw[ar]at np;refine xp ?_;refine bn ?_;exact⟨by rw[np];rfl,rfl⟩;have l1:((c.take k).any fun m=>sG c[k] m)=false:=by simpa using ar
 rw[l1];rw[l1]at np;refine go2 ?_;by_cases aD:c[k].neg=true;rw[aD]at np;refine cZ ?_;refine aI (uX (cs:=hv c[k] la lc ra rc) (off:=0) (agg:=false) (n:=1) (v:=.bool true) k0 rfl (by show some (Value.bool c[k].neg)=_;rw[aD])) ?_;refine fT ?_;refine bf.view (View.drop aO.here) ?_;refine cV (c.length-(k+1)) [(0,.slice ad c.length bu),(6,.slice ad c.length bu),(7,.int .i64 c.length),(8,.int .i64 (k+1:Nat))] ah ⟨k+1,rfl,av,rfl,aa.ag,rfl,by rw[np];rfl⟩ ⟨rfl,rfl,rfl,rfl,trivial⟩;have mN:c[k].neg=false:=by simpa using aD
 rw[mN]at np;refine cZ ?_;refine aI (uX (cs:=hv c[k] la lc ra rc) (off:=0) (agg:=false) (n:=1) (v:=.bool false) k0 rfl (by show some (Value.bool c[k].neg)=_;rw[mN])) ?_;refine aR ?_;refine cZ ?_;refine bN rfl (Xv (x:=c[k]) ⟨la,lc,ra,rc,rfl,aA.mono aa.ag,an.mono aa.ag⟩ hj.1 hj.2) ?_;rintro v25 tz _ k7 ⟨rfl,rfl⟩;refine a8 ?_;refine bF rfl (fun bq=> ?_) (fun bq=> ?_);have y4:rI c[k]=true:=bq;rw[y4]at np;refine bA ?_;refine bn ?_;exact⟨by rw[np];rfl,rfl⟩;have y4:rI c[k]=false:=bq;rw[y4]at np;refine aP ?_;refine bf.view (View.drop aO.here) ?_;refine cV (c.length-(k+1)) [(0,.slice ad c.length bu),(6,.slice ad c.length bu),(7,.int .i64 c.length),(8,.int .i64 (k+1:Nat))] ah ⟨k+1,rfl,av,rfl,aa.ag,rfl,by rw[np];rfl⟩ ⟨rfl,rfl,rfl,rfl,trivial⟩;have bV:k=c.length:=by simp at aV;omega
 subst bV;rw[List.drop_length]at np;refine bA ?_;refine bn ?_;exact⟨by rw[np];rfl,rfl⟩
def wM(gs:List aE):List ak→Int
  | []=>0
  |x::r=>if ee gs x≠0 then ee gs x else wM gs r
def bS(gs:List aE)(c:List ak):Int:=if j_ gs≠0 then j_ gs else if 32<c.length then 2 else wM gs c
theorem Gl{gs:List aE}:∀{c:List ak},wM gs c=0↔∀x∈c,ee gs x=0
  | []=>by simp[wM]
  |x::r=>by have aY:=Gl (gs:=gs) (c:=r);simp only[wM];by_cases h:ee gs x≠0;rw[if_pos h];exact⟨fun q=>absurd q h,fun q=>absurd (q x (List.mem_cons_self ..)) h⟩;rw[if_neg h,aY];exact⟨fun q y aw=>by rcases List.mem_cons.1 aw with rfl|aw;exact Classical.not_not.1 h;exact q y aw,fun q y aw=>q y (List.mem_cons_of_mem _ aw)⟩
theorem rJ{I:aa}{vg v:Value}{gs:List aE}{c:List ak}(aM:cP I vg gs)(ax:cf I v c)(ao:hK c):
 aS Tryz.prog 23 [vg,v] I [] (fun v ai δ'=>v=.int .i64 (bS gs c)∧δ'= []):=by
 obtain⟨ad,bu,xs,rfl,aq,al,ep,bm⟩:=ax;refine a1 func23 ntmps23 fun aG=> ?_;refine br ?_;refine bN rfl (JI aM) ?_;rintro v10 j4 _ kB ⟨rfl,rfl⟩;refine aZ ?_;by_cases hT:j_ gs≠0;refine bW ?_;refine bn ?_;exact⟨by rw[show bS gs c=j_ gs from if_pos hT];rfl,rfl⟩;refine bA ?_;by_cases jh:32<c.length;refine bA ?_;refine bn ?_;exact⟨by unfold bS;rw[if_neg hT,if_pos jh];rfl,rfl⟩;have cH:bS gs c=wM gs c:=by unfold bS;rw[if_neg hT,if_neg jh]
 refine gk ?_;refine ek (fun m aL ai δ'=>∃k:Nat,m=c.length-k∧k≤c.length∧aL= [(0,vg),(17,.slice ad c.length bu),(18,.int .i64 c.length),(19,.int .i64 k)]∧I.le ai∧δ'= []∧wM gs c=wM gs (c.drop k)) c.length [(0,vg),(17,.slice ad c.length bu),(18,.int .i64 c.length),(19,.int .i64 (0:Nat))] ⟨0,rfl,Nat.zero_le _,rfl,aa.ag,rfl,rfl⟩ ⟨rfl,rfl,rfl,rfl,trivial⟩ ?_;rintro m _ I0 _ ⟨k,rfl,hk,rfl,bO,rfl,np⟩;refine aZ ?_;refine bF rfl (fun c4=> ?_) (fun c4=> ?_);have av:k<c.length:=by simpa using c4
 obtain⟨vs,⟨la,lc,ra,rc,rfl,aA,an⟩,aW⟩:=bm.fj ep av;have db:=aW.isSome;have hj:=ao.at av;rw[List.drop_eq_getElem_cons av]at np;refine aP ?_;refine aI (cC (aW.mono bO)) ?_;refine bh fun dp=> ?_;refine aP ?_;refine bN rfl (O7 (x:=c[k]) (aM.mono bO) ⟨la,lc,ra,rc,rfl,aA.mono bO,an.mono bO⟩ hj.1 hj.2) ?_;rintro v25 tz _ k7 ⟨rfl,rfl⟩;refine aZ ?_;by_cases ka:ee gs c[k]≠0;refine fT ?_;refine bn ?_;exact⟨by rw[cH,np,wM,if_pos ka];rfl,rfl⟩;refine bA ?_;refine bf.view (View.drop aO.here) ?_;refine cV (c.length-(k+1)) [(0,vg),(17,.slice ad c.length bu),(18,.int .i64 c.length),(19,.int .i64 (k+1:Nat))] ah ⟨k+1,rfl,av,rfl,aa.ag,rfl,by rw[np,wM,if_neg ka]⟩ ⟨rfl,rfl,rfl,rfl,trivial⟩;have bV:k=c.length:=by simp at c4;omega
 subst bV;rw[List.drop_length]at np;refine bA ?_;refine bn ?_;exact⟨by rw[cH,np];rfl,rfl⟩
def numOf:List Int→Int→Nat
  | [],_=>0
  |x::r,v=>if x=v then 0 else numOf r v+1
def fo(aN:List Int)(v:Int):List Int:=if v∈aN then aN else aN++ [v]
theorem XJ:∀(aN:List Int) (v:Int),numOf aN v≤aN.length
  | [],_=>Nat.le_refl _
  |x::r,v=>by simp only[numOf];split;omega;have:=XJ r v;simp only[List.length_cons];omega
theorem O8:∀{aN:List Int} {v:Int},v∈aN→numOf aN v<aN.length
  |x::r,v,h=>by simp only[numOf];by_cases e:x=v;rw[if_pos e];simp;rw[if_neg e];have:=O8 (List.mem_of_ne_of_mem (fun q=>e q.symm) h);simp only[List.length_cons];omega
theorem Ki:∀{aN:List Int} {v:Int} (ms:List Int),v∈aN→numOf (aN++ms) v=numOf aN v
  |x::r,v,ms,h=>by simp only[numOf,List.cons_append];by_cases e:x=v;rw[if_pos e,if_pos e];rw[if_neg e,if_neg e,Ki ms (List.mem_of_ne_of_mem (fun q=>e q.symm) h)]
theorem Gm:∀{aN:List Int} {v:Int},v∉aN→numOf (aN++ [v]) v=aN.length
  | [],v,_=>by simp[numOf]
  |x::r,v,h=>by simp only[numOf,List.cons_append];rw[if_neg (fun e=>h (by simp[e])),Gm (fun q=>h (List.mem_cons_of_mem _ q))];rfl
theorem O9(aN:List Int)(v:Int):v∈fo aN v:=by unfold fo;split;assumption;simp
theorem amB(aN:List Int)(v:Int):∃ms,fo aN v=aN++ms:=by unfold fo;split;exact⟨[],by simp⟩;exact⟨_,rfl⟩
theorem O_(aN:List Int)(v:Int):(fo aN v).length≤aN.length+1:=by unfold fo;split<;>simp
mutual
def fA:List Int→T→T×List Int
  |aN,.mk h ts=>if h<0 then(.mk (-1-(numOf (fo aN (-1-h)) (-1-h):Nat)) [],fo aN (-1-h))else(.mk h (dL aN ts).1,(dL aN ts).2)
def dL:List Int→List T→List T×List Int
  |aN,[]=>([],aN)
  |aN,t::r=>((fA aN t).1::(dL (fA aN t).2 r).1,(dL (fA aN t).2 r).2)
end
theorem XK:∀(a b:List T) (aN:List Int),dL aN (a++b)=((dL aN a).1++(dL (dL aN a).2 b).1,(dL (dL aN a).2 b).2)
  | [],b,aN=>by simp[dL]
  |t::r,b,aN=>by simp only[List.cons_append,dL,XK r b]
theorem amC(aN:List Int)(t:T):dL aN [t]=([(fA aN t).1],(fA aN t).2):=by simp[dL]
theorem XL(aN:List Int)(ts:List T)(k:Nat)(h:k<ts.length):dL aN (ts.take (k+1))=((dL aN (ts.take k)).1++ [(fA (dL aN (ts.take k)).2 ts[k]).1],(fA (dL aN (ts.take k)).2 ts[k]).2):=by
 rw[List.take_succ_eq_append_getElem h,XK,amC]
theorem wN:∀(aN:List Int) (ts:List T),(dL aN ts).1.length=ts.length
  |_,[]=>by simp[dL]
  |aN,t::r=>by simp[dL,wN _ r]
mutual
theorem amD:∀(t:T) (aN:List Int),(fA aN t).2.length≤aN.length+t.size
  |.mk h ts,aN=>by simp only[fA,T.size];split;have:=O_ aN (-1-h);simp only;omega;have:=Kj ts aN;simp only;omega
theorem Kj:∀(ts:List T) (aN:List Int),(dL aN ts).2.length≤aN.length+bG ts
  | [],aN=>by simp[dL,bG]
  |t::r,aN=>by have ab:=amD t aN;have ae:=Kj r (fA aN t).2;simp only[dL,bG];omega
end
def tP(mp:bU)(aN:List Int):Prop:=mp.length=aN.length∧∀v,dG mp v=if v∈aN then some (.int .i64 (numOf aN v:Nat))else none
theorem tP.nil:tP [] []:=⟨rfl,fun v=>by simp[dG]⟩
theorem tP.add{mp:bU}{aN:List Int}{v:Int}(h:tP mp aN)(ax:v∉aN):tP (gi mp v (.int .i64 aN.length)) (fo aN v):=by
 have aD:dG mp v=none:=by rw[h.2,if_neg ax]
 have e:fo aN v=aN++ [v]:=by unfold fo;rw[if_neg ax]
 refine⟨?_,fun u=> ?_⟩;have:=congrArg List.length (Nm mp v (.int .i64 aN.length));rw[if_pos aD]at this;simp only[List.length_map,List.length_append,List.length_cons,List.length_nil]at this;rw[this,e,h.1];simp;rw[vZ,e];by_cases q:v=u;subst q;rw[if_pos rfl,if_pos (by simp),Gm ax];rw[if_neg q,h.2];by_cases m:u∈aN;rw[if_pos m,if_pos (by simp[m]),Ki _ m];rw[if_neg m,if_neg (by simp[m];exact fun e=>q e.symm)]
abbrev Dq(ga m:Nat)(mp:bU):List ay:= [.box ga 102 [.map (some m)],.map m mp]
theorem amE{I:aa}{ga m:Nat}{mp:bU}{aN:List Int}{v:Int}(hm:tP mp aN)(al:aN.length≤1000000):
 aS Tryz.prog 74 [.int .i64 v,.pointer (some ⟨ga,0,none⟩)] I (Dq ga m mp) (fun r ai δ'=>r=.int .i64 (numOf (fo aN v) v:Nat)∧∃lf,tP lf (fo aN v)∧δ'=Dq ga m lf):=by
 refine a1 func74 ntmps74 fun aG=> ?_;refine br ?_;by_cases ax:v∈aN;have aM:=hm.2 v;rw[if_pos ax]at aM;have he:fo aN v=aN:=by unfold fo;rw[if_pos ax]
 refine aI (jr (v:=.int .i64 (numOf aN v:Nat)) (g:=true) underlying102 underlying3 z3 rfl rfl (Has.there Has.here) (by rw[aM];rfl) (by rw[aM];rfl)) ?_;refine xq ?_;refine dY ?_;exact⟨by rw[he];rfl,mp,by rw[he];exact hm,rfl⟩;have aM:=hm.2 v;rw[if_neg ax]at aM;have he:fo aN v=aN++ [v]:=by unfold fo;rw[if_neg ax]
 refine aI (jr (v:=.int .i64 0) (g:=false) underlying102 underlying3 z3 rfl rfl (Has.there Has.here) (by rw[aM];rfl) (by rw[aM];rfl)) ?_;refine iR ?_;refine aI (af6 underlying102 rfl (Has.there Has.here)) ?_;rw[hm.1];refine aP ?_;refine sg underlying102 underlying3 rfl rfl rfl rfl (by repeat (first|exact bc.here|apply bc.there)) ?_;refine br ?_;refine dY ?_;exact⟨by rw[he,Gm ax];rfl,_,hm.add ax,rfl⟩
theorem amF{ga m:Nat}:∀(n:Nat) (t:T),t.size≤n→∀(I:aa) (v:Value) (aN:List Int) (mp:bU),ba I v t→tP mp aN→aN.length+t.size≤1000000→
 aS Tryz.prog 75 [.agg #[.func (.func 74) #[] #[.pointer (some ⟨ga,0,none⟩)]],v] I (Dq ga m mp) (fun r ai δ'=>ba ai r (fA aN t).1∧∃lf,tP lf (fA aN t).2∧δ'=Dq ga m lf):=by
 intro n
 induction n with
 |zero=>intro t ar;have:=t.size_pos;omega
 |succ n aY=>
  intro t ar I v aN mp ax XM ha;obtain⟨h,ts⟩:=t;obtain⟨ad,c,bj,rfl,an,aq,al,aW,bT⟩:=ax.elim;have bD:(T.mk h ts).size=1+bG ts:=by simp[T.size]
  have ib:=an;unfold dZ at ib;refine a1 func75 ntmps75 fun aG=> ?_;refine go2 ?_;refine bw fun b2=> ?_;refine bw fun b3=> ?_;refine bh fun b4=> ?_;refine aP ?_;by_cases kF:h<0;have pg:=XJ (fo aN (-1-h)) (-1-h);have amG:=O_ aN (-1-h);have A2:fA aN (.mk h ts)=(.mk (-1-(numOf (fo aN (-1-h)) (-1-h):Nat)) [],fo aN (-1-h)):=by simp only[fA];rw[if_pos kF]
  refine b_ ?_;refine aI (gG rfl rfl rfl ah) ?_;refine e8 rfl rfl rfl ((cR.fq (args:= [_]) (caps:= [_]) ai3 (amE (v:= -1-h) XM ah))) (List.perm_append_comm (l₁:= [_,_,_])) ?_;rintro mO jK _ jf ⟨rfl,amH,amI,rfl⟩;refine aK.view (View.perm (List.perm_append_comm (l₂:= [_,_,_]))) ?_;refine aI (gG (c:= -1-((numOf (fo aN (-1-h)) (-1-h):Nat):Int)) rfl rfl rfl ah) ?_;refine aZ ?_;refine dv (rs:= [.cell 4 41]) rfl (List.Perm.refl _) (.cons (.cell rfl fc cW rfl) .nil) (List.Sublist.cons _ (List.Sublist.cons _ (List.Sublist.cons _ (List.Sublist.refl _)))) ?_;exact⟨by rw[A2];exact ba.mk _ (.mk _ []) (by show dZ (-1-((numOf (fo aN (-1-h)) (-1-h):Nat):Int));unfold dZ;omega) (ed.nil _),amH,by rw[A2];exact amI,rfl⟩;have A2:fA aN (.mk h ts)=(.mk h (dL aN ts).1,(dL aN ts).2):=by simp only[fA];rw[if_neg kF]
  refine bA ?_;refine bh fun b5=> ?_;refine cT ?_;refine bJ.view (View.gh 41 2) ?_;refine ek (fun Gn aL ai δ'=>∃(k:Nat) (cX:Option Addr) (dH:Nat) (xs:List Value) (e4:bU),Gn=ts.length-k∧k≤ts.length∧aL= [(2,.pointer (some ⟨b2,0,none⟩)),(4,.pointer (some ⟨b4,0,none⟩)),(5,.pointer (some ⟨b5,0,none⟩)),(23,.slice ad ts.length c),(24,.int .i64 ts.length),(25,.int .i64 k)]∧I.le ai∧δ'=.row (.slice cX k dH) 41 2 k xs:: .box b5 41 [.int .i64 h,.slice cX k dH]:: .box b4 41 [.int .i64 0,.slice none 0 0]:: .box b3 41 [.int .i64 h,.slice ad ts.length c]:: .box b2 137 [.func (.func 74) #[] #[.pointer (some ⟨ga,0,none⟩)]]::Dq ga m e4∧cF ai xs (dL aN (ts.take k)).1∧tP e4 (dL aN (ts.take k)).2) ts.length [(2,.pointer (some ⟨b2,0,none⟩)),(4,.pointer (some ⟨b4,0,none⟩)),(5,.pointer (some ⟨b5,0,none⟩)),(23,.slice ad ts.length c),(24,.int .i64 ts.length),(25,.int .i64 (0:Nat))] ⟨0,none,0,[],mp,rfl,Nat.zero_le _,rfl,aa.le_refl _,rfl,cF.nil _,XM⟩ ⟨rfl,rfl,rfl,rfl,rfl,rfl,trivial⟩ ?_;rintro Gn _ en _ ⟨k,cX,dH,xs,e4,rfl,hk,rfl,lJ,rfl,az,rB⟩;have Kk:=Kj (ts.take k) aN;refine aZ ?_;refine bF rfl (fun bq=> ?_) (fun bq=> ?_);have av:k<ts.length:=by simpa using bq
  have db:=(aW k av).isSome;have si:=pt ts k av;have ch:=Ji ts k av;have ig:bG (ts.take (k+1))+bG (ts.drop (k+1))=bG ts:=by rw[←ot,List.take_append_drop]
  have Gp:=XL aN ts k av;refine aP ?_;refine aI (cC ((aW k av).mono lJ)) ?_;refine bh fun dp=> ?_;refine aR ?_;refine eU [0,2,4,6,9,11,13,14,17] (fun _=> [.box dp 41 [.int .i64 ts[k].head,.slice (bj k).1 ts[k].args.length (bj k).2],.box b5 41 [.int .i64 h,.slice cX k dH],.box b2 137 [.func (.func 74) #[] #[.pointer (some ⟨ga,0,none⟩)]]]) (fun _=>(List.Sublist.cons_cons _ (List.Sublist.cons _ (List.Sublist.cons_cons _ (List.Sublist.cons _ (List.Sublist.cons _ (List.Sublist.cons_cons _ (List.nil_sublist _)))))))) ?_;refine a_ ?_;refine eo rfl (aY ts[k] ah _ _ _ _ ((bT k av).mono lJ) rB ah) (List.perm_append_comm (l₁:= [_,_,_,_,_,_])) ?_;rintro XN A9 _ wy ⟨XO,amJ,amK,rfl⟩;obtain⟨amL,amM,rfl,_⟩:=XO.shape;refine aK.view (View.perm (List.perm_append_comm (l₂:= [_,_,_,_,_,_]))) ?_;refine aR ?_;refine c_ fun Ob=> ?_;refine aR ?_;refine gl fun a35 FF=> ?_;refine aZ ?_;refine fU ?_;refine aP ?_;refine bf.view ((View.drop aO.here).trans (View.drop aO.here)) ?_;refine cV (ts.length-(k+1)) [(2,.pointer (some ⟨b2,0,none⟩)),(4,.pointer (some ⟨b4,0,none⟩)),(5,.pointer (some ⟨b5,0,none⟩)),(23,.slice ad ts.length c),(24,.int .i64 ts.length),(25,.int .i64 ((k+1:Nat):Int))] ah ⟨k+1,a35,FF,xs++ [.int .i64 (fA (dL aN (ts.take k)).2 ts[k]).1.head,.slice amL (fA (dL aN (ts.take k)).2 ts[k]).1.args.length amM],amJ,rfl,av,rfl,aa.ag,rfl,?_,by rw[Gp];exact amK⟩ ⟨rfl,rfl,rfl,rfl,rfl,rfl,trivial⟩;rw[Gp];exact(az.mono wy).app (cF.one XO);have bV:k=ts.length:=by simp at bq;omega
  subst bV;rw[List.take_length]at az rB;refine aP ?_;refine aK.dO aO.here ?_;rintro oK WA WB nq mc eV iT ep;cases mc;refine a_ ?_;refine dv (rs:= [.cell 4 41]) rfl (List.Perm.refl _) (.cons (.cell rfl fc cW rfl) .nil) (List.Sublist.cons _ (List.Sublist.cons _ (List.Sublist.cons _ (List.Sublist.cons _ (List.Sublist.refl _))))) ?_;exact⟨by rw[A2];have aA:=wN aN ts;have:=cF.rep (h:=h) ep (az.mono nq) an (by rw[aA];exact eV) (by rw[aA];exact al);rw[aA]at this;exact this,e4,by rw[A2];exact rB,rfl⟩
def c5(t:T):Bool:=decide (c2 t≠0)
theorem Pa{I:aa}{v:Value}{ts:List T}(ax:ed I v ts)(g_:∀t∈ts,t.size≤1000000000):
 aS Tryz.prog 73 [v] I [] (fun v ai δ'=>v=.bool (ts.any c5)∧δ'= []):=by
 have ab:∀J u t,I.le J→ba J u t→t∈ts→cR Tryz.prog (.func (.func 111) #[] #[]) [u] J [] (fun v _ δ'=>v=.bool (c5 t)∧δ'= []):=fun J u t cj hu ar=>by obtain⟨c3,cK,rfl,_⟩:=hu.shape;refine aS.tc (args:= [_]) (by kernel_rfl) ?_;refine a1 func111 ntmps111 fun aG=> ?_;refine go2 ?_;refine bw fun e2=> ?_;refine aZ ?_;refine bN rfl (wu hu (g_ t ar)) ?_;rintro v4 Kl _ Km ⟨rfl,rfl⟩;refine aI (kV (z:=c5 t) rfl rfl rfl) ?_;refine a8 ?_;refine bn ?_;exact⟨rfl,rfl⟩
 refine a1 func73 ntmps73 fun aG=> ?_;refine bg ?_;refine bN rfl (Dk ax ab) ?_;rintro v4 Kl _ Km ⟨rfl,rfl⟩;refine a8 ?_;refine bn ?_;exact⟨rfl,rfl⟩
theorem XP{I:aa}{v:Value}{ts:List T}(ax:ed I v ts)(g_:bG ts≤100000):
 aS Tryz.prog 44 [v] I [] (fun v ai δ'=>((ts.any c5=true∧v=.tuple #[.slice none 0 0,.int .i64 1]∧δ'= [])∨(ts.any c5=false∧∃a c xs,v=.tuple #[.slice a ts.length c,.int .i64 0]∧cF ai xs (dL [] ts).1∧δ'= [oG a c ts.length xs]))):=by
 have bD:=Ge g_;have qb:=ax;obtain⟨ad,c,bj,ts,aq,al,aW,an,qG⟩:=ax;have bT:∀i (h:i<ts.length),ba I (.agg #[.int .i64 ts[i].head,.slice (bj i).1 ts[i].args.length (bj i).2]) ts[i]:=fun i aj=>ba.mk _ _ (an i aj) (qG i aj);refine a1 func44 ntmps44 fun aG=> ?_;refine b_ ?_;refine bN rfl (Pa qb (fun t ar=>by have:=bD t ar;omega)) ?_;rintro v10 j4 _ kB ⟨rfl,rfl⟩;refine go2 ?_;refine bF rfl (fun aV=> ?_) (fun aV=> ?_);refine bg ?_;refine bn ?_;exact .inl ⟨aV,rfl,rfl⟩;refine a8 ?_;refine tm rfl (fun cG=> ?_);refine bh fun b4=> ?_;refine aP ?_;refine bh fun b5=> ?_;refine fx ?_;refine bJ.view (View.gh 41 2) ?_;refine ek (fun Gn aL ai δ'=>∃(k:Nat) (cX:Option Addr) (dH:Nat) (xs:List Value) (e4:bU),Gn=ts.length-k∧k≤ts.length∧aL= [(5,.pointer (some ⟨b5,0,none⟩)),(6,.slice cX k dH),(14,.slice ad ts.length c),(15,.int .i64 ts.length),(16,.int .i64 k)]∧j4.le ai∧δ'=.row (.slice cX k dH) 41 2 k xs:: .box b5 137 [.func (.func 74) #[] #[.pointer (some ⟨b4,0,none⟩)]]::Dq b4 cG e4∧cF ai xs (dL [] (ts.take k)).1∧tP e4 (dL [] (ts.take k)).2) ts.length [(5,.pointer (some ⟨b5,0,none⟩)),(6,.slice none 0 0),(14,.slice ad ts.length c),(15,.int .i64 ts.length),(16,.int .i64 (0:Nat))] ⟨0,none,0,[],[],rfl,Nat.zero_le _,rfl,aa.le_refl _,rfl,cF.nil _,tP.nil⟩ ⟨rfl,rfl,rfl,rfl,rfl,trivial⟩ ?_;rintro Gn _ en _ ⟨k,cX,dH,xs,e4,rfl,hk,rfl,lJ,rfl,az,rB⟩;have Kk:=Kj (ts.take k) [];refine aZ ?_;refine bF rfl (fun bq=> ?_) (fun bq=> ?_);have av:k<ts.length:=by simpa using bq
 have db:=(aW k av).isSome;have si:=pt ts k av;have ch:=Ji ts k av;have ig:bG (ts.take (k+1))+bG (ts.drop (k+1))=bG ts:=by rw[←ot,List.take_append_drop]
 have Gp:=XL [] ts k av;rw[List.length_nil]at Kk;refine aP ?_;refine aI (cC ((aW k av).mono aa.ag)) ?_;refine bh fun b8=> ?_;refine aP ?_;refine eo rfl (amF _ _ (Nat.le_refl _) _ _ _ _ ((bT k av).mono aa.ag) rB ah) (List.perm_append_comm (l₁:= [_,_,_])) ?_;rintro v23 pJ _ pK ⟨XQ,amN,amO,rfl⟩;obtain⟨amP,amQ,rfl,_⟩:=XQ.shape;refine aK.view (View.perm (List.perm_append_comm (l₂:= [_,_,_]))) ?_;refine c_ fun wq=> ?_;refine gl fun a25 Db=> ?_;refine bg ?_;refine bf.view ((View.drop aO.here).trans (View.drop aO.here)) ?_;refine cV (ts.length-(k+1)) [(5,.pointer (some ⟨b5,0,none⟩)),(6,.slice a25 (k+1) Db),(14,.slice ad ts.length c),(15,.int .i64 ts.length),(16,.int .i64 ((k+1:Nat):Int))] ah ⟨k+1,a25,Db,xs++ [.int .i64 (fA (dL [] (ts.take k)).2 ts[k]).1.head,.slice amP (fA (dL [] (ts.take k)).2 ts[k]).1.args.length amQ],amN,rfl,av,rfl,aa.ag,rfl,?_,by rw[Gp];exact amO⟩ ⟨rfl,rfl,rfl,rfl,rfl,trivial⟩;rw[Gp];exact(az.mono pK).app (cF.one XQ);have bV:k=ts.length:=by simp at bq;omega
 subst bV;rw[List.take_length]at az rB;refine cT ?_;refine dv (rs:= [.tmp 2,.tmp 3]) rfl (List.Perm.refl _) (.cons (.tmp rfl) (.cons (.tmp rfl) .nil)) (List.Sublist.cons_cons _ (List.nil_sublist _)) ?_;exact .inr ⟨aV,_,_,_,rfl,az,rfl⟩
def iE:List ak→List T→List ak
  |x::r,a::b::s=>⟨x.neg,a,b⟩::iE r s
  |_,_=> []
theorem Kn:∀(c:List ak) (bj:List T),bj.length=2*c.length→(iE c bj).length=c.length
  | [],bj,h=>by cases bj<;>rfl
  |x::r,[],h=>by simp at h
  |x::r,[a],h=>by simp at h;omega
  |x::r,a::b::s,h=>by simp only[iE,List.length_cons];rw[Kn r s (by simp at h;omega)]
theorem XR:∀(c:List ak) (bj:List T) (k:Nat) (hk:k<c.length) (h:bj.length=2*c.length),iE (c.take (k+1)) bj=iE (c.take k) bj++ [⟨c[k].neg,bj[2*k],bj[2*k+1]⟩]
  |x::r,a::b::s,0,hk,h=>by show iE (x::r.take 0) (a::b::s)=iE [] (a::b::s)++_;simp[iE]
  |x::r,a::b::s,k+1,hk,h=>by have aY:=XR r s k (by simpa using hk) (by simp at h;omega);show iE (x::r.take (k+1)) (a::b::s)=iE (x::r.take k) (a::b::s)++_;simp only[iE,aY,List.cons_append];congr 1
  | [],_,k,hk,h=>by simp at hk
  |x::r,[],k,hk,h=>by simp at h
  |x::r,[a],k,hk,h=>by simp at h;omega
theorem XS{I:aa}{v vs:Value}{c:List ak}{ts:List T}(ax:cf I v c)(ao:ed I vs ts)(fw:ts.length=2*c.length):
 aS Tryz.prog 46 [v,vs] I [] (fun jb ai δ'=>cf ai jb (iE c ts)∧δ'= []):=by
 obtain⟨ad,bu,xs,rfl,aq,al,ep,bm⟩:=ax;obtain⟨ve,gj,bj,ts,c4,ia,Bi,qm,qG⟩:=ao;have bT:∀i (h:i<ts.length),ba I (.agg #[.int .i64 ts[i].head,.slice (bj i).1 ts[i].args.length (bj i).2]) ts[i]:=fun i aj=>ba.mk _ _ (qm i aj) (qG i aj);refine a1 func46 ntmps46 fun aG=> ?_;refine ic ?_;refine bJ.view (View.gh 68 5) ?_;refine ek (fun m aL ai δ'=>∃(k:Nat) (A:Option Addr) (cJ:Nat) (ys:List Value),m=c.length-k∧k≤c.length∧aL= [(1,.slice ve ts.length gj),(5,.slice A k cJ),(8,.slice ad c.length bu),(9,.int .i64 c.length),(10,.int .i64 k)]∧I=ai∧δ'= [pM A cJ k ys]∧bd fG I ys (iE (c.take k) ts)) c.length [(1,.slice ve ts.length gj),(5,.slice none 0 0),(8,.slice ad c.length bu),(9,.int .i64 c.length),(10,.int .i64 (0:Nat))] ⟨0,none,0,[],rfl,Nat.zero_le _,rfl,rfl,rfl,rfl⟩ ⟨rfl,rfl,rfl,rfl,rfl,trivial⟩ ?_;rintro m _ _ _ ⟨k,A,cJ,ys,rfl,hk,rfl,rfl,rfl,dX⟩;refine aZ ?_;refine bF rfl (fun aV=> ?_) (fun aV=> ?_);have av:k<c.length:=by simpa using aV
 obtain⟨vs,⟨la,lc,ra,rc,rfl,aA,an⟩,aW⟩:=bm.fj ep av;have db:=aW.isSome;have XT:=Bi (2*k) ah;have amR:=Bi (2*k+1) ah;have gr:=XT.isSome;refine bg ?_;refine aI (cC (aW)) ?_;refine bh fun dp=> ?_;refine a8 ?_;refine eU [0,2,4,6,8,10,12,14,16,18,20,22,24,26,28,31,33,35] (fun _=> [.box dp 68 (hv c[k] la lc ra rc)]) (fun _=>(List.Sublist.cons_cons _ (List.nil_sublist _))) ?_;refine a_ ?_;refine dg rfl (yC (c:=((2*k:Nat):Int)) rfl rfl ah ah) ?_;refine aX ?_;refine dg rfl (cC (XT)) ?_;refine go2 ?_;refine dg rfl (yC (c:=((2*k:Nat):Int)) rfl rfl ah ah) ?_;refine dg rfl (tg (c:=((2*k+1:Nat):Int)) rfl rfl ah ah) ?_;refine aX ?_;refine dg rfl (cC (amR)) ?_;refine go2 ?_;refine c_ fun ayt=> ?_;refine aR ?_;refine gl fun XU XV=> ?_;refine a_ ?_;refine dB ?_;refine aP ?_;refine bf.view (View.drop aO.here) ?_;refine bf.view (View.drop aO.here) ?_;refine cV (c.length-(k+1)) [(1,.slice ve ts.length gj),(5,.slice XU (k+1) XV),(8,.slice ad c.length bu),(9,.int .i64 c.length),(10,.int .i64 (k+1:Nat))] ah ⟨k+1,XU,XV,ys++ [.bool c[k].neg,.int .i64 ts[2*k].head,.slice (bj (2*k)).1 ts[2*k].args.length (bj (2*k)).2,.int .i64 ts[2*k+1].head,.slice (bj (2*k+1)).1 ts[2*k+1].args.length (bj (2*k+1)).2],rfl,av,rfl,rfl,?_,?_⟩ ⟨rfl,rfl,rfl,rfl,rfl,trivial⟩;simp[cat,c9];rw[XR c ts k av fw];exact dX.app (bd.single ⟨_,_,_,_,rfl,bT _ _,bT _ _⟩);have bV:k=c.length:=by simp at aV;omega
 subst bV;rw[List.take_length]at dX;refine aP ?_;refine aK.dO aO.here ?_;rintro A9 J_ Ga wy aC XW amS Gb;cases aC;refine a_ ?_;refine bn ?_;refine⟨?_,rfl⟩;have ae:=Kn c ts fw;have:cf A9 (.slice A (iE c ts).length cJ) (iE c ts):=⟨A,cJ,ys,rfl,by omega,by omega,Gb,dX.mono wy⟩
 rw[ae]at this;exact this
def eh(c:List ak):List ak:=iE c (dL [] (bE c)).1
theorem Gq{I:aa}{v:Value}{c:List ak}(ax:cf I v c)(g_:bG (bE c)≤100000):
 aS Tryz.prog 30 [v] I [] (fun v ai δ'=>(((bE c).any c5=true∧v=.tuple #[.slice none 0 0,.int .i64 1])∨((bE c).any c5=false∧∃a k,v=.tuple #[.slice a c.length k,.int .i64 0]∧cf ai (.slice a c.length k) (eh c)))∧δ'= []):=by
 have ae:=wL c;refine a1 func30 ntmps30 fun aG=> ?_;refine br ?_;refine bN rfl (Gf ax) ?_;rintro so jt _ jJ ⟨amT,rfl⟩;refine bN rfl (XP amT g_) ?_;rintro v9 tB ayu lF amU;refine aX ?_;rcases amU with⟨wO,rfl,rfl⟩|⟨xO,a9,amV,ayv,rfl,amW,rfl⟩
 refine xp ?_;refine bn ?_;exact⟨.inl ⟨wO,rfl⟩,rfl⟩;refine aK.dO aO.here ?_;rintro j4 Gr Gs kB aC Pb XX Gt;cases aC;have ht:(dL [] (bE c)).1.length=(bE c).length:=wN _ _;have amX:ed j4 (.slice a9 (bE c).length amV) (dL [] (bE c)).1:=cF.tC ht.symm Gt (amW.mono kB) Pb (by rw[ae];have:=ax.small;omega);refine rk ?_;refine bN rfl (XS (ax.mono aa.ag) amX (by rw[wN];exact ae)) ?_;rintro u0 ox _ nc ⟨XY,rfl⟩;have amY:(eh c).length=c.length:=Kn c _ (by rw[wN];exact ae);obtain⟨amZ,am0,bM⟩:=dK.shape XY;rw[show(iE c (dL [] (bE c)).1).length=c.length from amY]at bM;subst bM;refine a_ ?_;refine bn ?_;exact⟨.inr ⟨xO,amZ,am0,rfl,XY⟩,rfl⟩
def fM(acc l:List Int):List Int:=l.foldl fo acc
theorem XZ(acc a b:List Int):fM acc (a++b)=fM (fM acc a) b:=by simp[fM]
theorem X0(acc l:List Int):(fM acc l).length≤acc.length+l.length:=by
 induction l generalizing acc with
 |nil=>simp[fM]
 |cons x r aY=>
   have ab:=O_ acc x
   have ae:=aY (fo acc x)
   show(fM (fo acc x) r).length≤_
   simp only[List.length_cons];omega
theorem Ko(acc l:List Int)(v:Int):v∈fM acc l↔v∈acc∨v∈l:=by
 induction l generalizing acc with
 |nil=>simp[fM]
 |cons x r aY=>
   have ab:v∈fo acc x↔v∈acc∨v=x:=by unfold fo;split;constructor;exact .inl;rintro(h|rfl);exact h;assumption;simp
   show v∈fM (fo acc x) r↔_
   rw[aY,ab,List.mem_cons,or_assoc]
def ih(acc:List Int)(ts:List T):List Int:=ts.foldl (fun a t=>fM a (eB (dd 1 t))) acc
def gX(c:List ak):List Int:=ih [] (bE c)
def tQ(gs:List aE)(x y:ak):Int:=if ee gs x≠0 then ee gs x else ee gs y
theorem Gu{x:ak}{t:T}(h:t∈gM x):t=x.l∨t=x.r:=by
 unfold gM at h;split at h<;>simp at h<;>exact h
theorem X1(x:ak):(gM x).length≤4:=by unfold gM;split<;>simp
theorem X2{I:aa}{vg bz cN:Value}{gs:List aE}{x y:ak}(aM:cP I vg gs)(bk:mm I bz x)(al:mm I cN y)(ab:x.l.size≤1000000000)(ae:x.r.size≤1000000000)(aF:y.l.size≤1000000000)(bb:y.r.size≤1000000000):
 aS Tryz.prog 232 [vg,bz,cN] I [] (fun v _ δ'=>v=.tuple #[.int .i64 (if tQ gs x y=0 then lM gs (gM x) (gM y)else 0),.int .i64 (tQ gs x y)]∧δ'= []):=by
 have sD:=bk;have qB:=al;obtain⟨la,lc,ra,rc,rfl,aA,an⟩:=bk;obtain⟨iZ,jv,hV,hW,rfl,zn,vc⟩:=al;have m6:=X1 x;have Gv:=X1 y;refine a1 func232 ntmps232 fun aG=> ?_;refine go2 ?_;refine bw fun b4=> ?_;refine bw fun b5=> ?_;refine br ?_;refine bN rfl (O7 (aM.mono aa.ag) (sD.mono aa.ag) ab ae) ?_;rintro _ nN _ mf ⟨rfl,rfl⟩;refine aZ ?_;by_cases aQ:ee gs x≠0;refine cT ?_;refine bn ?_;have e:tQ gs x y=ee gs x:=by unfold tQ;rw[if_pos aQ]
 exact⟨by rw[e,if_neg aQ];rfl,rfl⟩;refine bA ?_;refine bN rfl (O7 (aM.mono aa.ag) (qB.mono aa.ag) aF bb) ?_;rintro _ oy _ qw ⟨rfl,rfl⟩;refine aZ ?_;by_cases aT:ee gs y≠0;refine cT ?_;refine bn ?_;have e:tQ gs x y=ee gs y:=by unfold tQ;rw[if_neg aQ]
 exact⟨by rw[e,if_neg aT];rfl,rfl⟩;have e:tQ gs x y=0:=by unfold tQ;rw[if_neg aQ];omega
 obtain⟨ij,gx⟩:=ld (show ee gs x=0 by omega);obtain⟨zr,ayw⟩:=ld (show ee gs y=0 by omega)
 have hw:lb gs (gM x++gM y)=0:=Bg.2 fun t ar=>by
  rcases List.mem_append.1 ar with h|h
  rcases Gu h with rfl|rfl<;>assumption
  rcases Gu h with rfl|rfl<;>assumption
 have FI:∀t∈gM x,t.size≤1000000000:=fun t ar=>by rcases Gu ar with rfl|rfl<;>assumption
 have Pc:∀t∈gM y,t.size≤1000000000:=fun t ar=>by rcases Gu ar with rfl|rfl<;>assumption
 refine aP ?_;refine g5 [0,2,6,5,9,11,12,14,17,19] ?_;refine a8 ?_;refine bN rfl (Xw (sD.mono aa.ag)) ?_;rintro oE mQ _ lL ⟨am1,rfl⟩;refine aR ?_;refine bN rfl (Xw (qB.mono aa.ag)) ?_;rintro v26 rq _ me ⟨On,rfl⟩;refine aR ?_;refine bN rfl (al7 (aM.mono aa.ag) (am1.mono aa.ag) (On.mono aa.ag) FI Pc ah ah) ?_;rintro _ u3 _ wm ⟨rfl,rfl⟩;rw[if_pos hw,hw];refine aX ?_;refine dB ?_;refine a_ ?_;refine dB ?_;refine aR ?_;refine dB ?_;refine aR ?_;refine bn ?_;exact⟨by rw[e,if_pos rfl];rfl,rfl⟩
theorem am2(ts:List T)(k:Nat)(h:k<ts.length):ih [] (ts.take (k+1))=fM (ih [] (ts.take k)) (eB (dd 1 ts[k])):=by
 unfold ih;rw[List.take_succ_eq_append_getElem h,List.foldl_append];rfl
theorem am3(acc l:List Int)(j:Nat)(h:j<l.length):fM acc (l.take (j+1))=fo (fM acc (l.take j)) l[j]:=by
 rw[List.take_succ_eq_append_getElem h,XZ];rfl
theorem Pd:∀(ts:List T) (acc:List Int),(ih acc ts).length≤acc.length+bG ts
  | [],acc=>by simp[ih,bG]
  |t::r,acc=>by have ab:=X0 acc (eB (dd 1 t));have ae:=JB (dd 1 t);have aF:=Pd r (fM acc (eB (dd 1 t)));rw[xA]at ae;show(ih (fM acc (eB (dd 1 t))) r).length≤_;simp only[bG];omega
theorem am4{I:aa}{v:Value}{c:List ak}(ax:cf I v c)(g_:bG (bE c)≤100000):
 aS Tryz.prog 179 [v] I [] (fun v ai δ'=>bY ai v (gX c)∧δ'= []):=by
 obtain⟨ts,Bt⟩:∃ts,ts=bE c:=⟨_,rfl⟩
 have Pe:gX c=ih [] ts:=by rw[Bt];rfl
 rw[←Bt]at g_;have FH:=Pd ts [];rw[List.length_nil,Nat.zero_add]at FH;refine a1 func179 ntmps179 fun aG=> ?_;refine dn ?_;refine bN rfl (Gf ax) ?_;rintro v9 tB _ lF ⟨X3,rfl⟩;rw[←Bt]at X3;obtain⟨ve,gj,zs,rfl,aq,al,ep,bm⟩:=X3.zm;refine a_ ?_;refine bJ.view (View.gh 3 1) ?_;refine ek (fun m aL ai δ'=>∃(k:Nat) (A:Option Addr) (cJ:Nat),m=ts.length-k∧k≤ts.length∧aL= [(3,.slice A (ih [] (ts.take k)).length cJ),(9,.slice ve ts.length gj),(10,.int .i64 ts.length),(11,.int .i64 k)]∧tB.le ai∧δ'= [f_ A cJ (ih [] (ts.take k))]∧∀x∈ih [] (ts.take k),dZ x) ts.length [(3,.slice none 0 0),(9,.slice ve ts.length gj),(10,.int .i64 ts.length),(11,.int .i64 (0:Nat))] ⟨0,none,0,rfl,Nat.zero_le _,rfl,aa.le_refl _,rfl,fun x h=>by cases h⟩ ⟨rfl,rfl,rfl,rfl,trivial⟩ ?_;rintro m _ I0 _ ⟨k,A,cJ,rfl,hk,rfl,bO,rfl,gw⟩;have ez:=Pd (ts.take k) [];rw[List.length_nil,Nat.zero_add]at ez;refine aZ ?_;refine bF rfl (fun aV=> ?_) (fun aV=> ?_);have av:k<ts.length:=by simpa using aV
 obtain⟨vs,⟨a,n,rfl,an⟩,aW⟩:=bm.fj ep av;have db:=aW.isSome;have iF:=pt ts k av;have ch:=Ji ts k av;have ig:bG (ts.take (k+1))+bG (ts.drop (k+1))=bG ts:=by rw[←ot,List.take_append_drop]
 have X4:=am2 ts k av;have dr:=JB (dd 1 ts[k]);rw[xA]at dr;refine aP ?_;refine aI (cC (aW.mono bO)) ?_;refine bh fun b5=> ?_;refine aZ ?_;refine bN rfl (JC (an.mono bO) ah) ?_;rintro mO jK _ jf ⟨Pf,rfl⟩;have am5:=Pf.len;obtain⟨bz,bB,rfl⟩:=Pf.shape;refine a_ ?_;refine bJ.view (View.drop aO.here) ?_;refine ek (fun m aL ai δ'=>∃(j:Nat) (A:Option Addr) (cJ:Nat),m=(eB (dd 1 ts[k])).length-j∧j≤(eB (dd 1 ts[k])).length∧aL= [(3,.slice A (fM (ih [] (ts.take k)) ((eB (dd 1 ts[k])).take j)).length cJ),(9,.slice ve ts.length gj),(10,.int .i64 ts.length),(11,.int .i64 k),(16,.slice bz (eB (dd 1 ts[k])).length bB),(17,.int .i64 (eB (dd 1 ts[k])).length),(18,.int .i64 j)]∧jK.le ai∧δ'= [f_ A cJ (fM (ih [] (ts.take k)) ((eB (dd 1 ts[k])).take j))]∧∀x∈fM (ih [] (ts.take k)) ((eB (dd 1 ts[k])).take j),dZ x) (eB (dd 1 ts[k])).length [(3,.slice A (ih [] (ts.take k)).length cJ),(9,.slice ve ts.length gj),(10,.int .i64 ts.length),(11,.int .i64 k),(16,.slice bz (eB (dd 1 ts[k])).length bB),(17,.int .i64 (eB (dd 1 ts[k])).length),(18,.int .i64 (0:Nat))] ⟨0,A,cJ,rfl,Nat.zero_le _,rfl,aa.le_refl _,?_,gw⟩ ⟨rfl,rfl,rfl,rfl,rfl,rfl,rfl,trivial⟩ ?_;rfl;rintro m _ en _ ⟨j,A,cJ,rfl,au,rfl,lJ,rfl,y7⟩;have jq:=X0 (ih [] (ts.take k)) ((eB (dd 1 ts[k])).take j);rw[List.length_take]at jq;refine aZ ?_;refine bF rfl (fun bq=> ?_) (fun bq=> ?_);have iA:j<(eB (dd 1 ts[k])).length:=by simpa using bq
 have jw:=Pf.rp j iA;have gr:=jw.isSome;have zt:=am3 (ih [] (ts.take k)) (eB (dd 1 ts[k])) j iA;have am6:=am5.2 _ (List.getElem_mem iA);refine aP ?_;refine aI (cC (jw.mono lJ)) ?_;refine aP ?_;refine eo rfl (Oe ah) (df.one aO.here) ?_;rintro oE mQ _ lL ⟨rfl,rfl⟩;by_cases hm:(eB (dd 1 ts[k]))[j]∈fM (ih [] (ts.take k)) ((eB (dd 1 ts[k])).take j);rw[decide_eq_true hm];have Pg:fo (fM (ih [] (ts.take k)) ((eB (dd 1 ts[k])).take j)) (eB (dd 1 ts[k]))[j]=fM (ih [] (ts.take k)) ((eB (dd 1 ts[k])).take j):=if_pos hm;rw[Pg]at zt;refine bA ?_;refine cV ((eB (dd 1 ts[k])).length-(j+1)) [(3,.slice A (fM (ih [] (ts.take k)) ((eB (dd 1 ts[k])).take j)).length cJ),(9,.slice ve ts.length gj),(10,.int .i64 ts.length),(11,.int .i64 k),(16,.slice bz (eB (dd 1 ts[k])).length bB),(17,.int .i64 (eB (dd 1 ts[k])).length),(18,.int .i64 (j+1:Nat))] ah ⟨j+1,A,cJ,rfl,iA,by rw[zt],aa.ag,by rw[zt];rfl,by rw[zt];exact y7⟩ ⟨rfl,rfl,rfl,rfl,rfl,rfl,rfl,trivial⟩;rw[decide_eq_false hm];have Pg:fo (fM (ih [] (ts.take k)) ((eB (dd 1 ts[k])).take j)) (eB (dd 1 ts[k]))[j]=fM (ih [] (ts.take k)) ((eB (dd 1 ts[k])).take j)++ [(eB (dd 1 ts[k]))[j]]:=if_neg hm;rw[Pg]at zt;refine aP ?_;refine c_ fun qI=> ?_;refine gl fun a29 Dr=> ?_;refine bg ?_;refine bf.view (View.drop aO.here) ?_;refine cV ((eB (dd 1 ts[k])).length-(j+1)) [(3,.slice a29 ((fM (ih [] (ts.take k)) ((eB (dd 1 ts[k])).take j)).length+1) Dr),(9,.slice ve ts.length gj),(10,.int .i64 ts.length),(11,.int .i64 k),(16,.slice bz (eB (dd 1 ts[k])).length bB),(17,.int .i64 (eB (dd 1 ts[k])).length),(18,.int .i64 (j+1:Nat))] ah ⟨j+1,a29,Dr,rfl,iA,by rw[zt];simp,aa.ag,by rw[zt];simp[f_,cat,c9],by rw[zt];intro x af;rcases List.mem_append.1 af with h|h;exact y7 x h;simp at h;subst h;exact am6⟩ ⟨rfl,rfl,rfl,rfl,rfl,rfl,rfl,trivial⟩;have am7:j=(eB (dd 1 ts[k])).length:=by simp at bq;omega
 subst am7;rw[List.take_length,←X4]at y7;rw[List.take_length,←X4];refine b_ ?_;refine cV (ts.length-(k+1)) [(3,.slice A (ih [] (ts.take (k+1))).length cJ),(9,.slice ve ts.length gj),(10,.int .i64 ts.length),(11,.int .i64 (k+1:Nat))] ah ⟨k+1,A,cJ,rfl,av,rfl,aa.ag,rfl,y7⟩ ⟨rfl,rfl,rfl,rfl,trivial⟩;have bV:k=ts.length:=by simp at aV;omega
 subst bV;rw[List.take_length]at gw ez;rw[List.take_length];refine aP ?_;refine aK.dO aO.here ?_;rintro rr a32 Gj ss aC Kh XG Gk;cases aC;refine a_ ?_;refine bn ?_;exact⟨by rw[Pe];exact bY.of rfl Kh ah Gk gw,rfl⟩
end
theorem Ph(a b:Int):k3 b a= -k3 a b:=by unfold k3;split<;>split<;>(try split)<;>omega
mutual
theorem X5:∀(a b:T),l_ b a= -l_ a b
  |.mk h p,.mk g q=>by simp only[l_];by_cases ab:1+bG p=1+bG q;by_cases ae:h=g;by_cases aF:p.length=q.length;have:=X6 p q;simp[ab,ae,aF,this];have Jh:¬q.length=p.length:=fun e=>aF e.symm;have:=Ph (p.length:Int) q.length;simp[ab,ae,aF,Jh,this];have NS:¬g=h:=fun e=>ae e.symm;have:=Ph h g;simp[ab,ae,NS,this];have A0:¬1+bG q=1+bG p:=fun e=>ab e.symm;have:=Ph ((1+bG p:Nat):Int) ((1+bG q:Nat):Int);simp only[ab,A0,ne_eq,not_false_eq_true,if_true,this]
theorem X6:∀(a b:List T),nG b a= -nG a b
  | [],[]=>by simp[nG]
  | [],_::_=>by simp[nG]
  |_::_,[]=>by simp[nG]
  |a::p,b::q=>by
   have ab:=X5 a b;have ae:=X6 p q;simp only[nG,ab,ae];by_cases h:l_ a b=0;simp[h];have:-l_ a b≠0:=by omega
   simp[h,this]
end
theorem X7{a b c d:T}: [a,b].Perm [c,d]↔(a=c∧b=d)∨(a=d∧b=c):=by
 constructor;intro h;have hm:a∈[c,d]:=h.mem_iff.1 (by simp);simp at hm;rcases hm with rfl|rfl
 have:=h.cons_inv;simp at this;exact .inl ⟨rfl,this⟩;have:=(h.trans (List.Perm.swap _ _ _)).cons_inv;simp at this;exact .inr ⟨rfl,this⟩;rintro(⟨rfl,rfl⟩|⟨rfl,rfl⟩);exact List.Perm.refl _;exact List.Perm.swap _ _ _
theorem Kp(a b x:T): [a,a,b,b].count x=2* [a,b].count x:=by
 simp only[List.count_cons,List.count_nil];omega
theorem X8{x y:ak}:(gM x).Perm (gM y)↔jO x y=true:=by
 have heq:tM x y=true↔(x.l=y.l∧x.r=y.r)∨(x.l=y.r∧x.r=y.l):=by simp[tM]
 unfold jO;rw[Bool.and_eq_true,heq,beq_iff_eq];unfold gM;cases af:x.neg<;>cases aw:y.neg;simp only[Bool.false_eq_true,if_false,true_and];exact X7;simp only[Bool.false_eq_true,if_false,if_true,false_and,iff_false];intro h;have:=h.length_eq;simp at this;simp only[Bool.false_eq_true,if_false,if_true,reduceCtorEq,false_and,iff_false];intro h;have:=h.length_eq;simp at this;simp only[if_true,true_and];rw[←X7,List.perm_iff_count,List.perm_iff_count];constructor;intro h z;have:=h z;rw[Kp,Kp]at this;omega;intro h z;rw[Kp,Kp,h z]
end Go.Proofs.YtciibkomnoicdaaGreat
