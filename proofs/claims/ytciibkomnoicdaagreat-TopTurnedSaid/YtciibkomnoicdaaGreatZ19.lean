/- Own texts: a small program logic, plain facts, walks through the program's functions. No condition. -/
import Derived.WalkKit
import Derived.ProofKit
import Derived.OpenShut
import Derived.ShutString
import Derived.ChangeOld
import Derived.ChangeSlices
import Derived.Below
import Derived.Carry
import Derived.SizedLaws
import Derived.Test.YtciibkomnoicdaaGreatZ18
set_option maxRecDepth 10000
set_option maxHeartbeats 4000000
set_option linter.unusedVariables false
set_option linter.unusedSimpArgs false
set_option linter.unnecessarySimpa false
set_option linter.unusedSectionVars false
namespace Go.Proofs.YtciibkomnoicdaaGreat
open Go Lg Tryz
section
attribute [local irreducible] aK bf bJ
def Cx(gs:List aE)(ls:List (List ak))(dD:Int):Prop:=
  (dD=1→∀E,iG E→¬∀c∈ls,m0 gs E c)∧(dD=2→∃E,iG E∧∀c∈ls,m0 gs E c)∧(ls= [[]]→dD=1)∧(ls= []→dD=2)
theorem awZ{gs:List aE}{how:Int}{ls:List (List ak)}{z:fp}(h:yv gs how ls z)(aB:0≤z.empty):Cx gs ls 1:=by
 refine⟨fun _ E bt ar=> ?_,fun q=>absurd q (by decide),fun _=>rfl,fun q=>absurd (h.2.2.1 q).2.1 ah⟩;obtain⟨e,he,ab⟩:=h.1.em aB;have:=h.1.snd E bt ar e he;rw[ab]at this;obtain⟨x,af,_⟩:=this _ (adL gs);cases af
theorem aes{gs:List aE}{how:Int}{ls:List (List ak)}{z:fp}(h:yv gs how ls z)(aB:¬0≤z.empty)(a7:z.full=true∨z.ys≠[]):Cx gs ls 3:=
  ⟨fun q=>absurd q (by decide),fun q=>absurd q (by decide),fun q=>absurd (h.2.1 q) aB,fun q=>absurd a7 fun a7=>a7.elim (fun e=>Bool.noConfusion ((h.2.2.1 q).1.symm.trans e)) fun e=>e (h.2.2.1 q).2.2⟩
theorem aw0{gs:List aE}{how:Int}{ls:List (List ak)}{z:fp}(h:yv gs how ls z)(aB:¬0≤z.empty)(a7:z.full=false)(aw:z.ys= []):Cx gs ls 2:=by
 refine⟨fun q=>absurd q (by decide),fun _=> ?_,fun q=>absurd (h.2.1 q) aB,fun _=>rfl⟩;rcases h.2.2.2 with ab|⟨ab,ae,aF⟩
 rcases ab with ab|ab
 rw[a7]at ab;cases ab;exact absurd ab aB
 obtain⟨E,bt,cE⟩:=avB ab ae a7 fun j au q=>by
  rcases ab.g7 j au q with q|q
  rw[aw]at q;cases q;exact q
 exact⟨E,bt,fun c aq γ bl=>aF a7 c aq γ bl E bt fun C cD γ' kj _=>cD.elim (fun q=>cE C q γ' kj) False.elim⟩
theorem Il{I:aa}{vg v:Value}{gs:List aE}{ls:List (List ak)}{s:yl}(aM:cP I vg gs)(ax:dK jT I v ls)(iF:∀c∈ls,hK c)(rF:ls.length≤1000)(ez:gs.length≤100000):
 aS Tryz.prog 5 [vg,v,.agg #[.int .i64 s.kn,.int .i64 s.fwd,.int .i64 s.kM,.int .i64 s.wt,.int .i64 s.how,.int .i64 s.ln,.int .i64 s.rounds]] I [] (fun v ai δ'=>∃(dD e:Int) (dW:Option Addr) (sh fE:Nat) (fm:Option Addr) (og dT:Nat) (ct:Bool) (em:Int),v=.tuple #[.agg #[.int .i64 dD,.slice dW sh fE,.slice fm og dT,.bool ct,.int .i64 em],.int .i64 e]∧(e=0→Cx gs ls dD)∧
 (j_ gs=0→s.ok→(s.kn≠2→s.ln=0)→(∀c∈ls,gb gs c s.how=0)→e=0)∧δ'= []):=by
 obtain⟨la,lc,wP,rfl,sa,oH,uu,ta⟩:=ax;obtain⟨cQ,gc,rfl⟩:=aM.shape;refine a1 func5 ntmps5 fun aG=> ?_;refine go2 ?_;refine bw fun b5=> ?_;refine bh fun c1=> ?_;refine aP ?_;refine a6 rfl (JI aM) ?_;rintro v22 nm _ rH ⟨rfl,rfl⟩;by_cases vf:j_ gs≠0;refine bA ?_;refine aI (hq (v:=.agg #[.int .i64 0,.slice none 0 0,.slice none 0 0,.bool false,.int .i64 0]) rfl (fun _=>by kernel_rfl)) ?_;refine aZ ?_;exact hd (rs:= [.cell 6 30,.tmp 7]) rfl (.cons (.cell rfl yW cW rfl) (.cons (.tmp rfl) .nil)) (⟨0,1,_,_,_,_,_,_,_,_,rfl,fun h=>(by cases h),fun h=>absurd h vf,rfl⟩);refine aR ?_;refine cZ ?_;refine a6 rfl (auN (s:=s)) ?_;rintro v26 rq _ me ⟨⟨aw1,rfl,cn,SB⟩,rfl⟩;by_cases ka:aw1≠0;refine aP ?_;refine aI (hq (v:=.agg #[.int .i64 0,.slice none 0 0,.slice none 0 0,.bool false,.int .i64 0]) rfl (fun _=>by kernel_rfl)) ?_;refine aZ ?_;exact hd (rs:= [.cell 6 30,.tmp 7]) rfl (.cons (.cell rfl yW cW rfl) (.cons (.tmp rfl) .nil)) (⟨0,1,_,_,_,_,_,_,_,_,rfl,fun h=>(by cases h),fun _ ab ae=>absurd (SB ab ae) ka,rfl⟩);have Tm:=cn (Classical.not_not.1 ka);have aw2:=Classical.not_not.1 vf;refine fT ?_;refine fD (fun m aL ai δ'=>∃(i:Nat),m=ls.length-i∧aL= [(0,.slice cQ gs.length gc),(1,.slice la ls.length lc),(5,.pointer (some ⟨b5,0,none⟩)),(6,.pointer (some ⟨c1,0,none⟩)),(30,.slice la ls.length lc),(31,.int .i64 ls.length),(32,.int .i64 i)]∧rq.le ai∧δ'= [.box b5 25 [.int .i64 s.kn,.int .i64 s.fwd,.int .i64 s.kM,.int .i64 s.wt,.int .i64 s.how,.int .i64 s.ln,.int .i64 s.rounds],.box c1 30 [.int .i64 0,.slice none 0 0,.slice none 0 0,.bool false,.int .i64 0]]∧i≤ls.length∧(∀c∈ls.take i,gb gs c s.how=0)) ⟨0,rfl,rfl,aa.ag,rfl,Nat.zero_le _,(fun c aq=>by rw[List.take_zero]at aq;cases aq)⟩ ⟨rfl,rfl,rfl,rfl,rfl,rfl,rfl,trivial⟩ ?_;rintro m _ e6 _ ⟨i,rfl,rfl,fz,rfl,e0,kv⟩;refine aZ ?_;refine bF rfl (fun bq=> ?_) (fun bq=> ?_);have av:i<ls.length:=by have:=of_decide_eq_true bq;omega
 obtain⟨oQ,⟨bH,bZ,rfl,bL⟩,eN⟩:=ta.fj uu av;have db:=eN.isSome;have fb:ls.take (i+1)=ls.take i++ [ls[i]]:=List.take_succ_eq_append_getElem av;have hQ:=List.getElem_mem av;generalize ls[i]=bP at bL eN fb hQ;refine aP ?_;refine aI (cC (eN.mono aa.ag)) ?_;refine br ?_;refine a6 rfl (DO (aM.mono aa.ag) (bL.mono aa.ag) (iF _ hQ)) ?_;rintro v41 OP _ OQ ⟨⟨aA6,rfl,_⟩,rfl⟩;refine b_ ?_;by_cases lN:gb gs bP s.how≠0;refine aZ ?_;refine aI (hq (v:=.agg #[.int .i64 0,.slice none 0 0,.slice none 0 0,.bool false,.int .i64 0]) rfl (fun _=>by kernel_rfl)) ?_;refine bA ?_;exact hd (rs:= [.cell 6 30,.tmp 7]) rfl (.cons (.cell rfl yW cW rfl) (.cons (.tmp rfl) .nil)) (⟨0,_,_,_,_,_,_,_,_,_,rfl,fun h=>absurd h lN,fun _ _ _ h=>absurd (h _ hQ) lN,rfl⟩);refine bA ?_;refine ec ⟨i+1,rfl,rfl,aa.ag,rfl,av,(fun c aq=>by rw[fb]at aq;rcases List.mem_append.1 aq with aq|aq;exact kv c aq;rw[List.mem_singleton]at aq;subst aq;exact Classical.not_not.1 lN)⟩ ⟨rfl,rfl,rfl,rfl,rfl,rfl,rfl,trivial⟩;have bV:i=ls.length:=by have:=of_decide_eq_false bq;omega
 subst bV;rw[List.take_length]at kv;refine bA ?_;refine a6 rfl SC ?_;rintro G0 G1 MI K4 H6
 obtain⟨q,rfl,aw3⟩:∃q:Af,G0=.tuple #[.pointer (some ⟨q.kl,0,none⟩),.int .i64 0]∧q1 q s.kM.toNat s.wt.toNat 0 [] MI:=by
  rcases H6 with⟨h,_⟩|⟨_,q,ab,ae⟩
  exact absurd h Tm.rat;exact⟨q,ab,ae⟩
 refine aK.view (View.perm (List.perm_append_comm (l₂:= [_,_]))) ?_;refine b_ ?_;refine bN rfl (aua (aM.mono aa.ag) aw2 ez) ?_;rintro asi abY _ asj ⟨hC,mb,vs,rfl,jC,rfl⟩;refine bg ?_;refine eU [2,4,6,8,1,10,13,15] (fun _=> [.box b5 25 [.int .i64 s.kn,.int .i64 s.fwd,.int .i64 s.kM,.int .i64 s.wt,.int .i64 s.how,.int .i64 s.ln,.int .i64 s.rounds]]) (fun _=>fQ) ?_;refine a_ ?_;refine bN rfl (auU _) ?_;rintro Xh Xi _ Xj ⟨sb,rfl,rfl⟩;refine go2 ?_;refine dg rfl (hq (v:=.agg #[.pointer (some ⟨sb,0,none⟩),.pointer (some ⟨q.kl,0,none⟩),.pointer (some ⟨hC,0,none⟩),.slice cQ gs.length gc,.int .i64 s.kn,.int .i64 s.fwd,.int .i64 s.kM,.int .i64 s.wt,.int .i64 s.how,.int .i64 s.ln,.int .i64 s.rounds,.slice none 0 0,.bool false,.int .i64 (-1)]) rfl (fun _=>by kernel_rfl)) ?_;refine aX ?_;refine bw fun Cy=> ?_;refine a_ ?_;refine dB ?_;refine aZ ?_;have hY:∀J,abY.le J→fh ⟨Cy,sb,q.kl,hC,mb,.slice cQ gs.length gc,vs,s⟩ s.kM.toNat s.wt.toNat gs J ⟨[],[],false,-1,0,0⟩ (gQ ⟨Cy,sb,q.kl,hC,mb,.slice cQ gs.length gc,vs,s⟩ none 0 0 [] none 0 0 [] false (-1) [] MI):=fun J cj=>⟨none,0,[],none,0,[],[],q,MI,rfl,aw3,bd.nil,(fun k v h=>by cases h),aM.mono aa.ag,jC.mono aa.ag,rfl⟩
 have aA7:=Tm.rat;have aw4:∀c∈ls,bS gs c=0:=fun c aq=>ye (kv c aq);refine aK.view (View.gh 122 4) ?_;refine aK.view (hS (δ':=.box b5 25 [.int .i64 s.kn,.int .i64 s.fwd,.int .i64 s.kM,.int .i64 s.wt,.int .i64 s.how,.int .i64 s.ln,.int .i64 s.rounds]:: .box c1 30 [.int .i64 0,.slice none 0 0,.slice none 0 0,.bool false,.int .i64 0]::gQ ⟨Cy,sb,q.kl,hC,mb,.slice cQ gs.length gc,vs,s⟩ none 0 0 [] none 0 0 [] false (-1) [] MI)) ?_;refine eo rfl (awV (f:=⟨Cy,sb,q.kl,hC,mb,.slice cQ gs.length gc,vs,s⟩) (ls:=ls) (hY _ aa.ag) ⟨(fun e h=>by cases h),(fun e h=>by cases h),(fun E bt q e h=>by cases h),Nat.zero_le _,Nat.zero_le _,(fun y h=>by cases h),List.nodup_nil,(fun j h=>by cases h),(fun h=>absurd h (by decide)),(fun e h=>by cases h)⟩ ⟨rfl,rfl,rfl,rfl,rfl⟩ ⟨la,lc,wP,rfl,sa,oH,uu.mono aa.ag,ta.mono aa.ag⟩ aw4 ah Tm ah ah ah ez) (List.perm_append_comm (l₁:= [_,_])) ?_;rintro aA8 aA9 aA_ aBa ⟨z,rfl,aw5,pj⟩;refine aK.view (View.perm (List.perm_append_comm (l₂:= [_,_]))) ?_;refine aR ?_;obtain⟨A,c,xs,ej,MJ,ei,ms,cY,eE,iL,aw6,bm,kq,aBb,aBc,rfl⟩:=aw5;have hlen:=pj.1.len;generalize aet:z.full=r2;refine eU [0,2,4,6,8,10,12,14,16,18,20,22,24,27,29] (fun _=> [uD ⟨Cy,sb,q.kl,hC,mb,.slice cQ gs.length gc,vs,s⟩ ej MJ z.dc r2 z.empty]) (fun _=>fQ) ?_;refine bW ?_;refine dg rfl (hq (v:=.agg #[.int .i64 2,.slice none 0 0,.slice ej z.dc MJ,.bool r2,.int .i64 z.empty]) rfl (fun _=>by kernel_rfl)) ?_;refine aX ?_;refine bh fun jM=> ?_;refine a_ ?_;refine fU ?_;refine br ?_;refine a6 rfl auT ?_;rintro aBd Tc _ awo ⟨rfl,rfl⟩;refine a8 ?_;refine bJ.view (View.gh 62 5) ?_;refine fD (fun m aL ai δ'=>∃(i:Nat) (Tn:Option Addr) (ce:Nat) (aeu:List Value),m=z.es.length-i∧aL= [(6,.pointer (some ⟨c1,0,none⟩)),(16,.pointer (some ⟨Cy,0,none⟩)),(17,.pointer (some ⟨jM,0,none⟩)),(89,.int .i64 z.es.length),(90,.int .i64 i)]∧Tc.le ai∧δ'=.row (.slice Tn i ce) 62 5 i aeu:: .box jM 30 [.int .i64 2,.slice Tn i ce,.slice ej z.dc MJ,.bool r2,.int .i64 z.empty]:: .box c1 30 [.int .i64 0,.slice none 0 0,.slice none 0 0,.bool false,.int .i64 0]::gQ ⟨Cy,sb,q.kl,hC,mb,.slice cQ gs.length gc,vs,s⟩ A c z.es.length xs ej MJ z.dc ei r2 z.empty ms eE∧i≤z.es.length) ⟨0,none,0,[],rfl,rfl,aa.ag,rfl,Nat.zero_le _⟩ ⟨rfl,rfl,rfl,rfl,rfl,trivial⟩ ?_;rintro m _ z2 _ ⟨i,Tn,ce,aeu,rfl,rfl,B3,rfl,S6⟩;refine aZ ?_;refine bF rfl (fun fV=> ?_) (fun fV=> ?_);have av:i<z.es.length:=by have:=of_decide_eq_true fV;omega
 refine fx ?_;refine a6 rfl (Mg (bm.mono aa.ag) ah av) ?_;rintro aBe aBf _ aBg ⟨bH,bZ,gC,gD,rfl,o1,m2,rfl⟩;refine aR ?_;refine bh fun vj=> ?_;refine bg ?_;refine c_ fun aBh=> ?_;refine gl fun aBi aBj=> ?_;refine br ?_;refine ec ⟨i+1,_,_,_,rfl,rfl,aa.ag,rfl,av⟩ ⟨rfl,rfl,rfl,rfl,rfl,trivial⟩;refine cT ?_;by_cases MK:0≤z.empty;refine ic ?_;exact hd (rs:= [.cell 6 30,.tmp 7]) rfl (.cons (.cell rfl yW cW rfl) (.cons (.tmp rfl) .nil)) (⟨1,0,_,_,_,_,_,_,_,_,rfl,fun _=>awZ pj MK,fun _ _ _ _=>rfl,rfl⟩);refine aP ?_;have my:=fun J:aa=>ada (I:=J) aw6;simp only[iL]at my;refine aR ?_;by_cases To:r2=true;subst To;refine C0 ?_;exact hd (rs:= [.cell 6 30,.tmp 7]) rfl (.cons (.cell rfl yW cW rfl) (.cons (.tmp rfl) .nil)) (⟨3,0,_,_,_,_,_,_,_,_,rfl,fun _=>aes pj MK (.inl aet),fun _ _ _ _=>rfl,rfl⟩);simp only[Bool.not_eq_true]at To;subst To;refine aZ ?_;refine cZ ?_;refine eo rfl (my _) (List.perm_append_comm (l₁:= [_,_,_,_,_,_,_,_,_])) ?_;rintro asq abZ aBk asr ⟨rfl,pB⟩;refine aK.view (View.perm (List.perm_append_comm (l₂:= [_,_,_,_,_,_,_,_,_]))) ?_;by_cases aev:0<((z.ys.length:Nat):Int);refine rk ?_;exact hd (rs:= [.cell 6 30,.tmp 7]) rfl (.cons (.cell rfl yW cW rfl) (.cons (.tmp rfl) .nil)) (⟨3,0,_,_,_,_,_,_,_,_,rfl,fun _=>aes pj MK (.inr fun h=>by rw[h]at aev;simp at aev),fun _ _ _ _=>rfl,rfl⟩);refine fx ?_;exact hd (rs:= [.cell 6 30,.tmp 7]) rfl (.cons (.cell rfl yW cW rfl) (.cons (.tmp rfl) .nil)) (⟨2,0,_,_,_,_,_,_,_,_,rfl,fun _=>aw0 pj MK aet (List.eq_nil_of_length_eq_zero ah),fun _ _ _ _=>rfl,rfl⟩)
def yw(I:aa)(v:Value)(ls:List (List ak)):Prop:=∃(A:Option Addr) (c:Nat) (xs:List Value),v=.slice A ls.length c∧ls.length≤c∧ls.length≤17592186044416∧Cells I A xs∧bd jT I xs ls
theorem yw.mono{I J:aa}{v:Value}{ls:List (List ak)}(h:yw I v ls)(aA:I.le J):yw J v ls:=by
 obtain⟨A,c,xs,rfl,ab,ae,aF,bb⟩:=h;exact⟨A,c,xs,rfl,ab,ae,aF.mono aA,bb.mono aA⟩
theorem yw.rep{I:aa}{v:Value}{ls:List (List ak)}(h:yw I v ls)(aA:ls.length≤1000):dK jT I v ls:=by
 obtain⟨A,c,xs,rfl,ab,ae,aF,bb⟩:=h;exact⟨A,c,xs,rfl,ab,by omega,aF,bb⟩
def Ez(ls:List (List ak))(i:Nat):Prop:=∀c∈ls.take i,∀t∈bE c,t.size≤40
theorem Ez.jx{ls:List (List ak)}(h:Ez ls ls.length):∀c∈ls,hK c:=fun c aq x af=>by rw[Ez,List.take_length]at h;have ab:=h c aq x.l (List.mem_flatMap.2 ⟨x,af,by simp⟩);have ae:=h c aq x.r (List.mem_flatMap.2 ⟨x,af,by simp⟩);omega
theorem aew{I:aa}{vg v:Value}{gs:List aE}{ls:List (List ak)}{s:yl}{fuel:Int}(aM:cP I vg gs)(ax:yw I v ls):
 aS Tryz.prog 4 [vg,v,.agg #[.int .i64 s.kn,.int .i64 s.fwd,.int .i64 s.kM,.int .i64 s.wt,.int .i64 s.how,.int .i64 s.ln,.int .i64 s.rounds],.int .i64 fuel] I [] (fun r ai δ'=>(∃b,r=.bool b∧(b=true→gs.length≤300∧ls.length≤5∧∀c∈ls,hK c))∧δ'= []):=by
 obtain⟨la,lc,wP,rfl,sa,oH,uu,ta⟩:=ax;obtain⟨cQ,gc,rfl⟩:=aM.shape;refine a1 func4 ntmps4 fun aG=> ?_;refine go2 ?_;refine bw fun c1=> ?_;refine gk ?_;refine fD (fun m aL ai δ'=>∃(i:Nat) (n:Int),m=ls.length-i∧aL= [(0,.slice cQ gs.length gc),(1,.slice la ls.length lc),(3,.int .i64 fuel),(6,.pointer (some ⟨c1,0,none⟩)),(9,.int .i64 n),(10,.int .i64 i)]∧I.le ai∧δ'= [.box c1 25 [.int .i64 s.kn,.int .i64 s.fwd,.int .i64 s.kM,.int .i64 s.wt,.int .i64 s.how,.int .i64 s.ln,.int .i64 s.rounds]]∧(i≤ls.length∧(i=0∨ls.length≤5))∧(0≤n∧n≤300*i)∧(n≤40→Ez ls i)) ⟨0,0,rfl,rfl,aa.ag,rfl,⟨Nat.zero_le _,.inl rfl⟩,⟨by omega,by omega⟩,(fun _ c aq=>by rw[List.take_zero]at aq;cases aq)⟩ ⟨rfl,rfl,rfl,rfl,rfl,rfl,trivial⟩ ?_;rintro m _ e6 _ ⟨i,n,rfl,rfl,fz,rfl,e0,aD,iu⟩;refine aZ ?_;by_cases jh:i<ls.length;obtain⟨oQ,⟨bH,bZ,rfl,bL⟩,eN⟩:=ta.fj uu jh;have db:=eN.isSome;have fb:ls.take (i+1)=ls.take i++ [ls[i]]:=List.take_succ_eq_append_getElem jh;generalize ls[i]=bP at bL eN fb;refine a8 ?_;by_cases hO:ls.length≤5;refine gk ?_;refine aI (cC (eN.mono aa.ag)) ?_;refine aX ?_;by_cases Ce:3<((bP.length:Nat):Int);refine fT ?_;exact b0 rfl rfl (⟨⟨false,rfl,fun h=>(by cases h)⟩,rfl⟩);refine bA ?_;refine aI (cC (eN.mono aa.ag)) ?_;refine a6 rfl (ame (bL.mono aa.ag)) ?_;rintro yZ qt _ py ⟨rv,rfl⟩;have ft:=wL bP;have Kg:n≤40→(∀t∈bE bP,t.size≤40)→Ez ls (i+1):=fun ab ae c aq=>by rw[fb]at aq;rcases List.mem_append.1 aq with aq|aq;exact iu ab c aq;rw[List.mem_singleton]at aq;subst aq;exact ae
 generalize bE bP=ts at rv ft Kg;obtain⟨q4,iW,bj,ts,atY,NZ,aW,an,qG⟩:=rv;have bT:∀i (h:i<ts.length),ba qt (.agg #[.int .i64 ts[i].head,.slice (bj i).1 ts[i].args.length (bj i).2]) ts[i]:=fun i aj=>ba.mk _ _ (an i aj) (qG i aj);refine br ?_;refine fD (fun m aL ai δ'=>∃(k:Nat) (j0:Int),m=ts.length-k∧aL= [(0,.slice cQ gs.length gc),(1,.slice la ls.length lc),(3,.int .i64 fuel),(6,.pointer (some ⟨c1,0,none⟩)),(9,.int .i64 j0),(10,.int .i64 i),(11,.slice q4 ts.length iW),(12,.int .i64 k)]∧qt.le ai∧δ'= [.box c1 25 [.int .i64 s.kn,.int .i64 s.fwd,.int .i64 s.kM,.int .i64 s.wt,.int .i64 s.how,.int .i64 s.ln,.int .i64 s.rounds]]∧k≤ts.length∧(n≤j0∧j0≤n+41*k)∧(j0≤40→∀t∈ts.take k,t.size≤40)) ⟨0,n,rfl,rfl,aa.ag,rfl,Nat.zero_le _,⟨by omega,by omega⟩,(fun _ c aq=>by rw[List.take_zero]at aq;cases aq)⟩ ⟨rfl,rfl,rfl,rfl,rfl,rfl,rfl,rfl,trivial⟩ ?_;rintro m _ z2 _ ⟨k,j0,rfl,rfl,B3,rfl,hk,hm,od⟩;refine br ?_;refine bF rfl (fun c4=> ?_) (fun c4=> ?_);have jS:k<ts.length:=by have:=of_decide_eq_true c4;omega
 have gr:=(aW k jS).isSome;have UD:ts.take (k+1)=ts.take k++ [ts[k]]:=List.take_succ_eq_append_getElem jS;refine br ?_;refine aI (cC ((aW k jS).mono aa.ag)) ?_;refine a6 rfl (akm _ _ (Nat.le_refl _) 40 ah _ _ ((bT k jS).mono aa.ag)) ?_;rintro v46 GY _ GZ ⟨rfl,rfl⟩;refine b_ ?_;refine ec ⟨k+1,j0+((min ts[k].size (40+1):Nat):Int),rfl,rfl,aa.ag,rfl,jS,⟨by omega,by omega⟩,(fun h t ar=>by rw[UD]at ar;rcases List.mem_append.1 ar with ar|ar;exact od ah t ar;rw[List.mem_singleton]at ar;subst ar;omega)⟩ ⟨rfl,rfl,rfl,rfl,rfl,rfl,rfl,rfl,trivial⟩;have bV:k=ts.length:=by have:=of_decide_eq_false c4;omega
 subst bV;rw[List.take_length]at od;refine bA ?_;refine ec ⟨i+1,j0,rfl,rfl,aa.ag,rfl,⟨jh,.inr hO⟩,⟨by omega,by omega⟩,fun h=>Kg ah (od h)⟩ ⟨rfl,rfl,rfl,rfl,rfl,rfl,trivial⟩;refine dn ?_;refine aI (l2 rfl rfl rfl ah) ?_;refine xp ?_;exact b0 rfl rfl (⟨⟨false,rfl,fun h=>(by cases h)⟩,rfl⟩);refine fT ?_;have D7:ls.length≤5:=by omega
 refine go2 ?_;refine aI (yD rfl rfl rfl ah) ?_;refine go2 ?_;by_cases JL:n≤40;refine a8 ?_;by_cases vr:A6 gs=true;have DL:gs.length≤300:=by unfold A6 at vr;simp only[Bool.and_eq_true,decide_eq_true_eq]at vr;exact vr.1
 have yx:i=ls.length:=by omega
 have aex:=(yx▸iu JL:Ez ls ls.length).jx;refine cZ ?_;refine a6 rfl (Wm (aM.mono aa.ag)) ?_;rintro v57 DJ _ DK ⟨rfl,rfl⟩;rw[vr];refine a_ ?_;by_cases Wq:s.rounds≤fuel;refine bA ?_;exact b0 rfl rfl (⟨⟨true,rfl,fun _=>⟨DL,D7,aex⟩⟩,rfl⟩);refine a8 ?_;by_cases D_:1000<s.rounds;refine aP ?_;exact b0 rfl rfl (⟨⟨true,rfl,fun _=>⟨DL,D7,aex⟩⟩,rfl⟩);refine aP ?_;exact b0 rfl rfl (⟨⟨false,rfl,fun h=>(by cases h)⟩,rfl⟩);simp only[Bool.not_eq_true]at vr;refine cZ ?_;refine a6 rfl (Wm (aM.mono aa.ag)) ?_;rintro v57 DJ _ DK ⟨rfl,rfl⟩;rw[vr];refine fT ?_;exact b0 rfl rfl (⟨⟨false,rfl,fun h=>(by cases h)⟩,rfl⟩);refine xo ?_;exact b0 rfl rfl (⟨⟨false,rfl,fun h=>(by cases h)⟩,rfl⟩)
def Tp:yl:=⟨1,0,1,0,0,0,3⟩
theorem aey:Tp.ok:=⟨by decide,by decide,by decide,by decide,by decide,by decide⟩
theorem aez:j_ [pC]=0:=by decide+kernel
theorem aw7:gb [pC] [] 0=0:=by decide+kernel
theorem EA(I:aa):aS Tryz.prog 6 [] I [] (fun v _ δ'=>v=.bool true∧δ'= []):=by
 refine a1 func6 ntmps6 fun aG=> ?_;refine aP ?_;refine aI (hq (v:=.agg #[.string ⟨#[36,116,114,117,101]⟩,.int .i64 0,.int .i64 1,.bool true]) rfl (fun _=>by kernel_rfl)) ?_;refine c_ fun b8=> ?_;refine aK.dO aO.here ?_;rintro jt FB FC jJ aC zp Dn Bs;cases aC;have aM:cP jt _ [pC]:=cP.of (gs:= [pC]) Bs rfl rfl zp (by decide) (by intro s ao;simp[pC]at ao;subst ao;exact⟨by unfold dZ;simp,by unfold dZ;simp,by simp[ByteArray.size,maxLen]⟩);refine a_ ?_;refine aI (hq (v:=.agg #[.int .i64 1,.int .i64 0,.int .i64 1,.int .i64 0,.int .i64 0,.int .i64 0,.int .i64 3]) rfl (fun _=>by kernel_rfl)) ?_;refine bh fun b2=> ?_;refine aZ ?_;refine EX (xs:= [(Go.Operand.const (Go.Value.slice none 0 0))]) underlying23 NL rfl rfl rfl rfl rfl (fun kc=> ?_);refine aK.dO aO.here ?_;rintro nN Jx Jy mf aC OS Xk F8;cases aC;have ax:dK jT nN _ [([]:List ak)]:=bd.HF (bd.single (show jT.R nN [] _ from⟨none,0,rfl,dK.nil⟩)) F8 OS (by decide);refine aX ?_;refine a6 rfl (Il (s:=Tp) (aM.mono aa.ag) (ax.mono aa.ag) (fun c aq x af=>by rw[List.mem_singleton]at aq;subst aq;cases af) (by decide) (by decide)) ?_;rintro w0 pL _ rG ⟨dD,e,_,_,_,_,_,_,ct,em,rfl,aw8,he,rfl⟩;obtain rfl:e=0:=he aez aey (fun _=>rfl) (fun c aq=>by rw[List.mem_singleton]at aq;subst aq;exact aw7);obtain rfl:dD=1:=(aw8 rfl).2.2.1 rfl;refine aR ?_;refine bh fun b3=> ?_;refine bg ?_;refine a6 rfl (Il (s:=Tp) (ls:= []) (aM.mono aa.ag) dK.nil (fun c aq=>by cases aq) (by decide) (by decide)) ?_;rintro v20 vb _ tI ⟨aw9,aT,_,_,_,_,_,_,aBl,aBm,rfl,aw_,ny,rfl⟩;obtain rfl:aT=0:=ny aez aey (fun _=>rfl) (fun c aq=>by cases aq);obtain rfl:aw9=2:=(aw_ rfl).2.2.2 rfl;refine aR ?_;refine bh fun b5=> ?_;refine C0 ?_;exact b0 rfl rfl (⟨rfl,rfl⟩)
theorem axa{gs:List aE}{ls ms:List (List ak)}{a b c:Int}(bk:Cx gs (ls++ms) a)(al:Cx gs (ms++ls) b)(aq:Cx gs ls c):¬(a=1∧b=2)∧¬(a=2∧b=1)∧¬(c=1∧(a=2∨b=2)):=by
 refine⟨fun⟨ab,ae⟩=> ?_,fun⟨ab,ae⟩=> ?_,fun⟨ab,ae⟩=> ?_⟩;obtain⟨E,bt,ar⟩:=al.2.1 ae;exact bk.1 ab E bt fun c aq=>ar c (List.mem_append.2 (List.mem_append.1 aq).symm);obtain⟨E,bt,ar⟩:=bk.2.1 ab;exact al.1 ae E bt fun c aq=>ar c (List.mem_append.2 (List.mem_append.1 aq).symm);rcases ae with ae|ae
 obtain⟨E,bt,ar⟩:=bk.2.1 ae;exact aq.1 ab E bt fun c aq=>ar c (List.mem_append_left _ aq);obtain⟨E,bt,ar⟩:=al.2.1 ae;exact aq.1 ab E bt fun c aq=>ar c (List.mem_append_right _ aq)
theorem axb{I:aa}{vg bz cN:Value}{gs:List aE}{ls ms:List (List ak)}{s t:yl}(aM:cP I vg gs)(bk:yw I bz ls)(al:yw I cN ms):
 aS Tryz.prog 3 [vg,bz,cN,.agg #[.int .i64 s.kn,.int .i64 s.fwd,.int .i64 s.kM,.int .i64 s.wt,.int .i64 s.how,.int .i64 s.ln,.int .i64 s.rounds],.agg #[.int .i64 t.kn,.int .i64 t.fwd,.int .i64 t.kM,.int .i64 t.wt,.int .i64 t.how,.int .i64 t.ln,.int .i64 t.rounds]] I [] (fun v _ δ'=>v=.bool true∧δ'= []):=by
 obtain⟨cQ,gc,rfl⟩:=aM.shape;have sD:=bk;have qB:=al;obtain⟨la,lc,wP,rfl,sa,oH,uu,ta⟩:=bk;obtain⟨iZ,jv,aBn,rfl,NC,Fp,aeA,EB⟩:=al;refine a1 func3 ntmps3 fun aG=> ?_;refine go2 ?_;refine bw fun b8=> ?_;refine bw fun hH=> ?_;refine br ?_;refine a6 rfl (aew (s:=s) aM sD) ?_;rintro v23 pJ _ pK ⟨⟨Q1,rfl,axc⟩,rfl⟩;by_cases mP:Q1=true;subst mP;obtain⟨DL,rF,iB⟩:=axc rfl;refine a_ ?_;refine cZ ?_;refine a6 rfl (aew (s:=t) (aM.mono aa.ag) (qB.mono aa.ag)) ?_;rintro v29 tt _ px ⟨⟨Df,rfl,axd⟩,rfl⟩;by_cases sP:Df=true;subst sP;obtain⟨_,oS,aeB⟩:=axd rfl;refine bg ?_;by_cases wA:6<((ls.length:Nat):Int)+((ms.length:Nat):Int);refine bW ?_;exact b0 rfl rfl (⟨rfl,rfl⟩);refine fT ?_;refine aK.view (View.gh 36 1) ?_;refine mL rfl rfl (Src.m8 (uu.mono aa.ag)) ta.length ta.kd (fun aBo aBp=> ?_);rw[Nat.zero_add];refine aP ?_;refine mL rfl rfl (Src.m8 (aeA.mono aa.ag)) EB.length EB.kd (fun zQ zR=> ?_);refine bW ?_;refine aK.view (View.gh 36 1) ?_;refine mL rfl rfl (Src.m8 (aeA.mono aa.ag)) EB.length EB.kd (fun abt abu=> ?_);rw[Nat.zero_add];refine aP ?_;refine mL rfl rfl (Src.m8 (uu.mono aa.ag)) ta.length ta.kd (fun JF JG=> ?_);refine a_ ?_;refine aK.dO (by repeat (first|exact aO.here|apply aO.there)) ?_;rintro Qb abo abp Qc aC axe aBq axf;cases aC;refine aK.dO (by repeat (first|exact aO.here|apply aO.there)) ?_;rintro zG a53 aot GM aC Qd aou Qe;cases aC;have tK:dK jT Qb (.slice JF (ms.length+ls.length) JG) (ms++ls):=by have:=bd.HF ((EB.mono aa.ag).app (ta.mono aa.ag)) axf (by rw[List.length_append];exact axe) (by rw[List.length_append];omega);rwa[List.length_append]at this
 have F_:dK jT zG (.slice zQ (ls.length+ms.length) zR) (ls++ms):=by have:=bd.HF ((ta.mono aa.ag).app (EB.mono aa.ag)) Qe (by rw[List.length_append];exact Qd) (by rw[List.length_append];omega);rwa[List.length_append]at this
 refine aR ?_;refine a6 rfl (Il (s:=s) (aM.mono aa.ag) (F_.mono aa.ag) (fun c aq=>(List.mem_append.1 aq).elim (iB c) (aeB c)) (by rw[List.length_append];omega) ah) ?_;rintro W8 W9 _ W_ ⟨bz,tH,_,_,_,_,_,_,fla,aBr,rfl,wI,_,rfl⟩;refine aR ?_;refine bh fun ie=> ?_;refine br ?_;refine a6 rfl (Il (s:=t) (aM.mono aa.ag) (tK.mono aa.ag) (fun c aq=>(List.mem_append.1 aq).elim (aeB c) (iB c)) (by rw[List.length_append];omega) ah) ?_;rintro v63 GS _ KW ⟨cN,Yp,_,_,_,_,_,_,flb,aBs,rfl,nQ,_,rfl⟩;refine aR ?_;refine bh fun zg=> ?_;refine br ?_;refine a6 rfl (Il (s:=s) (aM.mono aa.ag) ((sD.rep ah).mono aa.ag) iB ah ah) ?_;rintro ar3 ar4 _ ar5 ⟨bB,tx,_,_,_,_,_,_,aBt,aBu,rfl,Pe,_,rfl⟩;refine aR ?_;refine bh fun jM=> ?_;refine bg ?_;by_cases axg:tH≠0;refine dn ?_;refine a6 rfl (EA _) ?_;rintro aeC aeD _ aeE ⟨rfl,rfl⟩;refine a_ ?_;exact b0 rfl rfl (⟨rfl,rfl⟩);refine aR ?_;by_cases Dj:Yp≠0;refine bA ?_;refine a6 rfl (EA _) ?_;rintro aeC aeD _ aeE ⟨rfl,rfl⟩;refine a_ ?_;exact b0 rfl rfl (⟨rfl,rfl⟩);refine a8 ?_;by_cases axh:tx≠0;refine aP ?_;refine a6 rfl (EA _) ?_;rintro aeC aeD _ aeE ⟨rfl,rfl⟩;refine a_ ?_;exact b0 rfl rfl (⟨rfl,rfl⟩);obtain⟨c8,b6,hs⟩:=axa (wI (Classical.not_not.1 axg)) (nQ (Classical.not_not.1 Dj)) (Pe (Classical.not_not.1 axh));refine bA ?_;by_cases aBv:bz=1;refine a8 ?_;refine cZ ?_;refine aI (l2 rfl rfl rfl ah) ?_;refine a_ ?_;refine cZ ?_;refine aI (l2 rfl rfl rfl ah) ?_;refine bW ?_;refine a6 rfl (EA _) ?_;rintro aeF aeG _ aeH ⟨rfl,rfl⟩;refine aZ ?_;by_cases aeI:bB=1;refine a8 ?_;refine cZ ?_;refine aI (l2 rfl rfl rfl ah) ?_;refine aR ?_;refine cZ ?_;refine aI (l2 rfl rfl rfl ah) ?_;refine bg ?_;exact b0 rfl rfl (⟨rfl,rfl⟩);refine fx ?_;exact b0 rfl rfl (⟨rfl,rfl⟩);refine b_ ?_;by_cases aBw:bz=2;refine a8 ?_;refine cZ ?_;refine aI (l2 rfl rfl rfl ah) ?_;refine bg ?_;refine a6 rfl (EA _) ?_;rintro aeF aeG _ aeH ⟨rfl,rfl⟩;refine aZ ?_;by_cases aeI:bB=1;refine a8 ?_;refine cZ ?_;refine aI (l2 rfl rfl rfl ah) ?_;refine aR ?_;refine cZ ?_;refine aI (l2 rfl rfl rfl ah) ?_;refine bg ?_;exact b0 rfl rfl (⟨rfl,rfl⟩);refine fx ?_;exact b0 rfl rfl (⟨rfl,rfl⟩);refine cT ?_;refine a6 rfl (EA _) ?_;rintro aeF aeG _ aeH ⟨rfl,rfl⟩;refine aZ ?_;by_cases aeI:bB=1;refine a8 ?_;refine cZ ?_;refine aI (l2 rfl rfl rfl ah) ?_;refine aR ?_;refine cZ ?_;refine aI (l2 rfl rfl rfl ah) ?_;refine bg ?_;exact b0 rfl rfl (⟨rfl,rfl⟩);refine fx ?_;exact b0 rfl rfl (⟨rfl,rfl⟩);simp only[Bool.not_eq_true]at sP;subst sP;refine rk ?_;exact b0 rfl rfl (⟨rfl,rfl⟩);simp only[Bool.not_eq_true]at mP;subst mP;refine NO ?_;exact b0 rfl rfl (⟨rfl,rfl⟩)
end
section
open Go Lg Go.ChangeShapes Go.WideShapes Go.ChangeAt Go.RowKit
def n2(w:World):aa:=fun b=>w.heap[b]?
theorem axi(w:World):Sat w (n2 w) []:=⟨fun _ _ h=>h,fun x af=>by simp at af,by simp[eg],fun b al=>by simp[eg]at al⟩
theorem ML{n:Int}(h:(Lit.int .i64 n).wf=true):dZ n:=by
 simp only[Lit.wf,Bool.and_eq_true,decide_eq_true_eq]at h;have ab:IntKind.i64.min= -9223372036854775808:=by decide
 have ae:IntKind.i64.max=9223372036854775807:=by decide
 unfold dZ;omega
variable {H:Type} {enc:TypeId×Value→H} {P:Program} {W:World} {spare:Nat→Bool} {held:Bool}
theorem Tq{ts:List TypeId}{ds:List (DataW H)}(h:(DataW.weightsEach P ts ds).all (· ≤reachBytes)=true):∀(j:Nat) (t:TypeId) (d:DataW H),ts[j]? =some t→ds[j]? =some d→(d.weights P t).all (· ≤reachBytes)=true:=by
 induction ts generalizing ds with
 |nil=>intro j t d ar;simp at ar
 |cons t0 ts aY=>
  cases ds with
  |nil=>intro j t d _ aH;simp at aH
  |cons d0 ds=>
   simp only[DataW.weightsEach,List.all_append,Bool.and_eq_true]at h;intro j t d ar aH
   cases j with
   |zero=>simp at ar aH;subst ar;subst aH;exact h.1
   |succ j=>exact aY h.2 j t d (by simpa using ar) (by simpa using aH)
theorem Tr{e:TypeId}{ds:List (DataW H)}(h:(DataW.weightsAll P e ds).all (· ≤reachBytes)=true):∀d∈ds,(d.weights P e).all (· ≤reachBytes)=true:=by
 induction ds with
 |nil=>intro d aH;cases aH
 |cons d0 ds aY=>
  simp only[DataW.weightsAll,List.all_append,Bool.and_eq_true]at h;intro d aH;rcases List.mem_cons.1 aH with rfl|aH
  exact h.1;exact aY h.2 d aH
theorem Im{α:Type}{n:Nat}{p:Nat→α→Prop}(h:∀i,i<n→∃a,p i a):∃l:List α,l.length=n∧∀i (aj:i<l.length),p i l[i]:=by
 induction n with
 |zero=>exact⟨[],rfl,fun i aj=>by simp at aj⟩
 |succ n aY=>
  obtain⟨l,ab,ae⟩:=aY fun i aj=>h i ah;obtain⟨a,bk⟩:=h n ah;refine⟨l++ [a],by simp[ab],fun i aj=> ?_⟩;by_cases av:i<l.length;rw[List.getElem_append_left av];exact ae i av;have e:i=l.length:=by simp at aj;omega
  subst e;simp[ab,bk]
theorem axj{a:Addr}{cs:List Value}(h:W.cells? 0 a 2=some cs):∃u v,cs= [u,v]∧W.cell? a=some u∧W.cell? (a.add 1)=some v:=by
 simp only[World.cells?,Nat.zero_le,if_true]at h;have an:List.range 2= [0,1]:=rfl;rw[an]at h;simp only[List.mapM_cons,List.mapM_nil,Option.bind_eq_bind,Option.bind_eq_some_iff,Option.pure_def,Option.some.injEq]at h;obtain⟨u,hu,r,⟨v,ax,pq,rfl,rfl⟩,rfl⟩:=h;have bk:a.add 0=a:=by simp[Addr.add]
 rw[bk]at hu;exact⟨u,v,rfl,hu,ax⟩
structure Ts(P:Program)(lZ r6 kQ:TypeId):Prop where
  str:∃dE:Array Field,P.underlying lZ=some (.struct dE)∧dE.size=2∧(∃f0 f1:Field,dE[0]? =some f0∧dE[1]? =some f1∧f0.type=kQ∧f0.offset=0∧f1.type=r6∧f1.offset=1∧dE.toList.map (·.type)= [kQ,r6])
  sM:P.underlying r6=some (.slice lZ)
  int:P.underlying kQ=some (.int .i64)
  MM:P.cellsOf lZ=2
  axk:P.cellsOf r6=1
  Tt:P.cellsOf kQ=1
  axl:P.bytesOf lZ=32
theorem aeJ{lZ r6 kQ:TypeId}(ty:Ts P lZ r6 kQ):∀(fuel:Nat) (cs:List Value) (d:DataW H) (cp:List MemPlace),DataW.trod enc P W 0 spare held fuel lZ cs=some (d,cp)→(d.weights P lZ).all (· ≤reachBytes)=true→
 ∃(s:Value) (t:T),cs= [.int .i64 t.head,s]∧ba (n2 W) (.agg #[.int .i64 t.head,s]) t:=by
 intro fuel
 induction fuel using Nat.strongRecOn with
 |_ fuel aY=>
  intro cs d cp h hw;obtain⟨dE,aeK,bD,f0,f1,axm,S7,axn,axo,te,ns,Bt⟩:=ty.str;obtain⟨xs,n,rfl,af,eR,iw,fJ⟩:=DataW.trod_struct aeK h;rw[ty.MM]at eR
  obtain⟨u,v,rfl⟩:∃u v,cs= [u,v]:=by
   rcases cs with _|⟨u,_|⟨v,_|⟨_,_⟩⟩⟩
   simp at eR;simp at eR;exact⟨u,v,rfl⟩;simp at eR
  have aB:=fJ 0 f0 axm;have ab:=fJ 1 f1 S7;rw[axn,axo,ty.Tt]at aB;rw[te,ns,ty.axk]at ab;simp only[List.drop_zero,List.drop_succ_cons,List.take_succ_cons,List.take_zero]at aB ab;rw[bD]at iw
  obtain⟨oi,ou,rfl⟩:∃oi ou,xs= [oi,ou]:=by
   rcases xs with _|⟨u,_|⟨v,_|⟨_,_⟩⟩⟩
   simp at iw;simp at iw;exact⟨u,v,rfl⟩;simp at iw
  simp only[List.getElem?_cons_zero,List.getElem?_cons_succ]at aB ab;obtain⟨m,hm,_,aeL⟩:=DataW.trod_int ty.int aB;simp only[List.cons.injEq,and_true]at hm;subst hm;simp only[Prod.mk.injEq]at af;obtain⟨rfl,_⟩:=af;simp only[DataW.weights,aeK,Bt,List.map_cons,List.map_nil,DataW.weightsEach,List.all_append,Bool.and_eq_true]at hw;have lx:=hw.2.1;rcases DataW.trod_slice ty.sM ab with⟨fl,_⟩|⟨a,len,cap,elems,rest,nJ,rfl,fl,rfl,_,aA,hm,hlen,hc,JZ,_⟩
  simp only[List.cons.injEq,and_true]at fl;subst fl;exact⟨_,.mk m [],rfl,ba.mk _ (.mk m []) (ML aeL) (ed.nil _)⟩;simp only[List.cons.injEq,and_true]at fl;subst fl;simp only[DataW.weights,ty.sM,ty.axl,List.all_cons,List.all_append,Bool.and_eq_true,decide_eq_true_eq]at lx;obtain⟨qO,EC,_⟩:=lx;have Io:=Tr EC;have tK:reachBytes=140737488351232:=rfl;simp only[List.length_map,hlen]at qO
  have cE:∀i,i<len→∃t:T,∃s:Option Addr×Nat,Lg.At (n2 W) (some a) (i*2) [.int .i64 t.head,.slice s.1 t.args.length s.2]∧ba (n2 W) (.agg #[.int .i64 t.head,.slice s.1 t.args.length s.2]) t:=by
   intro i aj;have aw:=hc i aj;rw[ty.MM]at aw;have yx:elems[i]? =some elems[i]:=List.getElem?_eq_getElem ah;rw[yx,Option.bind_eq_some_iff]at aw;obtain⟨cs,fl,gF⟩:=aw;obtain⟨u,v,rfl,hu,ax⟩:=axj fl;obtain⟨s,t,he,an⟩:=aY nJ ah _ elems[i].1 elems[i].2 gF (Io _ (List.mem_map.2 ⟨_,List.getElem_mem ah,rfl⟩));obtain⟨iS,gj,bM,_⟩:=an.shape;have ao:s=.slice iS t.args.length gj:=by simpa using bM
   subst ao;simp only[List.cons.injEq,and_true]at he;obtain⟨rfl,rfl⟩:=he;refine⟨t,(iS,gj),fun j x au=> ?_,an⟩;rcases j with _|_|j
   simp at au;subst au;exact hu;simp at au;subst au;show W.cell? (a.add (i*2+1))=_;rw[←add_add];exact ax;simp at au
  obtain⟨ts,uO,aeM⟩:=Im cE
  have tq:∃bj:Nat→Option Addr×Nat,∀i (aj:i<ts.length),Lg.At (n2 W) (some a) (i*2) [.int .i64 ts[i].head,.slice (bj i).1 ts[i].args.length (bj i).2]∧ba (n2 W) (.agg #[.int .i64 ts[i].head,.slice (bj i).1 ts[i].args.length (bj i).2]) ts[i]:=by
   classical
   exact⟨fun i=>if aj:i<ts.length then(aeM i aj).choose else(none,0),fun i aj=>by simp only[dif_pos aj];exact(aeM i aj).choose_spec⟩
  obtain⟨bj,tq⟩:=tq;subst uO;exact⟨_,.mk m ts,rfl,ba.intro bj (ML aeL) aA ah (fun i aj=>(tq i aj).1) (fun i aj=>(tq i aj).2)⟩
theorem axp{w w':World}{I ai:aa}{δ':List ay}(h:er w I [] w' ai δ'):Below w.heap.size w w':=⟨h.os,h.tape,h.output,h.size,fun k hk=>h.same k hk (by simp[eg])⟩
end
section
open Go Lg Go.ChangeShapes Go.WideShapes Go.ChangeAt Go.RowKit
variable {H:Type} {enc:TypeId×Value→H} {P:Program} {W:World} {spare:Nat→Bool} {held:Bool}
structure Tu(P:Program)(r7 lZ yy kQ iz:TypeId):Prop where
  tree:Ts P lZ yy kQ
  str:∃f0 f1 f2:Field,P.underlying r7=some (.struct #[f0,f1,f2])∧(f0.type=iz∧f0.offset=0)∧(f1.type=lZ∧f1.offset=1)∧f2.type=lZ∧f2.offset=3
  Fv:P.underlying iz=some .bool
  aeN:P.cellsOf r7=5
  ga:P.cellsOf iz=1
theorem axq{r7 lZ yy kQ iz:TypeId}(fY:Tu P r7 lZ yy kQ iz){fuel:Nat}{cs:List Value}{x:DataW H×List MemPlace}(h:DataW.trod enc P W 0 spare held fuel r7 cs=some x)(hw:(x.1.weights P r7).all (· ≤reachBytes)=true):
 ∃(y:ak) (la ra:Option Addr) (lc rc:Nat),cs= [.bool y.neg,.int .i64 y.l.head,.slice la y.l.args.length lc,.int .i64 y.r.head,.slice ra y.r.args.length rc]∧ba (n2 W) (.agg #[.int .i64 y.l.head,.slice la y.l.args.length lc]) y.l∧ba (n2 W) (.agg #[.int .i64 y.r.head,.slice ra y.r.args.length rc]) y.r:=by
 obtain⟨f0,f1,f2,ao,⟨aQ,aT⟩,⟨du,dy⟩,c8,b6⟩:=fY.str;obtain⟨xs,n,rfl,af,eR,iw,fJ⟩:=DataW.trod_struct ao h;rw[fY.aeN]at eR
 obtain⟨a,b,c,d,e,rfl⟩:∃a b c d e,cs= [a,b,c,d,e]:=by
  rcases cs with _|⟨a,_|⟨b,_|⟨c,_|⟨d,_|⟨e,_|⟨_,_⟩⟩⟩⟩⟩⟩<;>simp at eR
  exact⟨a,b,c,d,e,rfl⟩
 have x6:=fJ 0 f0 rfl;have dj:=fJ 1 f1 rfl;have cY:=fJ 2 f2 rfl;have axr:xs.length=3:=iw
 obtain⟨oi,ou,uZ,rfl⟩:∃oi ou uZ,xs= [oi,ou,uZ]:=by
  rcases xs with _|⟨u,_|⟨v,_|⟨w,_|⟨_,_⟩⟩⟩⟩<;>simp at axr
  exact⟨u,v,w,rfl⟩
 rw[aQ,aT,fY.ga]at x6;rw[du,dy,fY.tree.MM]at dj;rw[c8,b6,fY.tree.MM]at cY;simp only[List.drop_zero,List.drop_succ_cons,List.take_succ_cons,List.take_zero,List.getElem?_cons_zero,List.getElem?_cons_succ]at x6 dj cY;subst af;have Bt:(#[f0,f1,f2]:Array Field).toList.map (·.type)= [iz,lZ,lZ]:=by simp[aQ,du,c8]
 simp only[DataW.weights,ao,Bt,List.map_cons,List.map_nil,DataW.weightsEach,List.all_append,Bool.and_eq_true]at hw;obtain⟨m,hm,_⟩:=DataW.trod_bool fY.Fv x6;obtain⟨s,t,aq,an⟩:=aeJ fY.tree n _ ou.1 ou.2 dj hw.2.1;obtain⟨s',t',aeO,lI⟩:=aeJ fY.tree n _ uZ.1 uZ.2 cY hw.2.2.1;obtain⟨iS,gj,bM,_⟩:=an.shape;obtain⟨aeP,aeQ,axs,_⟩:=lI.shape;have lW:s=.slice iS t.args.length gj:=by simpa using bM
 have axt:s'=.slice aeP t'.args.length aeQ:=by simpa using axs
 subst lW;subst axt;simp only[List.cons.injEq,and_true]at hm aq aeO;obtain⟨rfl,rfl⟩:=aq;obtain⟨rfl,rfl⟩:=aeO;subst hm;exact⟨⟨m,t,t'⟩,iS,aeP,gj,aeQ,rfl,an,lI⟩
end
section
open Go Lg Go.ChangeShapes Go.WideShapes Go.ChangeAt Go.RowKit
variable {H:Type} {enc:TypeId×Value→H} {P:Program} {W:World} {spare:Nat→Bool} {held:Bool}
theorem aeR{a:Addr}{n:Nat}{cs:List Value}(h:W.cells? 0 a n=some cs):cs.length=n∧∀j v,cs[j]? =some v→W.cell? (a.add j)=some v:=by
 simp only[World.cells?,Nat.zero_le,if_true]at h
 have key:∀(l:List Nat) (cs:List Value),l.mapM (fun i=>W.cell? (a.add i))=some cs→cs.length=l.length∧∀(j:Nat) (v:Value),cs[j]? =some v→∃i:Nat,l[j]? =some i∧W.cell? (a.add i)=some v:=by
  intro l
  induction l with
  |nil=>intro cs h;simp at h;subst h;exact⟨rfl,fun j v h=>by simp at h⟩
  |cons i l aY=>
   intro cs h;simp only[List.mapM_cons,Option.bind_eq_bind,Option.bind_eq_some_iff,Option.pure_def,Option.some.injEq]at h;obtain⟨u,hu,r,an,rfl⟩:=h;obtain⟨ab,ae⟩:=aY r an;refine⟨by simp[ab],fun j v au=> ?_⟩
   cases j with
   |zero=>simp at au;subst au;exact⟨i,rfl,hu⟩
   |succ j=>simpa using ae j v (by simpa using au)
 obtain⟨ab,ae⟩:=key _ _ h;refine⟨by simpa using ab,fun j v au=> ?_⟩;obtain⟨i,aj,aq⟩:=ae j v au;have av:j<n:=by have:=(List.getElem?_eq_some_iff.1 aj).1;simpa using this
 rw[List.getElem?_range av]at aj;cases aj;exact aq
theorem aeS{n:Nat}{α:Type}{E:kH n α}{I:aa}{ad:Option Addr}:∀(ca:List α) (fa:List (List Value)),fa.length=ca.length→(∀i (h:i<ca.length) (et:i<fa.length),E.R I ca[i] fa[i]∧Lg.At I ad (i*n) fa[i])→bd E I fa.flatten ca∧∀m,(∀i (et:i<fa.length),Lg.At I ad (m*n+i*n) fa[i])→∀j v,fa.flatten[j]? =some v→I.nw (ad.map (·.add (m*n+j)))=some v
  | [],fa,aA,h=>by have:fa= []:=List.eq_nil_of_length_eq_zero aA;subst this;exact⟨rfl,fun m _ j v au=>by simp at au⟩
  |a::ca,[],aA,h=>by simp at aA
  |a::ca,vs::fa,aA,h=>by
   have axu:fa.length=ca.length:=by simpa using aA
   have aB:=h 0 (by simp) (by simp);have aD:vs.length=n:=E.len aB.1;refine⟨⟨vs,fa.flatten,rfl,aB.1,?_⟩,?_⟩
   have key:∀(ca:List α) (fa:List (List Value)),fa.length=ca.length→(∀i (h:i<ca.length) (et:i<fa.length),E.R I ca[i] fa[i])→bd E I fa.flatten ca:=by
    intro ca
    induction ca with
    |nil=>intro fa aA _;have:fa= []:=List.eq_nil_of_length_eq_zero aA;subst this;rfl
    |cons a ca aY=>
     intro fa aA h;rcases fa with _|⟨vs,fa⟩
     simp at aA;exact⟨vs,fa.flatten,rfl,h 0 (by simp) (by simp),aY fa (by simpa using aA) fun i ab ae=>h (i+1) (by simpa using ab) (by simpa using ae)⟩
   exact key ca fa axu fun i ab ae=>(h (i+1) (by simpa using ab) (by simpa using ae)).1;intro m hm j v au
   have key:∀(fa:List (List Value)) (m:Nat),(∀vs∈fa,vs.length=n)→(∀i (et:i<fa.length),Lg.At I ad (m*n+i*n) fa[i])→∀j v,fa.flatten[j]? =some v→I.nw (ad.map (·.add (m*n+j)))=some v:=by
    intro fa
    induction fa with
    |nil=>intro m _ _ j v au;simp at au
    |cons vs fa aY=>intro m hlen hm j v au;rw[List.flatten_cons]at au;have FH:=hlen vs (List.mem_cons_self ..);by_cases q:j<vs.length;rw[List.getElem?_append_left q]at au;have:=hm 0 (by simp) j v au;simpa using this;rw[List.getElem?_append_right ah]at au;have:=aY (m+1) (fun ws hw=>hlen ws (List.mem_cons_of_mem _ hw)) (fun i et=>by have:=hm (i+1) (by simpa using et);rw[Nat.succ_mul]at this⊢;rw[show m*n+n+i*n=m*n+(i*n+n)by omega];simpa using this) (j-vs.length) v au;rw[Nat.succ_mul,show m*n+n+(j-vs.length)=m*n+j by omega]at this;exact this
   have hlen:∀ws∈vs::fa,ws.length=n:=by intro ws hw;obtain⟨i,aj,rfl⟩:=List.getElem_of_mem hw;exact E.len (h i (by rw[←aA];exact aj) aj).1
   exact key (vs::fa) m hlen hm j v au
theorem axv{n:Nat}{α:Type}{E:kH n α}{I:aa}{ad:Option Addr}{c:Nat}(ca:List α)(aq:ca.length≤c)(al:ca.length≤1954687338211)(h:∀i (h:i<ca.length),∃vs,E.R I ca[i] vs∧Lg.At I ad (i*n) vs):dK E I (.slice ad ca.length c) ca:=by
 have hex:∃fa:List (List Value),fa.length=ca.length∧∀i (h:i<ca.length) (et:i<fa.length),E.R I ca[i] fa[i]∧Lg.At I ad (i*n) fa[i]:=by
  classical
  refine⟨(List.range ca.length).map fun i=>if et:i<ca.length then(h i et).choose else[],by simp,fun i ab ae=> ?_⟩;rw[List.getElem_map,List.getElem_range,dif_pos ab];exact(h i ab).choose_spec
 obtain⟨fa,aA,ax⟩:=hex;obtain⟨ab,ae⟩:=aeS ca fa aA ax;refine⟨ad,c,fa.flatten,rfl,aq,al,fun j v au=> ?_,ab⟩;have:=ae 0 (fun i et=>by simpa using(ax i (by rw[←aA];exact et) et).2) j v au;simpa using this
structure Tv(P:Program)(w_ r7 lZ yy kQ iz:TypeId):Prop where
  lit:Tu P r7 lZ yy kQ iz
  sM:P.underlying w_=some (.slice r7)
  axw:P.bytesOf r7=72
theorem axx{w_ r7 lZ yy kQ iz:TypeId}(fY:Tv P w_ r7 lZ yy kQ iz){fuel:Nat}{cs:List Value}{x:DataW H×List MemPlace}(ab:DataW.trod enc P W 0 spare held fuel w_ cs=some x)(hw:(x.1.weights P w_).all (· ≤reachBytes)=true):∃(a:Option Addr) (k:Nat) (c:List ak),cs= [.slice a c.length k]∧cf (n2 W) (.slice a c.length k) c:=by
 rcases DataW.trod_slice fY.sM ab with⟨fl,_⟩|⟨a,len,cap,elems,rest,nJ,rfl,fl,aH,_,aA,hm,hlen,hc,JZ,_⟩
 exact⟨none,0,[],by simpa using fl,dK.nil⟩;obtain⟨ou,uZ⟩:=x;obtain⟨rfl,_⟩:=Prod.mk.inj aH;simp only[DataW.weights,fY.sM,fY.axw,List.all_cons,List.all_append,Bool.and_eq_true,decide_eq_true_eq]at hw;obtain⟨qO,EC,_⟩:=hw;have Io:=Tr EC;have tK:reachBytes=140737488351232:=rfl;simp only[List.length_map,hlen]at qO;have cE:∀i,i<len→∃y:ak,∃vs,fG.R (n2 W) y vs∧Lg.At (n2 W) (some a) (i*5) vs:=by intro i aj;have aw:=hc i aj;rw[fY.lit.aeN]at aw;have yx:elems[i]? =some elems[i]:=List.getElem?_eq_getElem ah;rw[yx,Option.bind_eq_some_iff]at aw;obtain⟨gu,Tw,gF⟩:=aw;obtain⟨_,sE⟩:=aeR Tw;obtain⟨y,la,ra,lc,rc,rfl,ab,ae⟩:=axq fY.lit gF (Io _ (List.mem_map.2 ⟨_,List.getElem_mem ah,rfl⟩));refine⟨y,_,⟨la,lc,ra,rc,rfl,ab,ae⟩,fun j v au=> ?_⟩;have:=sE j v au;rw[add_add]at this;exact this
 obtain⟨c,eR,c4⟩:=Im cE;subst eR;exact⟨some a,cap,c,by simpa using fl,axv c aA ah c4⟩
end
section
open Go Lg Go.ChangeShapes Go.WideShapes Go.ChangeAt Go.RowKit
variable {H:Type} {enc:TypeId×Value→H} {P:Program} {W:World} {spare:Nat→Bool} {held:Bool}
structure Tx(P:Program)(Ap kQ:TypeId)(n:Nat):Prop where
  str:∃dE:Array Field,P.underlying Ap=some (.struct dE)∧dE.size=n∧∀(i:Nat) (f:Field),dE[i]? =some f→f.type=kQ∧f.offset=i
  int:P.underlying kQ=some (.int .i64)
  axy:P.cellsOf Ap=n
  Tt:P.cellsOf kQ=1
theorem axz{Ap kQ:TypeId}{n:Nat}(fY:Tx P Ap kQ n){fuel:Nat}{cs:List Value}{x:DataW H×List MemPlace}(h:DataW.trod enc P W 0 spare held fuel Ap cs=some x):
 ∃aN:List Int,aN.length=n∧cs=aN.map (Value.int .i64):=by
 obtain⟨dE,ao,bD,a7⟩:=fY.str;obtain⟨xs,m,rfl,af,eR,iw,fJ⟩:=DataW.trod_struct ao h;rw[fY.axy]at eR
 have key:∀i,i<n→∃k:Int,cs[i]? =some (.int .i64 k):=by
  intro i aj;have oe:dE[i]? =some (dE[i]'(by omega)):=Array.getElem?_eq_getElem ah;obtain⟨ab,ae⟩:=a7 i _ oe;have q:=fJ i _ oe;rw[ab,ae,fY.Tt]at q;have axA:i<xs.length:=by rw[iw];omega
  rw[List.getElem?_eq_getElem axA]at q;obtain⟨k,hk,_⟩:=DataW.trod_int fY.int q;refine⟨k,?_⟩;have:=congrArg (fun l=>l[0]?) hk;simp only[List.getElem?_take,List.getElem?_drop]at this;simpa using this
 obtain⟨aN,aA,p2⟩:=Im key;refine⟨aN,aA,?_⟩;apply List.ext_getElem?;intro i;by_cases aj:i<n;rw[p2 i ah,List.getElem?_map,List.getElem?_eq_getElem ah];rfl;rw[List.getElem?_eq_none ah,List.getElem?_eq_none (by simp;omega)]
end
section
open Go Lg Go.ChangeShapes Go.WideShapes Go.ChangeAt Go.RowKit
variable {H:Type} {enc:TypeId×Value→H} {P:Program} {W:World} {spare:Nat→Bool} {held:Bool}
theorem aeT{Ty w_ r7 lZ yy kQ iz:TypeId}(fY:Tv P w_ r7 lZ yy kQ iz)(sM:P.underlying Ty=some (.slice w_))(eJ:P.bytesOf w_=24)(SV:P.cellsOf w_=1){v:Value}{d:DataW H}{cp:List MemPlace}(h:DataW.Trod enc P W 0 spare held Ty v d cp)(hw:(d.weights P Ty).all (· ≤reachBytes)=true)(ax:∃a l c,v=.slice a l c):
 ∃ls,yw (n2 W) v ls:=by
 obtain⟨a0,DP,Tz,rfl⟩:=ax;obtain⟨fuel,ab⟩:=h;rcases DataW.trod_slice sM ab with⟨fl,_⟩|⟨a,len,cap,elems,rest,nJ,rfl,fl,aH,_,aA,hm,hlen,hc,JZ,_⟩
 simp[Value.cells]at fl;obtain⟨rfl,rfl,rfl⟩:=fl;exact⟨[],none,0,[],rfl,Nat.le_refl _,Nat.zero_le _,fun j v au=>by simp at au,bd.nil⟩;simp[Value.cells]at fl;obtain⟨rfl,rfl,rfl⟩:=fl;obtain⟨rfl,_⟩:=Prod.mk.inj aH;simp only[DataW.weights,sM,eJ,List.all_cons,List.all_append,Bool.and_eq_true,decide_eq_true_eq]at hw;obtain⟨qO,EC,_⟩:=hw;have Io:=Tr EC;have tK:reachBytes=140737488351232:=rfl;simp only[List.length_map,hlen]at qO;have cE:∀i,i<DP→∃y:List ak,∃vs,jT.R (n2 W) y vs∧Lg.At (n2 W) (some a) (i*1) vs:=by intro i aj;have aw:=hc i aj;rw[SV]at aw;have yx:elems[i]? =some elems[i]:=List.getElem?_eq_getElem ah;rw[yx,Option.bind_eq_some_iff]at aw;obtain⟨gu,Tw,gF⟩:=aw;obtain⟨_,sE⟩:=aeR Tw;obtain⟨e3,axB,bP,rfl,an⟩:=axx fY gF (Io _ (List.mem_map.2 ⟨_,List.getElem_mem ah,rfl⟩));refine⟨bP,_,⟨e3,axB,rfl,an⟩,fun j v au=> ?_⟩;have:=sE j v au;rw[add_add]at this;exact this
 obtain⟨ls,eR,c4⟩:=Im cE;subst eR
 obtain⟨fa,fw,Jp⟩:∃fa:List (List Value),fa.length=ls.length∧∀i (h:i<ls.length) (et:i<fa.length),jT.R (n2 W) ls[i] fa[i]∧Lg.At (n2 W) (some a) (i*1) fa[i]:=by
  classical
  refine⟨(List.range ls.length).map fun i=>if et:i<ls.length then(c4 i et).choose else[],by simp,fun i ab ae=> ?_⟩;rw[List.getElem_map,List.getElem_range,dif_pos ab];exact(c4 i ab).choose_spec
 obtain⟨nA,pq⟩:=aeS ls fa fw Jp;refine⟨ls,some a,Tz,fa.flatten,rfl,aA,by omega,fun j v au=> ?_,nA⟩;have:=pq 0 (fun i et=>by simpa using(Jp i (by rw[←fw];exact et) et).2) j v au;simpa using this
theorem aeU{Ap kQ:TypeId}(fY:Tx P Ap kQ 7){v:Value}{d:DataW H}{cp:List MemPlace}(h:DataW.Trod enc P W 0 spare held Ap v d cp)(ax:∃cs,v=.agg cs):∃s:yl,v=.agg #[.int .i64 s.kn,.int .i64 s.fwd,.int .i64 s.kM,.int .i64 s.wt,.int .i64 s.how,.int .i64 s.ln,.int .i64 s.rounds]:=by
 obtain⟨cs,rfl⟩:=ax;obtain⟨fuel,ab⟩:=h;obtain⟨aN,aA,aq⟩:=axz fY ab
 obtain⟨a,b,c,d,e,f,g,rfl⟩:∃a b c d e f g,aN= [a,b,c,d,e,f,g]:=by
  rcases aN with _|⟨a,_|⟨b,_|⟨c,_|⟨d,_|⟨e,_|⟨f,_|⟨g,_|⟨_,_⟩⟩⟩⟩⟩⟩⟩⟩<;>simp at aA
  exact⟨a,b,c,d,e,f,g,rfl⟩
 refine⟨⟨a,b,c,d,e,f,g⟩,?_⟩;have:cs.toList= [.int .i64 a,.int .i64 b,.int .i64 c,.int .i64 d,.int .i64 e,.int .i64 f,.int .i64 g]:=by simpa[Value.cells]using aq
 cases cs;simp at this;subst this;rfl
end
section
open Go Lg Go.ChangeShapes Go.WideShapes Go.ChangeAt Go.RowKit
variable {H:Type} {enc:TypeId×Value→H} {P:Program} {W:World} {spare:Nat→Bool} {held:Bool}
theorem axC{a:Addr}{n:Nat}{cs:List Value}(h:W.cells? 0 a n=some cs):cs.length=n∧∀j v,cs[j]? =some v→W.cell? (a.add j)=some v:=by
 simp only[World.cells?,Nat.zero_le,if_true]at h
 have key:∀(l:List Nat) (cs:List Value),l.mapM (fun i=>W.cell? (a.add i))=some cs→cs.length=l.length∧∀(j:Nat) (v:Value),cs[j]? =some v→∃i:Nat,l[j]? =some i∧W.cell? (a.add i)=some v:=by
  intro l
  induction l with
  |nil=>intro cs h;simp at h;subst h;exact⟨rfl,fun j v h=>by simp at h⟩
  |cons i l aY=>
   intro cs h;simp only[List.mapM_cons,Option.bind_eq_bind,Option.bind_eq_some_iff,Option.pure_def,Option.some.injEq]at h;obtain⟨u,hu,r,an,rfl⟩:=h;obtain⟨ab,ae⟩:=aY r an;refine⟨by simp[ab],fun j v au=> ?_⟩
   cases j with
   |zero=>simp at au;subst au;exact⟨i,rfl,hu⟩
   |succ j=>simpa using ae j v (by simpa using au)
 obtain⟨ab,ae⟩:=key _ _ h;refine⟨by simpa using ab,fun j v au=> ?_⟩;obtain⟨i,aj,aq⟩:=ae j v au;have av:j<n:=by have:=(List.getElem?_eq_some_iff.1 aj).1;simpa using this
 rw[List.getElem?_range av]at aj;cases aj;exact aq
structure TA(P:Program)(r6 yz ts nb iz:TypeId):Prop where
  ty:Jr P yz ts nb iz
  sM:P.underlying r6=some (.slice yz)
  aeV:P.cellsOf yz=4
  cs:P.cellsOf ts=1
  ci:P.cellsOf nb=1
  ga:P.cellsOf iz=1
  axD:P.bytesOf yz=40
theorem axE{r6 yz ts nb iz:TypeId}(fY:TA P r6 yz ts nb iz){fuel:Nat}{cs:List Value}{x:DataW H×List MemPlace}(h:DataW.trod enc P W 0 spare held fuel yz cs=some x):∃s:aE,cs=s.cs∧s.ok:=by
 obtain⟨f0,f1,f2,f3,ao,⟨aQ,aT,dA⟩,⟨du,dy,gv⟩,⟨ab,ae,aF⟩,c8,b6,hs⟩:=fY.ty.str;obtain⟨xs,n,rfl,af,eR,iw,fJ⟩:=DataW.trod_struct ao h;rw[fY.aeV]at eR
 obtain⟨a,b,c,d,rfl⟩:∃a b c d,cs= [a,b,c,d]:=by
  rcases cs with _|⟨a,_|⟨b,_|⟨c,_|⟨d,_|⟨_,_⟩⟩⟩⟩⟩<;>simp at eR
  exact⟨a,b,c,d,rfl⟩
 have x6:=fJ 0 f0 rfl;have dj:=fJ 1 f1 rfl;have cY:=fJ 2 f2 rfl;have l7:=fJ 3 f3 rfl;have aBx:xs.length=4:=iw;rw[List.getElem?_eq_getElem ah,aQ,aT,fY.cs]at x6;rw[List.getElem?_eq_getElem ah,du,dy,fY.ci]at dj;rw[List.getElem?_eq_getElem ah,ab,ae,fY.ci]at cY;rw[List.getElem?_eq_getElem ah,c8,b6,fY.ga]at l7;obtain⟨kZ,z0,_,aG⟩:=DataW.trod_string fY.ty.us x6;obtain⟨s1,eM,_,hp⟩:=DataW.trod_int fY.ty.Fu dj;obtain⟨s2,dz,_,r8⟩:=DataW.trod_int fY.ty.Fu cY;obtain⟨mK,z3,_⟩:=DataW.trod_bool fY.ty.Fv l7;simp at z0 eM dz z3;subst z0;subst eM;subst dz;subst z3;exact⟨⟨kZ,s1,s2,mK⟩,rfl,ML hp,ML r8,aG⟩
theorem axF{r6 yz ts nb iz:TypeId}(fY:TA P r6 yz ts nb iz){v:Value}{d:DataW H}{cp:List MemPlace}(h:DataW.Trod enc P W 0 spare held r6 v d cp)(hw:(d.weights P r6).all (· ≤reachBytes)=true)(ax:∃a len cap,v=.slice a len cap):∃gs,cP (n2 W) v gs:=by
 obtain⟨a0,DP,Tz,rfl⟩:=ax;obtain⟨fuel,ab⟩:=h;rcases DataW.trod_slice fY.sM ab with⟨fl,_⟩|⟨a,len,cap,elems,rest,nJ,rfl,fl,aH,_,aA,hm,hlen,hc,JZ,_⟩
 simp[Value.cells]at fl;obtain⟨rfl,rfl,rfl⟩:=fl;exact⟨[],none,0,[],Nat.le_refl _,by simp,fun i aj=>by simp at aj,fun s ao=>by cases ao⟩;simp[Value.cells]at fl;obtain⟨rfl,rfl,rfl⟩:=fl;obtain⟨rfl,_⟩:=Prod.mk.inj aH;simp only[DataW.weights,fY.sM,fY.axD,List.all_cons,List.all_append,Bool.and_eq_true,decide_eq_true_eq]at hw;obtain⟨qO,EC,_⟩:=hw;have tK:reachBytes=140737488351232:=rfl;simp only[List.length_map,hlen]at qO;have cE:∀i,i<DP→∃s:aE,Lg.At (n2 W) (some a) (i*4) s.cs∧s.ok:=by intro i aj;have aw:=hc i aj;rw[fY.aeV]at aw;have yx:elems[i]? =some elems[i]:=List.getElem?_eq_getElem ah;rw[yx,Option.bind_eq_some_iff]at aw;obtain⟨cs,fl,gF⟩:=aw;obtain⟨_,sE⟩:=axC fl;obtain⟨s,rfl,cn⟩:=axE fY gF;refine⟨s,fun j v au=> ?_,cn⟩;have:=sE j v au;rw[add_add]at this;exact this
 obtain⟨gs,ez,aeW⟩:=Im cE;subst ez;exact⟨gs,some a,Tz,gs,aA,by omega,fun i aj=>(aeW i aj).1,fun s ao=>by obtain⟨i,aj,rfl⟩:=List.getElem_of_mem ao;exact(aeW i aj).2⟩
end
section
open Go Lg Go.ChangeShapes Go.WideShapes Go.ChangeAt Go.RowKit
variable {H:Type} {enc:TypeId×Value→H} {P:Program} {W:World} {spare:Nat→Bool} {held:Bool}
end
end Go.Proofs.YtciibkomnoicdaaGreat
