/- Own texts: a small program logic, plain facts, walks through the program's functions. No condition. -/
import Derived.Test.YtciibkomnoicdaaGreatZ15
set_option maxRecDepth 10000
set_option maxHeartbeats 4000000
set_option linter.unusedVariables false
set_option linter.unusedSimpArgs false
set_option linter.unnecessarySimpa false
set_option linter.unusedSectionVars false
namespace Go.Proofs.YtciibkomnoicdaaGreat
open Go Lg Tryz
section
attribute [local irreducible] aK bf bJ
def HR:kH 1 Value where
  R:=fun _ v vs=>vs= [v]∧v.oneCell'=true
  len:=by rintro I a vs ⟨rfl,_⟩;rfl
  one:=by rintro I a vs ⟨rfl,h⟩ u hu;rw[List.mem_singleton]at hu;subst hu;exact h
  mono:=by rintro I J a vs aA h;exact h
abbrev Ae(f:FuncId)(b:Nat):Value:=.func (.func f) #[.pointer (some ⟨b,0,none⟩)] #[]
abbrev HS(b:Nat):List Value:= [Ae 117 b,Ae 118 b,Ae 119 b,Ae 120 b]
theorem atP{I:aa}{b:Nat}{vg:Value}{A:Option Addr}{k:Nat}{used:List Int}{gs:List aE}{rows:List (List ak)}{d:List ak}{cU ra:Option Addr}{c6 rc:Nat}(aM:cP I vg gs)(an:dK jT I (.slice ra rows.length rc) rows)(aH:cf I (.slice cU d.length c6) d)(km:bS gs d=0)(hu:rX rows used)(hB:∀R∈rows,bS gs R=0)(ht:rows.length≤100000){f:Value}(a7:f∈HS b):
 cR Tryz.prog f [] I (rW b vg (.slice ra rows.length rc) (.slice cU d.length c6) A k used 0 (-1) 0) (HQ gs rows b vg (.slice ra rows.length rc) d used):=by
 rcases List.mem_cons.1 a7 with rfl|a7
 exact cR.A8 (firsts:= [_]) (by kernel_rfl) (atI aH km hu);rcases List.mem_cons.1 a7 with rfl|a7
 exact cR.A8 (firsts:= [_]) (by kernel_rfl) (atJ aM an aH km hu hB ht);rcases List.mem_cons.1 a7 with rfl|a7
 exact cR.A8 (firsts:= [_]) (by kernel_rfl) (atL an aH km hu hB ht);rcases List.mem_cons.1 a7 with rfl|a7
 exact cR.A8 (firsts:= [_]) (by kernel_rfl) (atO an aH km hu hB ht);cases a7
theorem atQ{I:aa}(b:Nat):bd HR I (HS b) (HS b):=
  (bd.single (E:=HR) (I:=I) (a:=Ae 117 b) ⟨rfl,rfl⟩).app ((bd.single (E:=HR) (I:=I) (a:=Ae 118 b) ⟨rfl,rfl⟩).app ((bd.single (E:=HR) (I:=I) (a:=Ae 119 b) ⟨rfl,rfl⟩).app (bd.single (E:=HR) (I:=I) (a:=Ae 120 b) ⟨rfl,rfl⟩)))
def Cf(rows:List (List ak))(d:List ak)(gone ho:Int):Prop:=(gone=0∧ho= -1)∨(gone=1∧ho= -1∧zq d=true)∨(gone=2∧∃(j:Nat) (h:j<rows.length),ho=j∧Sub rows[j] d)
def atS(gs:List aE)(rows:List (List ak))(c:List ak)(I:aa)(v:Value):Prop:=∃dD yi gone ho e,v=.tuple #[.agg #[dD,yi,.int .i64 gone,.int .i64 ho],.int .i64 e]∧∃(n:List ak) (used:List Int),cf I dD n∧bY I yi used∧(e=0→∃d,n=eh d∧ll gs rows c d∧(bE d).any c5=false∧rX rows used∧Cf rows d gone ho)
theorem yj{gs:List aE}{d:List ak}(h:bS gs d=0):(bE d).any c5=false:=by
 rw[List.any_eq_false];intro t ar;obtain⟨x,af,ae⟩:=List.mem_flatMap.1 ar;obtain⟨ij,gx⟩:=ld (gP h x af);simp only[List.mem_cons,List.not_mem_nil,or_false]at ae;rcases ae with rfl|rfl
 simp[c5,ij.cw];simp[c5,gx.cw]
theorem Sd{gs:List aE}{I:aa}{v:Value}{d:List ak}(hk:bS gs d=0)(h:((bE d).any c5=true∧v=.tuple #[.slice none 0 0,.int .i64 1])∨((bE d).any c5=false∧∃a k,v=.tuple #[.slice a d.length k,.int .i64 0]∧cf I (.slice a d.length k) (eh d))):∃a k,v=.tuple #[.slice a d.length k,.int .i64 0]∧cf I (.slice a d.length k) (eh d):=by
 rcases h with⟨al,_⟩|⟨_,h⟩
 rw[yj hk]at al;cases al;exact h
theorem Se{I:aa}{vg jU bB:Value}{gs:List aE}{rows:List (List ak)}{c:List ak}(aM:cP I vg gs)(an:dK jT I jU rows)(aq:cf I bB c)(cH:bS gs c=0)(hB:∀R∈rows,bS gs R=0)(ht:rows.length≤100000):
 aS Tryz.prog 84 [vg,jU,bB] I [] (fun v ai δ'=>atS gs rows c ai v∧δ'= []):=by
 obtain⟨cQ,gc,rfl⟩:=aM.shape;obtain⟨ra,rc,bM⟩:=an.shape;subst bM;obtain⟨bH,bZ,bM⟩:=aq.shape;subst bM;refine a1 func84 ntmps84 fun aG=> ?_;refine go2 ?_;refine bh fun c1=> ?_;refine aR ?_;refine Wh ?_;refine a8 ?_;refine a6 rfl (acs (an.mono aa.ag)) ?_;rintro yd oy _ qw ⟨A,k,xs,rfl,bm,rfl⟩;refine aX ?_;refine c_ fun azQ=> ?_;have vW:∀u∈xs++ [.slice bH c.length bZ],u.oneCell'=true:=fun u hu=>(List.mem_append.1 hu).elim (bm.kd u) (fun h=>by rw[List.mem_singleton]at h;subst h;rfl);refine a6 rfl (acv ah bm.acu rfl vW) ?_;rintro u7 u9 _ rz ⟨iY,dT,rfl,rfl⟩;refine aK.dO aO.here ?_;rintro mR atw atx sx aC aty atz Sa;cases aC;have hg:bd jT mR _ (c::rows):=(bd.single (show jT.R mR c _ from⟨bH,bZ,rfl,aq.mono aa.ag⟩)).app (bm.mono aa.ag);have hlen:rows.length+1=(c::rows).length:=rfl;have Sb:∀R∈c::rows,bS gs R=0:=fun R bL=>by rcases List.mem_cons.1 bL with rfl|bL;exact cH;exact hB R bL
 rw[hlen];refine a_ ?_;refine fD (fun m aL ai δ'=>∃(i:Nat),m=(c::rows).length-i∧aL= [(0,.slice cQ gs.length gc),(1,.slice ra rows.length rc),(2,.slice bH c.length bZ),(6,.pointer (some ⟨c1,0,none⟩)),(7,.int .i64 0),(21,.slice iY (c::rows).length dT),(22,.int .i64 (c::rows).length),(23,.int .i64 i)]∧mR.le ai∧δ'= [.box c1 143 [.slice none 0 0,.slice none 0 0,.int .i64 0,.int .i64 0]]∧i≤(c::rows).length) ⟨0,rfl,rfl,aa.ag,rfl,Nat.zero_le _⟩ ⟨rfl,rfl,rfl,rfl,rfl,rfl,rfl,rfl,trivial⟩ ?_;rintro m _ e6 _ ⟨i,rfl,rfl,fz,rfl,aj⟩;refine aZ ?_;refine bF rfl (fun aV=> ?_) (fun aV=> ?_);have av:i<(c::rows).length:=by have:=of_decide_eq_true aV;omega
 obtain⟨oQ,⟨g7,kh,rfl,bL⟩,eN⟩:=hg.fj Sa av;have db:=eN.isSome;have Cc:=Sb _ (List.getElem_mem av);generalize (c::rows)[i]=R at bL eN Cc;refine aP ?_;refine aI (cC (eN.mono aa.ag)) ?_;refine aP ?_;refine a6 rfl (rJ (aM.mono aa.ag) (bL.mono aa.ag) (ef.cw Cc).jx) ?_;rintro v29 tt _ px ⟨rfl,rfl⟩;rw[Cc];refine fx ?_;refine ec ⟨i+1,rfl,rfl,aa.ag,rfl,av⟩ ⟨rfl,rfl,rfl,rfl,rfl,rfl,rfl,rfl,trivial⟩;refine b_ ?_;refine a6 rfl (Gi (aq.mono aa.ag) (ef.cw cH).jx) ?_;rintro qU oK _ nq ⟨wA,rfl⟩;obtain⟨gC,gD,bM⟩:=wA.shape;subst bM;refine aI (hq (v:=.agg #[.slice cQ gs.length gc,.slice ra rows.length rc,.slice gC (eH c).length gD,.slice none 0 0,.int .i64 0,.int .i64 (-1),.int .i64 0]) rfl (fun _=>by kernel_rfl)) ?_;refine bw fun Cg=> ?_;refine cT ?_;refine c_ fun LO=> ?_;refine aK.dO aO.here ?_;rintro F7 asZ as0 J4 aC ach as1 R2;cases aC;refine a8 ?_;refine TE ?_;refine aR ?_;refine bJ.view (View.gh 3 1) ?_;refine Uz (InvImage.wf (fun p:List ak×Unit=>bC (aU gs) (fun _=>.mk 0 []) p.1) (Yv (pO gs))) (fun m aL ai δ'=>∃(d:List ak) (cU:Option Addr) (c6:Nat) (A:Option Addr) (k:Nat) (used:List Int),m=(d,())∧aL= [(6,.pointer (some ⟨c1,0,none⟩)),(7,.int .i64 0),(11,.pointer (some ⟨Cg,0,none⟩)),(12,.slice (some ⟨LO,0,none⟩) 4 4)]∧F7.le ai∧δ'=.box c1 143 [.slice none 0 0,.slice none 0 0,.int .i64 0,.int .i64 0]::rW Cg (.slice cQ gs.length gc) (.slice ra rows.length rc) (.slice cU d.length c6) A k used 0 (-1) 0∧cf ai (.slice cU d.length c6) d∧ll gs rows c d∧rX rows used) ⟨eH c,gC,gD,none,0,[],rfl,rfl,aa.ag,rfl,wA.mono aa.ag,.tidy cH,⟨fun _ h=>(by cases h),List.nodup_nil⟩⟩ ⟨rfl,rfl,rfl,rfl,trivial⟩ ?_;rintro m _ z2 _ ⟨d,cU,c6,A,k,used,rfl,rfl,B3,rfl,aH,iK,hu⟩;refine b_ ?_;refine fD (fun m aL ai δ'=>∃(q:Nat) (cU:Option Addr) (c6:Nat) (A:Option Addr) (k:Nat),m=4-q∧aL= [(6,.pointer (some ⟨c1,0,none⟩)),(7,.int .i64 0),(11,.pointer (some ⟨Cg,0,none⟩)),(12,.slice (some ⟨LO,0,none⟩) 4 4),(50,.slice (some ⟨LO,0,none⟩) 4 4),(51,.int .i64 ((4:Nat):Int)),(52,.int .i64 q)]∧z2.le ai∧δ'=.box c1 143 [.slice none 0 0,.slice none 0 0,.int .i64 0,.int .i64 0]::rW Cg (.slice cQ gs.length gc) (.slice ra rows.length rc) (.slice cU d.length c6) A k used 0 (-1) 0∧q≤4∧cf ai (.slice cU d.length c6) d) ⟨0,cU,c6,A,k,rfl,rfl,aa.ag,rfl,Nat.zero_le _,aH⟩ ⟨rfl,rfl,rfl,rfl,rfl,rfl,rfl,trivial⟩ ?_;rintro m _ Po _ ⟨q,cU,c6,A,k,rfl,rfl,ath,rfl,azR,aH⟩;refine aZ ?_;refine bF rfl (fun c4=> ?_) (fun c4=> ?_);have av:q<(HS Cg).length:=by have:=of_decide_eq_true c4;show q<4;omega
 have atT:q<4:=av;obtain⟨oQ,⟨rfl,_⟩,Sf⟩:=(atQ (I:=F7) Cg).fj R2 av;have db:=Sf.isSome;have zX:=List.getElem_mem av;generalize (HS Cg)[q]=f at Sf zX;refine aP ?_;refine aI (cC (Sf.mono aa.ag)) ?_;refine aZ ?_;refine e8 rfl rfl rfl ((atP (used:=used) (A:=A) (k:=k) (aM.mono aa.ag) (an.mono aa.ag) (aH.mono aa.ag) iK.1 hu hB ht zX)) js ?_;rintro v57 DJ _ DK ⟨n,hF,L4,L5,c7,cB,iJ,oY,oZ,o0,rfl,Sg,n3,g4,rfl⟩;refine a_ ?_;by_cases K5:n=1;obtain⟨l5,BQ,rfl,rfl,rfl⟩:ll gs rows d hF∧mw gs d hF∧oY=0∧oZ= -1∧o0=0:=by rcases Sg with⟨h,_⟩|⟨_,h⟩|⟨h,_⟩;omega;exact h;omega
 refine aZ ?_;refine vS rfl ?_;refine vS rfl ?_;refine go2 ?_;refine vS rfl ?_;refine go2 ?_;refine I5 (show InvImage (fun a b=>nS (aU gs) b a) (fun p:List ak×Unit=>bC (aU gs) (fun _=>.mk 0 []) p.1) (hF,()) (d,())from BQ (fun _=>.mk 0 [])) ⟨hF,L4,L5,c7,cB,iJ,rfl,rfl,aa.ag,rfl,n3,iK.trans l5,g4⟩ ⟨rfl,rfl,rfl,rfl,trivial⟩;refine aP ?_;by_cases R4:n=2;obtain⟨As,acB,mo⟩:hF=d∧iJ=used∧((o0≠0∧oY=0∧oZ= -1)∨(o0=0∧oY=1∧oZ= -1∧zq d=true)∨(o0=0∧oY=2∧∃(j:Nat) (h:j<rows.length),oZ=j∧Sub rows[j] d)):=by rcases Sg with⟨h,_⟩|⟨h,_⟩|⟨_,h⟩;omega;omega;exact h
 rw[←As]at mo iK;have Sc:=g4.len;refine aZ ?_;refine vS rfl ?_;refine vS rfl ?_;refine go2 ?_;refine vS rfl ?_;refine aX ?_;refine vS rfl ?_;refine b_ ?_;by_cases D_:o0≠0;refine a_ ?_;refine g5 [0,2,4,6,8,11,13] ?_;refine dg rfl (hq (v:=.agg #[.slice none 0 0,.slice none 0 0,.int .i64 0,.int .i64 0]) rfl (fun _=>by kernel_rfl)) ?_;refine bA ?_;refine dB ?_;refine a8 ?_;refine JH (by intro l h;cases h) ?_;exact hd (rs:= [.cell 6 143,.tmp 7]) rfl (.cons (.cell rfl Ja cW rfl) (.cons (.tmp rfl) .nil)) (⟨⟨_,_,0,0,o0,rfl,[],[],dK.nil,bY.nil _,fun h=>absurd h D_⟩,rfl⟩);have zv:o0=0:=Classical.not_not.1 D_;subst zv
 have Kk:Cf rows hF oY oZ:=by
  rcases mo with⟨h,_⟩|⟨_,ab,ae,aF⟩|⟨_,h⟩
  exact absurd rfl h;exact .inr (.inl ⟨ab,ae,aF⟩);exact .inr (.inr h)
 refine bW ?_;refine a6 rfl (Gq (n3.mono aa.ag) (ef.cw iK.1).zT) ?_;rintro HT Eg _ HU ⟨Sh,rfl⟩;obtain⟨Si,Sj,rfl,Sk⟩:=Sd iK.1 Sh;refine iR ?_;refine bJ.yV (by repeat (first|exact aO.here|apply aO.there)) ?_;rintro nm a22 J8 rH aC Sl acn HM;cases aC;refine g5 [0,2,4,6,8,10,12,14,16,18,20,22,24,26,29,31] ?_;refine cT ?_;refine dg rfl (hq (v:=.agg #[.slice Si hF.length Sj,.slice c7 iJ.length cB,.int .i64 oY,.int .i64 oZ]) rfl (fun _=>by kernel_rfl)) ?_;refine aR ?_;refine fU ?_;refine aR ?_;refine dB ?_;refine aR ?_;refine JH (by intro l h;cases h) ?_;exact hd (rs:= [.cell 6 143,.tmp 7]) rfl (.cons (.cell rfl Ja cW rfl) (.cons (.tmp rfl) .nil)) (⟨⟨_,_,oY,oZ,0,rfl,eh hF,iJ,Sk.mono aa.ag,bY.of rfl Sl ah HM (fun x af=>by have:=g4.1 x af;exact⟨by omega,by omega⟩),fun _=>⟨hF,rfl,iK,yj iK.1,g4,Kk⟩⟩,rfl⟩);obtain⟨As,acB,rfl,rfl,rfl⟩:hF=d∧iJ=used∧oY=0∧oZ= -1∧o0=0:=by rcases Sg with⟨_,h⟩|⟨h,_⟩|⟨h,_⟩;exact h;omega;omega
 subst As;subst acB;refine cT ?_;refine ec ⟨q+1,L4,L5,c7,cB,rfl,rfl,aa.ag,rfl,atT,n3⟩ ⟨rfl,rfl,rfl,rfl,rfl,rfl,rfl,trivial⟩;refine aZ ?_;refine vS rfl ?_;refine AT ?_;refine a6 rfl (Gq (aH.mono aa.ag) (ef.cw iK.1).zT) ?_;rintro HT Eg _ HU ⟨Sh,rfl⟩;obtain⟨Si,Sj,rfl,Sk⟩:=Sd iK.1 Sh;have jq:=hu.len;refine iR ?_;refine bJ.yV (by repeat (first|exact aO.here|apply aO.there)) ?_;rintro nm a22 J8 rH aC Sl acn HM;cases aC;refine g5 [0,2,4,6,8,10,12,14,16,18,20,22,24,26,29,31] ?_;refine cT ?_;refine dg rfl (hq (v:=.agg #[.slice Si d.length Sj,.slice A used.length k,.int .i64 0,.int .i64 (-1)]) rfl (fun _=>by kernel_rfl)) ?_;refine aR ?_;refine fU ?_;refine aR ?_;refine dB ?_;refine aR ?_;refine JH (by intro l h;cases h) ?_;exact hd (rs:= [.cell 6 143,.tmp 7]) rfl (.cons (.cell rfl Ja cW rfl) (.cons (.tmp rfl) .nil)) (⟨⟨_,_,0,-1,0,rfl,eh d,used,Sk.mono aa.ag,bY.of rfl Sl ah HM (fun x af=>by have:=hu.1 x af;exact⟨by omega,by omega⟩),fun _=>⟨d,rfl,iK,yj iK.1,hu,.inl ⟨rfl,rfl⟩⟩⟩,rfl⟩)
abbrev Ch(A:Option Addr)(c L:Nat)(aN:List Int):ay:=.row (.slice A L c) 3 1 L (aN.map (Value.int .i64))
def uz(L:Nat)(M:Int)(aN:List Int):Prop:=aN.length=L∧∀x∈aN,0≤x∧x≤M
theorem uz.up{L:Nat}{M N:Int}{aN:List Int}(h:uz L M aN)(azS:M≤N):uz L N aN:=⟨h.1,fun x af=>by have:=h.2 x af;omega⟩
theorem uz.set{L:Nat}{M:Int}{aN:List Int}{i:Nat}(h:uz L M aN)(aj:i<aN.length):uz L (M+1) (aN.set i (aN[i]+1)):=⟨by rw[List.length_set];exact h.1,fun x af=>by
 rcases List.mem_or_eq_of_mem_set af with af|rfl
 have:=h.2 x af;omega;have:=h.2 _ (List.getElem_mem aj);omega⟩
theorem Sm{aN:List Int}{i:Nat}(aj:i<aN.length)(v:Int):Lg.cS (aN.map (Value.int .i64)) (i*1) [.int .i64 v]=some ((aN.set i v).map (Value.int .i64)):=by
 rw[Nat.mul_one,List.map_set];exact Da (x:=.int .i64 aN[i]) (by simp[aj])
theorem atU(ts:List T)(k:Nat)(h:k<ts.length):bG (ts.take (k+1))=bG (ts.take k)+ts[k].size:=by
 rw[List.take_succ_eq_append_getElem h,ot];simp[bG]
theorem acC{gs:List aE}{A:Option Addr}{c L k:Nat}(ez:gs.length≤100000)(eu:L=2+2*gs.length)(hk:k≤1):∀(n:Nat) (t:T),t.size≤n→t.size≤100000→b9 gs t→∀(I:aa) (v:Value) (aN:List Int) (M:Int),ba I v t→uz L M aN→0≤M→M+t.size≤1000000000→
 aS Tryz.prog 164 [.slice A L c,v,.int .i64 k] I [Ch A c L aN] (fun v _ δ'=>∃acD,v=.tuple #[]∧uz L (M+t.size) acD∧δ'= [Ch A c L acD]):=by
 intro n
 induction n with
 |zero=>intro t h;have:=t.size_pos;omega
 |succ n aY=>
  intro t aD iP mS I v aN M ax p2 azT cc;have bD:=wv t;have J0:=mS.ze (true,t) (by rw[gU];exact List.mem_cons_self ..);simp only at J0;have hlen:=p2.1;obtain⟨a0,bu,rfl,ib⟩:=ax.shape;obtain⟨_,_,_,aV,qB,bj,aW,bT⟩:=ax.open;refine a1 func164 ntmps164 fun aG=> ?_;refine go2 ?_;refine bw fun b4=> ?_;refine go2 ?_;refine mG (fun aL ai δ'=>∃(qY:List Int),aL= [(0,.slice A L c),(2,.int .i64 k),(4,.pointer (some ⟨b4,0,none⟩))]∧I=ai∧δ'=.box b4 41 [.int .i64 t.head,.slice a0 t.args.length bu]:: [Ch A c L qY]∧uz L (M+1) qY) ?_ ?_;refine aP ?_;refine bF rfl (fun aV=> ?_) (fun aV=> ?_);have aB:0≤t.head:=by simpa using aV
  obtain⟨i,aj⟩:∃i:Nat,2+2*t.head+(k:Int)=i:=⟨(2+2*t.head+(k:Int)).toNat,by omega⟩
  have av:i<aN.length:=by omega
  have qS:=p2.2 _ (List.getElem_mem av);refine a8 ?_;refine aI (yC rfl rfl rfl ah) ?_;refine go2 ?_;refine aI (tg (c:=(i:Int)) rfl rfl ah ah) ?_;refine aK.gK (Has.there Has.here) ah (fun bo eV=> ?_);refine aX ?_;refine aI (gH l8 rfl (Has.there Has.here) bo (u1 (x:=.int .i64 aN[i]) (by simp[av]))) ?_;refine go2 ?_;refine nC (xs':=(aN.set i (aN[i]+1)).map (Value.int .i64)) l8 rfl rfl bo rfl rfl rfl (by simp[c9]) (bc.there bc.here) (Sm av _) ?_;refine aX ?_;refine fS ⟨aN.set i (aN[i]+1),rfl,rfl,rfl,p2.set av⟩ ⟨rfl,rfl,rfl,trivial⟩;refine aX ?_;refine fS ⟨aN,rfl,rfl,rfl,p2.up ah⟩ ⟨rfl,rfl,rfl,trivial⟩;rintro _ _ _ ⟨qY,rfl,rfl,rfl,HV⟩;refine br ?_;refine fD (fun m aL ai δ'=>∃(j:Nat) (qY:List Int),m=t.args.length-j∧aL= [(0,.slice A L c),(2,.int .i64 k),(4,.pointer (some ⟨b4,0,none⟩)),(23,.slice a0 t.args.length bu),(24,.int .i64 t.args.length),(25,.int .i64 j)]∧I.le ai∧δ'=.box b4 41 [.int .i64 t.head,.slice a0 t.args.length bu]:: [Ch A c L qY]∧j≤t.args.length∧uz L (M+1+bG (t.args.take j)) qY) ⟨0,qY,rfl,rfl,aa.ag,rfl,Nat.zero_le _,HV.up ah⟩ ⟨rfl,rfl,rfl,rfl,rfl,rfl,trivial⟩ ?_;rintro m _ e6 _ ⟨j,qY,rfl,rfl,fz,rfl,au,HV⟩;refine aZ ?_;refine bF rfl (fun bq=> ?_) (fun bq=> ?_);have jS:j<t.args.length:=by have:=of_decide_eq_true bq;omega
  have db:=(aW j jS).isSome;have hm:=pt t.args j jS;have zf:=(mS.child j jS).1;have azU:=atU t.args j jS;have hle:bG (t.args.take (j+1))≤bG t.args:=by have:=ot (t.args.take (j+1)) (t.args.drop (j+1));rw[List.take_append_drop]at this;omega
  refine aP ?_;refine aI (cC ((aW j jS).mono aa.ag)) ?_;refine bh fun dp=> ?_;refine aP ?_;refine a6 rfl (aY t.args[j] ah ah zf _ _ qY _ ((bT j jS).mono aa.ag) HV ah ah) ?_;rintro v32 rr _ ss ⟨Eh,rfl,atV,rfl⟩;refine aP ?_;refine ec ⟨j+1,Eh,rfl,rfl,aa.ag,rfl,jS,atV.up ah⟩ ⟨rfl,rfl,rfl,rfl,rfl,rfl,trivial⟩;have bV:j=t.args.length:=by have:=of_decide_eq_false bq;omega
  subst bV;rw[List.take_length]at HV;refine a8 ?_;exact lA rfl (⟨qY,rfl,HV.up ah,rfl⟩)
theorem atW(L:Nat):uz L 0 (List.replicate L 0):=⟨List.length_replicate,fun x af=>by rw[List.eq_of_mem_replicate af];omega⟩
theorem atX{I:aa}{vg bB:Value}{gs:List aE}{c:List ak}(aM:cP I vg gs)(aq:cf I bB c)(cH:bS gs c=0):
 aS Tryz.prog 57 [vg,bB] I [] (fun v _ δ'=>(∃n:Int,v=.tuple #[.int .i64 n,.int .i64 0]∧0≤n∧n≤100000000)∧δ'= []):=by
 have lE:=ef.cw cH;have eR:=lE.1;obtain⟨cQ,gc,rfl⟩:=aM.shape;obtain⟨bH,bZ,bM⟩:=aq.shape;subst bM;refine a1 func57 ntmps57 fun aG=> ?_;refine bA ?_;refine a6 rfl (rJ aM aq lE.jx) ?_;rintro w0 pL _ rG ⟨rfl,rfl⟩;rw[cH];refine xo ?_;refine a6 rfl (Gf (aq.mono aa.ag)) ?_;rintro tD sr _ wo ⟨ao,rfl⟩;obtain⟨ju,iW,azV,rfl,atY,NZ,atZ,at0⟩:=ao.zm;have oz:=wL c;refine a_ ?_;refine fD (fun m aL ai δ'=>∃(j:Nat) (s:Int),m=(bE c).length-j∧aL= [(0,.slice cQ gs.length gc),(7,.int .i64 s),(19,.slice ju (bE c).length iW),(20,.int .i64 (bE c).length),(21,.int .i64 j)]∧sr.le ai∧δ'=([]:List ay)∧j≤(bE c).length∧0≤s∧s≤400000*j) ⟨0,0,rfl,rfl,aa.ag,rfl,Nat.zero_le _,by omega,by omega⟩ ⟨rfl,rfl,rfl,rfl,rfl,trivial⟩ ?_;rintro m _ e6 _ ⟨j,s,rfl,rfl,fz,rfl,au,uW,db⟩;refine aZ ?_;refine bF rfl (fun bq=> ?_) (fun bq=> ?_);have fI:j<(bE c).length:=by have:=of_decide_eq_true bq;omega
 obtain⟨QF,⟨azW,HW,rfl,acE⟩,jw⟩:=at0.fj atZ fI;have iF:=jw.isSome
 have cn:b9 gs (bE c)[j]:=by
  obtain⟨x,af,ae⟩:=List.mem_flatMap.1 (List.getElem_mem fI);obtain⟨ij,gx⟩:=ld (gP cH x af);simp only[List.mem_cons,List.not_mem_nil,or_false]at ae;rcases ae with ae|ae
  rw[ae];exact ij;rw[ae];exact gx
 generalize (bE c)[j]=t at acE jw cn;have NB:=FX cn;have zS:=gV cn.cw;refine aP ?_;refine aI (cC (jw.mono aa.ag)) ?_;refine bh fun hH=> ?_;refine aP ?_;refine a6 rfl (OC (aM.mono aa.ag) (acE.mono aa.ag) ah) ?_;rintro wx pD _ qD ⟨rfl,rfl⟩;rw[oF.2 cn,if_pos rfl];refine C1 ?_;refine ec ⟨j+1,s+dq gs t,rfl,rfl,aa.ag,rfl,fI,by omega,by omega⟩ ⟨rfl,rfl,rfl,rfl,rfl,trivial⟩;refine cT ?_;exact rm rfl rfl rfl (⟨⟨s,rfl,uW,by omega⟩,rfl⟩)
theorem at1{I:aa}{bz cN:Value}{a b:List Int}(bk:bY I bz a)(al:bY I cN b):
 aS Tryz.prog 97 [bz,cN] I [] (fun v _ δ'=>(∃q,v=.bool q)∧δ'= []):=by
 obtain⟨rE,ac,bM⟩:=bk.shape;subst bM;obtain⟨dU,ke,bM⟩:=al.shape;subst bM;have amG:=bk.len.1;refine a1 func97 ntmps97 fun aG=> ?_;refine bW ?_;by_cases oA:((a.length:Nat):Int)≠((b.length:Nat):Int);refine bA ?_;exact b0 rfl rfl (⟨⟨_,rfl⟩,rfl⟩);have rF:a.length=b.length:=by omega
 refine gk ?_;refine fD (fun m aL ai δ'=>∃(j:Nat),m=a.length-j∧aL= [(1,.slice dU b.length ke),(12,.slice rE a.length ac),(13,.int .i64 a.length),(14,.int .i64 j)]∧I.le ai∧δ'=([]:List ay)∧j≤a.length) ⟨0,rfl,rfl,aa.ag,rfl,Nat.zero_le _⟩ ⟨rfl,rfl,rfl,rfl,trivial⟩ ?_;rintro m _ e6 _ ⟨j,rfl,rfl,fz,rfl,au⟩;refine aZ ?_;refine bF rfl (fun bq=> ?_) (fun bq=> ?_);have fI:j<a.length:=by have:=of_decide_eq_true bq;omega
 have va:=bk.rp j fI;have wJ:=al.rp j ah;have db:=va.isSome;have gr:=wJ.isSome;refine bg ?_;refine aI (cC (va.mono aa.ag)) ?_;refine b_ ?_;refine aI (cC (wJ.mono aa.ag)) ?_;refine aR ?_;refine bF rfl (fun c4=> ?_) (fun c4=> ?_);refine bA ?_;exact b0 rfl rfl (⟨⟨_,rfl⟩,rfl⟩);refine aP ?_;refine ec ⟨j+1,rfl,rfl,aa.ag,rfl,fI⟩ ⟨rfl,rfl,rfl,rfl,trivial⟩;refine bA ?_;exact b0 rfl rfl (⟨⟨_,rfl⟩,rfl⟩)
theorem at2{I:aa}{b:Nat}{v u:Value}{xs ys:List Int}(ax:bY I v xs)(hu:bY I u ys):
 aS Tryz.prog 96 [u,.pointer (some ⟨b,0,none⟩)] I [.box b 45 [v]] (fun r _ δ'=>(∃q,r=.bool q)∧δ'= [.box b 45 [v]]):=by
 obtain⟨rE,ac,bM⟩:=ax.shape;subst bM;obtain⟨dU,ke,bM⟩:=hu.shape;subst bM;refine a1 func96 ntmps96 fun aG=> ?_;refine br ?_;refine a6 rfl (at1 ax hu) ?_;rintro v6 wk _ tw ⟨⟨q,rfl⟩,rfl⟩;refine a8 ?_;exact b0 rfl rfl (⟨⟨_,rfl⟩,rfl⟩)
theorem at3{I:aa}{vg bB:Value}{gs:List aE}{c:List ak}(aM:cP I vg gs)(aq:cf I bB c)(cH:bS gs c=0)(ez:gs.length≤100000):
 aS Tryz.prog 127 [vg,bB] I [] (fun v ai δ'=>(∃hA aN,v=.tuple #[hA,.int .i64 0]∧bY ai hA aN)∧δ'= []):=by
 have lE:=ef.cw cH;have eR:=lE.1;obtain⟨cQ,gc,rfl⟩:=aM.shape;obtain⟨bH,bZ,eK,bM,nB,mF,lQ,lR⟩:=id aq;subst bM;refine a1 func127 ntmps127 fun aG=> ?_;refine bA ?_;refine a6 rfl (rJ aM aq lE.jx) ?_;rintro sv mi _ oD ⟨rfl,rfl⟩;rw[cH];obtain⟨L,eu⟩:∃L,L=2+2*gs.length:=⟨_,rfl⟩
 refine fT ?_;refine aI (yC rfl rfl rfl ah) ?_;refine aI (tg (c:=(L:Int)) rfl rfl ah ah) ?_;refine Nu (z:=.int .i64 0) (size:=1) (bytes:=8) (n:=L) (xs:=(List.replicate L (0:Int)).map (Value.int .i64)) underlying248 (by kernel_rfl) rfl rfl rfl ah ah (by rw[Nat.mul_one];exact(Nt _ _).trans (by rw[List.map_replicate])) (fun HX=> ?_);refine bW ?_;have bo:(some (⟨HX,0,none⟩:Addr)).isSome=true:=rfl;refine fD (fun m aL ai δ'=>∃(j:Nat) (aN:List Int),m=c.length-j∧aL= [(7,.slice (some ⟨HX,0,none⟩) L L),(22,.slice bH c.length bZ),(23,.int .i64 c.length),(24,.int .i64 j)]∧mi.le ai∧δ'= [Ch (some ⟨HX,0,none⟩) L L aN]∧j≤c.length∧uz L (1000*j) aN) ⟨0,_,rfl,rfl,aa.ag,rfl,Nat.zero_le _,(atW L).up ah⟩ ⟨rfl,rfl,rfl,rfl,trivial⟩ ?_;rintro m _ e6 _ ⟨j,aN,rfl,rfl,fz,rfl,au,p2⟩;refine aZ ?_;refine bF rfl (fun bq=> ?_) (fun bq=> ?_);have fI:j<c.length:=by have:=of_decide_eq_true bq;omega
 obtain⟨QF,⟨dh,fO,g7,kh,rfl,dr,j7⟩,jw⟩:=lR.fj lQ fI;have db:=jw.isSome;have a2:=lE.2 _ (List.getElem_mem fI);obtain⟨ij,gx⟩:=ld (gP cH _ (List.getElem_mem fI));have hlen:=p2.1;refine aP ?_;refine aI (cC (jw.mono aa.ag)) ?_;refine bh fun hH=> ?_;refine bg ?_;refine mG (fun aL ai δ'=>∃(k:Nat),aL= [(7,.slice (some ⟨HX,0,none⟩) L L),(9,.pointer (some ⟨hH,0,none⟩)),(10,.int .i64 k),(22,.slice bH c.length bZ),(23,.int .i64 c.length),(24,.int .i64 j)]∧e6=ai∧δ'=.box hH 68 (hv c[j] dh fO g7 kh):: [Ch (some ⟨HX,0,none⟩) L L aN]∧k≤1) ?_ ?_;refine aZ ?_;refine bF rfl (fun c4=> ?_) (fun c4=> ?_);refine aR ?_;refine fS ⟨1,rfl,rfl,rfl,Nat.le_refl _⟩ ⟨rfl,rfl,rfl,rfl,rfl,rfl,trivial⟩;refine aX ?_;refine fS ⟨0,rfl,rfl,rfl,Nat.zero_le _⟩ ⟨rfl,rfl,rfl,rfl,rfl,rfl,trivial⟩;rintro _ _ _ ⟨k,rfl,rfl,rfl,hk⟩;refine a_ ?_;have av:k<aN.length:=by omega
 have qS:=p2.2 _ (List.getElem_mem av);refine aI (gH l8 rfl cW rfl (u1 (x:=.int .i64 aN[k]) (by simp[av]))) ?_;refine go2 ?_;refine nC (xs':=(aN.set k (aN[k]+1)).map (Value.int .i64)) l8 rfl rfl rfl rfl rfl rfl (by simp[c9]) (by repeat (first|exact bc.here|apply bc.there)) (Sm av _) ?_;refine bg ?_;refine a6 rfl (acC ez eu hk _ c[j].l (Nat.le_refl _) ah ij _ _ _ _ (dr.mono aa.ag) (p2.set av) ah ah) ?_;rintro Hr D4 _ Hs ⟨og,rfl,iP,rfl⟩;refine aP ?_;refine a6 rfl (acC ez eu hk _ c[j].r (Nat.le_refl _) ah gx _ _ _ _ (j7.mono aa.ag) iP ah ah) ?_;rintro Li zL _ x8 ⟨E5,rfl,at4,rfl⟩;refine aP ?_;refine ec ⟨j+1,E5,rfl,rfl,aa.ag,rfl,fI,at4.up ah⟩ ⟨rfl,rfl,rfl,rfl,trivial⟩;have bV:j=c.length:=by have:=of_decide_eq_false bq;omega
 refine aP ?_;refine aK.dO (by repeat (first|exact aO.here|apply aO.there)) ?_;rintro vl Lx Ly sO aC at5 azX at6;cases aC;refine aZ ?_;exact rm rfl rfl rfl (⟨⟨_,aN,rfl,bY.of p2.1.symm at5 ah at6 (fun x af=>by have:=p2.2 x af;exact⟨by omega,by omega⟩)⟩,rfl⟩)
def HY:kH 4 aE where
  R:=fun _ s vs=>vs=s.cs∧s.ok
  len:=by rintro I a vs ⟨rfl,_⟩;rfl
  one:=by rintro I a vs ⟨rfl,_⟩ u hu;simp only[aE.cs,List.mem_cons,List.not_mem_nil,or_false]at hu;rcases hu with rfl|rfl|rfl|rfl<;>rfl
  mono:=by rintro I J a vs aA h;exact h
def Ci(gs:List aE):List Value:=gs.flatMap aE.cs
theorem acF:∀(gs:List aE) (q:Nat) (v:Value),(Ci gs)[q]? =some v→∃(i r:Nat) (h:i<gs.length),q=i*4+r∧gs[i].cs[r]? =some v
  | [],q,v,h=>by simp[Ci]at h
  |s::gs,q,v,h=>by
   have e:Ci (s::gs)=s.cs++Ci gs:=rfl;have aA:s.cs.length=4:=rfl;rw[e]at h;rcases Nat.lt_or_ge q 4 with aC|aC
   rw[List.getElem?_append_left ah]at h;exact⟨0,q,by simp,by omega,h⟩;rw[List.getElem?_append_right ah,aA]at h;obtain⟨i,r,aj,aT,ae⟩:=acF gs (q-4) v h;exact⟨i+1,r,by simpa using aj,by omega,ae⟩
theorem acG{I:aa}:∀(gs:List aE),(∀s∈gs,s.ok)→bd HY I (Ci gs) gs
  | [],_=>bd.nil
  |s::gs,h=>(bd.single (show HY.R I s s.cs from⟨rfl,h s (List.mem_cons_self ..)⟩)).app (acG gs fun x af=>h x (List.mem_cons_of_mem _ af))
theorem cP.cells{I:aa}{ad:Option Addr}{n c:Nat}{gs:List aE}(h:cP I (.slice ad n c) gs):Cells I ad (Ci gs)∧bd HY I (Ci gs) gs:=by
 obtain⟨_,_,_,aW,cn⟩:=h.open;refine⟨fun q v aC=> ?_,acG gs cn⟩;obtain⟨i,r,aj,e,ae⟩:=acF gs q v aC;rw[e];exact aW i aj r v ae
theorem bd.at7{I:aa}{A:Option Addr}{k:Nat}{xs:List Value}{gs:List aE}(h:bd HY I xs gs)(aq:Cells I A xs)(hk:gs.length≤k)(al:gs.length≤1000000000):cP I (.slice A gs.length k) gs:=
  .mk A k gs hk ah (fun i aj=>by
   obtain⟨vs,⟨rfl,_⟩,ae⟩:=h.fj aq aj;exact ae) (fun s ao=>by
   obtain⟨i,aj,rfl⟩:=List.getElem_of_mem ao;obtain⟨vs,⟨_,ab⟩,_⟩:=h.fj aq aj;exact ab)
abbrev at8(A:Option Addr)(c n:Nat)(xs:List Value):ay:=.row (.slice A n c) 66 4 n xs
theorem at9{I:aa}{v:Value}{gs:List aE}(ax:cP I v gs)(ez:gs.length≤100000):
 aS Tryz.prog 28 [v] I [] (fun v ai δ'=>∃A k xs,v=.slice A gs.length k∧bd HY ai xs gs∧δ'= [at8 A k gs.length xs]):=by
 obtain⟨cQ,gc,rfl⟩:=ax.shape;obtain⟨ep,bm⟩:=ax.cells;have iw:=bm.length;obtain⟨_,Br,Ke,sI,Kf⟩:=ax.open;refine a1 func28 ntmps28 fun aG=> ?_;refine br ?_;refine aI (EJ underlying22 rfl rfl rfl) ?_;refine go2 ?_;refine bF rfl (fun aV=> ?_) (fun aV=> ?_);have l3:cQ=none:=by simpa using aV
 subst l3
 have kW:gs= []:=by
  rcases gs with _|⟨x,r⟩
  rfl;exact absurd (sI 0 (by simp)).isSome (by simp)
 subst kW;refine aP ?_;refine bf.view (View.gh 66 4) (dv (rs:= [.tmp 2]) rfl (List.Perm.refl _) (.cons (.tmp rfl) .nil) (List.Sublist.refl _) ⟨none,0,[],rfl,bd.nil,rfl⟩);refine a8 ?_;refine c_ fun b5=> ?_;refine aX ?_;refine mL rfl rfl (Src.m8 ep) iw bm.kd (fun j5 j6=> ?_);rw[Nat.zero_add];refine a8 ?_;exact b0 rfl rfl (⟨j5,j6,_,rfl,bm.mono aa.ag,rfl⟩)
abbrev vG(hC mb:Nat)(vs:Value)(ms:bU):List ay:= [.box hC 84 [vs,.map (some mb)],.map mb ms]
def rY(I:aa)(ms:bU):Prop:=∀k v,dG ms k=some v→(0≤k∧k<5000)∧∃aN,bY I v aN
theorem rY.mono{I J:aa}{ms:bU}(h:rY I ms)(aA:I.le J):rY J ms:=fun k v hk=>by obtain⟨ab,aN,ae⟩:=h k v hk;exact⟨ab,aN,ae.mono aA⟩
theorem aua{I:aa}{vg:Value}{gs:List aE}(aM:cP I vg gs)(aub:j_ gs=0)(ez:gs.length≤100000):
 aS Tryz.prog 14 [vg] I [] (fun v ai δ'=>∃hC mb vs,v=.tuple #[.pointer (some ⟨hC,0,none⟩),.int .i64 0]∧cP ai vs gs∧δ'=vG hC mb vs []):=by
 obtain⟨cQ,gc,rfl⟩:=aM.shape;refine a1 func14 ntmps14 fun aG=> ?_;refine b_ ?_;refine a6 rfl (JI aM) ?_;rintro v6 wk _ tw ⟨rfl,rfl⟩;rw[aub];refine gk ?_;refine a6 rfl (at9 (aM.mono aa.ag) ez) ?_;rintro v11 ry _ qE ⟨A,k,xs,rfl,bm,rfl⟩;refine aK.dO aO.here ?_;rintro nN Jx Jy mf aC auc Xk F8;cases aC;refine tm rfl (fun kc=> ?_);refine aX ?_;refine bw fun oI=> ?_;refine a_ ?_;exact rm rfl rfl rfl (⟨oI,kc,_,rfl,((bm.mono mf).at7 F8 auc ah).mono aa.ag,rfl⟩)
section
variable {I:aa} {hC mb:Nat} {vs bB:Value} {ms:bU} {gs:List aE} {c:List ak} {id:Int}
theorem acH(ao:cP I vs gs)(aq:cf I bB c)(cH:bS gs c=0)(ez:gs.length≤100000):
 aS Tryz.prog 94 [.pointer (some ⟨hC,0,none⟩),bB] I (vG hC mb vs ms) (fun v ai δ'=>(∃hA aN,v=.tuple #[hA,.int .i64 0]∧bY ai hA aN)∧δ'=vG hC mb vs ms):=by
 obtain⟨cQ,gc,rfl⟩:=ao.shape;refine a1 func94 ntmps94 fun aG=> ?_;refine b_ ?_;refine aI (pn underlying51 rfl rfl rfl) ?_;refine bW ?_;refine a6 rfl (at3 ao aq cH ez) ?_;rintro sv mi _ oD ⟨⟨hA,aN,rfl,hu⟩,rfl⟩;refine aP ?_;exact rm rfl rfl rfl (⟨⟨hA,aN,rfl,hu⟩,rfl⟩)
theorem acI(ao:cP I vs gs)(aq:cf I bB c)(cH:bS gs c=0)(ez:gs.length≤100000)(hm:rY I ms)(vH:0≤id∧id<5000):
 aS Tryz.prog 81 [.pointer (some ⟨hC,0,none⟩),.int .i64 id,bB] I (vG hC mb vs ms) (fun v ai δ'=>∃e fk,v=.int .i64 e∧rY ai fk∧δ'=vG hC mb vs fk):=by
 obtain⟨cQ,gc,rfl⟩:=ao.shape;refine a1 func81 ntmps81 fun aG=> ?_;refine br ?_;refine a6 rfl (acH ao aq cH ez) ?_;rintro w0 pL _ rG ⟨⟨hA,aN,rfl,hu⟩,rfl⟩;obtain⟨c3,cK,bM⟩:=hu.shape;subst bM;refine Fk ?_;rcases aC:dG ms id with _|u
 refine aI (jr (v:=.slice none 0 0) (g:=false) underlying82 underlying3 Fe rfl rfl cW (by rw[aC];rfl) (by rw[aC];rfl)) ?_;refine xp ?_;refine sg underlying82 underlying3 rfl rfl rfl rfl (by repeat (first|exact bc.here|apply bc.there)) ?_;refine bg ?_;exact b0 rfl rfl (⟨0,_,rfl,fun k v hk=>(by rw[Lg.vZ]at hk;split at hk;(rename_i e;subst e;cases hk;exact⟨vH,aN,hu.mono aa.ag⟩);(obtain⟨ab,og,ae⟩:=hm k v hk;exact⟨ab,og,ae.mono aa.ag⟩)),rfl⟩);obtain⟨_,h9,Ft⟩:=hm id u aC;obtain⟨ud,kC,bM⟩:=Ft.shape;subst bM;refine aI (jr (v:=.slice ud h9.length kC) (g:=true) underlying82 underlying3 Fe rfl rfl cW (by rw[aC];rfl) (by rw[aC];rfl)) ?_;refine rk ?_;exact b0 rfl rfl (⟨1,ms,rfl,hm.mono aa.ag,rfl⟩)
theorem aud(bM:∃a n k,vs=.slice a n k)(hm:rY I ms):
 aS Tryz.prog 82 [.pointer (some ⟨hC,0,none⟩),.int .i64 id] I (vG hC mb vs ms) (fun v ai δ'=>∃e fk,v=.int .i64 e∧rY ai fk∧δ'=vG hC mb vs fk):=by
 obtain⟨cQ,L8,gc,rfl⟩:=bM;refine a1 func82 ntmps82 fun aG=> ?_;refine br ?_;refine aI (pn underlying51 rfl rfl rfl) ?_;refine cT ?_;rcases aC:dG ms id with _|u
 refine aI (jr (v:=.slice none 0 0) (g:=false) underlying82 underlying3 Fe rfl rfl cW (by rw[aC];rfl) (by rw[aC];rfl)) ?_;refine xo ?_;exact b0 rfl rfl (⟨6,ms,rfl,hm.mono aa.ag,rfl⟩);obtain⟨_,h9,Ft⟩:=hm id u aC;obtain⟨ud,kC,bM⟩:=Ft.shape;subst bM;refine aI (jr (v:=.slice ud h9.length kC) (g:=true) underlying82 underlying3 Fe rfl rfl cW (by rw[aC];rfl) (by rw[aC];rfl)) ?_;refine xp ?_;refine Ut (δ':=fun ys=> [.box hC 84 [.slice cQ L8 gc,.map (some mb)],.map mb ys]) underlying82 underlying3 rfl rfl (fun ys=>bc.there bc.here) (fun ys dX=> ?_);refine bg ?_;exact b0 rfl rfl (⟨0,ys,rfl,fun k v hk=>(by rw[dX]at hk;split at hk;cases hk;exact hm.mono aa.ag k v hk),rfl⟩)
end
theorem AH:∀{xs:bU} {p:Int×Value},(xs.map (·.1)).Nodup→p∈xs→dG xs p.1=some p.2
  | (k,v)::r,p,aD,az=>by
   rw[List.map_cons,List.nodup_cons]at aD;rcases List.mem_cons.1 az with rfl|az
   simp[dG];have cu:¬k=p.1:=fun e=>aD.1 (by rw[e];exact List.mem_map.2 ⟨p,az,rfl⟩);simp only[dG,cu,if_false];exact AH aD.2 az
theorem rY.all{I:aa}{ms:bU}{es:Array MapEntry}{dC:Nat}(h:rY I ms)(hm:p7 es dC ms):ms.length≤5000∧∀p∈ms,(0≤p.1∧p.1<5000)∧∃aN,bY I p.2 aN:=by
 have ab:∀p∈ms,(0≤p.1∧p.1<5000)∧∃aN,bY I p.2 aN:=fun p az=>h _ _ (AH hm.keys az);refine⟨?_,ab⟩;have:=BF 5000 (ms.map (·.1)) hm.keys (fun v ax=>by obtain⟨p,az,rfl⟩:=List.mem_map.1 ax;exact(ab p az).1);simpa using this
section
variable {I:aa} {hC mb b:Nat} {vs bB v:Value} {ms:bU} {gs:List aE} {c:List ak} {dE:List Int}
theorem aue(bM:∃a n k,vs=.slice a n k)(ax:bY I v dE)(hm:rY I ms):
 aS Tryz.prog 95 [.pointer (some ⟨hC,0,none⟩),.func (.func 96) #[] #[.pointer (some ⟨b,0,none⟩)]] I (.box b 45 [v]::vG hC mb vs ms) (fun r ai δ'=>(∃ids,bY ai r ids)∧δ'=.box b 45 [v]::vG hC mb vs ms):=by
 obtain⟨cQ,L8,gc,rfl⟩:=bM;obtain⟨bz,vu,bM⟩:=ax.shape;subst bM;refine a1 func95 ntmps95 fun aG=> ?_;refine fx ?_;refine aK.IU (δ':=fun es dC=> [.box b 45 [.slice bz dE.length vu],.box hC 84 [.slice cQ L8 gc,.map (some mb)],.obj mb (.map es dC)]) (fun _ _=>bc.there (bc.there bc.here)) ?_;intro es dC fZ;obtain⟨oS,cE⟩:=hm.all fZ;refine IV underlying82 rfl (Has.there (Has.there Has.here)) fZ rfl (fun wG Bd=> ?_);refine aR ?_;refine bJ.view (View.gh 3 1) ?_;refine fD (fun m aL ai δ'=>∃(left:bU) (seen:Array Nat) (A:Option Addr) (k:Nat) (aN:List Int),m=left.length∧aL= [(1,.func (.func 96) #[] #[.pointer (some ⟨b,0,none⟩)]),(5,.slice A aN.length k),(12,.pointer (some ⟨wG,0,none⟩))]∧I.le ai∧δ'= [.obj wG (.mapIter (some mb) dC seen dC),.box b 45 [.slice bz dE.length vu],.box hC 84 [.slice cQ L8 gc,.map (some mb)],.obj mb (.map es dC),f_ A k aN]∧uU es dC dC seen dC ms left∧(∀p∈left,(0≤p.1∧p.1<5000)∧∃aN,bY I p.2 aN)∧aN.length+left.length≤ms.length∧(∀x∈aN,0≤x∧x<5000)) ⟨ms,_,none,0,[],rfl,rfl,aa.ag,rfl,Bd,cE,by simp,fun x af=>(by cases af)⟩ ⟨rfl,rfl,rfl,trivial⟩ ?_;rintro m _ e6 _ ⟨left,seen,A,k,aN,rfl,rfl,fz,rfl,eu,BB,tl,p2⟩;refine go2 ?_;by_cases iB:left= [];refine IW iB eu rfl (Has.there (Has.there (Has.there Has.here))) (fun _=>bc.here) rfl ?_;refine bW ?_;refine aK.view (View.Np fZ (bc.there (bc.there (bc.there bc.here)))) ?_;refine aX ?_;refine a6 rfl (Q8 ah) ?_;rintro v26 rq _ me ⟨ys,rfl,hb,rfl⟩;refine a8 ?_;refine aK.dO aO.here ?_;rintro u3 a27 tA wm aC azY azZ auf;cases aC;refine a_ ?_;exact b0 rfl rfl (⟨⟨ys,bY.of hb.length_eq.symm (by have:=hb.length_eq;omega) ah auf (fun x af=>by have:=p2 x (hb.mem_iff.1 af);exact⟨by omega,by omega⟩)⟩,rfl⟩);refine IX iB eu rfl (Has.there (Has.there (Has.there Has.here))) (fun _=>bc.here) rfl (fun l key u q iQ aA pG wD=> ?_);subst aA;obtain⟨acJ,us,lD⟩:=BB (key,u) (by simp);obtain⟨ud,kC,bM⟩:=lD.shape;dsimp only at bM acJ lD;subst bM;have acK:∀p∈l++q,(0≤p.1∧p.1<5000)∧∃aN,bY I p.2 aN:=fun p az=>BB p (by simp only[List.mem_append,List.mem_cons]at az⊢;rcases az with h|h;exact .inl h;exact .inr (.inr h));simp only[List.length_append,List.length_cons]at tl;refine b_ ?_;refine aI (IY pG rfl wD (Has.there (Has.there (Has.there Has.here))) Has.here) ?_;refine b_ ?_;refine e8 rfl rfl rfl ((cR.fq (caps:= [.pointer (some ⟨b,0,none⟩)]) (by kernel_rfl) (at2 (ax.mono aa.ag) (lD.mono aa.ag)))) js ?_;rintro v20 vb _ tI ⟨⟨az0,rfl⟩,rfl⟩;refine go2 ?_;refine bF rfl (fun bq=> ?_) (fun bq=> ?_);refine go2 ?_;refine aI (CE (v:=.int .i64 key) rfl) ?_;refine c_ fun Q1=> ?_;refine gl fun Bo wK=> ?_;refine aR ?_;have bm:∀zs,zs= [Value.int .i64 key]→ay.row (.slice Bo (aN.length+1) wK) 3 1 (aN.length+1) (aN.map (Value.int .i64)++zs)=f_ Bo wK (aN++ [key]):=by rintro _ rfl;simp[f_]
 rw[bm (cat [.int .i64 key]) rfl];have aug:aN.length+1=(aN++ [key]).length:=by simp
 rw[aug];refine ec ⟨l++q,iQ,Bo,wK,aN++ [key],rfl,rfl,aa.ag,rfl,pG,acK,(by simp only[List.length_append,List.length_cons,List.length_nil];omega),fun x af=>((List.mem_append.1 af).elim (p2 x) (fun h=>by rw[List.mem_singleton]at h;subst h;exact acJ))⟩ ⟨rfl,rfl,rfl,trivial⟩ (by simp only[List.length_append,List.length_cons];omega);refine go2 ?_;refine ec ⟨l++q,iQ,A,k,aN,rfl,rfl,aa.ag,rfl,pG,acK,(by simp only[List.length_append];omega),p2⟩ ⟨rfl,rfl,rfl,trivial⟩ (by simp only[List.length_append,List.length_cons];omega)
theorem auh(ao:cP I vs gs)(aq:cf I bB c)(cH:bS gs c=0)(ez:gs.length≤100000)(hm:rY I ms):
 aS Tryz.prog 61 [.pointer (some ⟨hC,0,none⟩),bB] I (vG hC mb vs ms) (fun v ai δ'=>(∃hA ids,v=.tuple #[hA,.int .i64 0]∧bY ai hA ids)∧δ'=vG hC mb vs ms):=by
 obtain⟨cQ,gc,bM⟩:=ao.shape;subst bM;refine a1 func61 ntmps61 fun aG=> ?_;refine b_ ?_;refine a6 rfl (acH ao aq cH ez) ?_;rintro v11 ry _ qE ⟨⟨hA,aN,rfl,hu⟩,rfl⟩;obtain⟨c3,cK,bM⟩:=hu.shape;subst bM;refine aR ?_;refine bh fun c1=> ?_;refine iR ?_;refine a6 rfl (aue ⟨_,_,_,rfl⟩ (hu.mono aa.ag) (hm.mono aa.ag)) ?_;rintro tD sr _ wo ⟨⟨ids,qZ⟩,rfl⟩;refine a_ ?_;exact rm rfl rfl rfl (⟨⟨tD,ids,rfl,qZ⟩,rfl⟩)
end
section
variable {I:aa} {b:Nat} {id:Int} {A:Option Addr} {c:Nat} {xs:List Int}
abbrev L9(b:Nat):Value:=.func (.func 88) #[] #[.pointer (some ⟨b,0,none⟩)]
theorem acL{x:Int}:aS Tryz.prog 88 [.int .i64 x,.pointer (some ⟨b,0,none⟩)] I [.box b 3 [.int .i64 id]] (fun v _ δ'=>v=.bool (decide (x=id))∧δ'= [.box b 3 [.int .i64 id]]):=by
 refine a1 func88 ntmps88 fun aG=> ?_;refine br ?_;by_cases ft:x=id;refine a_ ?_;exact b0 rfl rfl (⟨by rw[decide_eq_true ft];rfl,rfl⟩);refine a_ ?_;exact b0 rfl rfl (⟨by rw[decide_eq_false ft];rfl,rfl⟩)
theorem aui(al:xs.length≤1000000):
 aS Tryz.prog 125 [.slice A xs.length c,L9 b] I [f_ A c xs,.box b 3 [.int .i64 id]] (fun v _ δ'=>(∃n:Int,v=.int .i64 n∧((n= -1∧∀x∈xs,x≠id)∨∃k:Nat,n=k∧k<xs.length∧∀x∈xs.take k,x≠id))∧δ'= [f_ A c xs,.box b 3 [.int .i64 id]]):=by
 refine a1 func125 ntmps125 fun aG=> ?_;refine dn ?_;refine fD (fun m aL ai δ'=>∃(k:Nat),m=xs.length-k∧aL= [(0,.slice A xs.length c),(1,L9 b),(7,.int .i64 xs.length),(8,.int .i64 k)]∧I.le ai∧δ'= [f_ A c xs,.box b 3 [.int .i64 id]]∧k≤xs.length∧∀x∈xs.take k,x≠id) ⟨0,rfl,rfl,aa.ag,rfl,Nat.zero_le _,fun x af=>(by simp at af)⟩ ⟨rfl,rfl,rfl,rfl,trivial⟩ ?_;rintro m _ e6 _ ⟨k,rfl,rfl,fz,rfl,hk,az⟩;refine aZ ?_;refine bF rfl (fun aV=> ?_) (fun aV=> ?_);have av:k<xs.length:=by simpa using aV
 refine gk ?_;refine aK.gK Has.here ah (fun bo eV=> ?_);refine aX ?_;refine aI (gH l8 rfl Has.here bo (u1 (x:=.int .i64 xs[k]) (by simp[av]))) ?_;refine e8 rfl rfl rfl ((cR.fq (caps:= [.pointer (some ⟨b,0,none⟩)]) (by kernel_rfl) (acL (x:=xs[k])))) js ?_;rintro mO jK _ jf ⟨rfl,rfl⟩;refine go2 ?_;refine bF rfl (fun bq=> ?_) (fun bq=> ?_);refine bW ?_;exact b0 rfl rfl (⟨⟨k,rfl,.inr ⟨k,rfl,av,az⟩⟩,rfl⟩);refine aP ?_;refine ec ⟨k+1,rfl,rfl,aa.ag,rfl,av,fun x af=>(by rw[List.take_succ_eq_append_getElem av]at af;rcases List.mem_append.1 af with h|h;exact az x h;rw[List.mem_singleton]at h;subst h;exact of_decide_eq_false bq)⟩ ⟨rfl,rfl,rfl,rfl,trivial⟩;have bV:k=xs.length:=by have:=of_decide_eq_false aV;omega
 subst bV;rw[List.take_length]at az;refine bA ?_;exact b0 rfl rfl (⟨⟨-1,rfl,.inl ⟨rfl,az⟩⟩,rfl⟩)
theorem acM(al:xs.length≤1000000):
 aS Tryz.prog 87 [.slice A xs.length c,L9 b] I [f_ A c xs,.box b 3 [.int .i64 id]] (fun v _ δ'=>∃ys:List Int,v=.slice A ys.length c∧(∀y∈ys,y∈xs∧y≠id)∧ys.length≤xs.length∧δ'= [f_ A c ys,.box b 3 [.int .i64 id]]):=by
 refine a1 func87 ntmps87 fun aG=> ?_;refine br ?_;refine a6 rfl (aui (id:=id) al) ?_;rintro v10 j4 _ kB ⟨⟨n,rfl,aD⟩,rfl⟩;refine aP ?_;by_cases hT:n= -1;refine bW ?_;exact b0 rfl rfl (⟨xs,rfl,fun y aw=>⟨aw,(by rcases aD with⟨_,h⟩|⟨k,h,_⟩;exact h y aw;omega)⟩,Nat.le_refl _,rfl⟩);obtain⟨n,rfl,GK,iP⟩:∃k:Nat,n=k∧k<xs.length∧∀x∈xs.take k,x≠id:=by rcases aD with⟨h,_⟩|h;exact absurd h hT;exact h
 refine gk ?_;refine fD (fun m aL ai δ'=>∃(i j:Nat) (ws:List Int),m=xs.length-j∧aL= [(0,.slice A xs.length c),(1,L9 b),(5,.int .i64 i),(6,.int .i64 j)]∧j4.le ai∧δ'= [Ch A c xs.length ws,.box b 3 [.int .i64 id]]∧i<j∧j≤xs.length∧ws.length=xs.length∧(∀x∈ws,x∈xs)∧(∀x∈ws.take i,x≠id)) ⟨n,n+1,xs,rfl,rfl,aa.ag,rfl,Nat.lt_succ_self _,by omega,rfl,fun _ h=>h,iP⟩ ⟨rfl,rfl,rfl,rfl,trivial⟩ ?_;rintro m _ e6 _ ⟨i,j,ws,rfl,rfl,fz,rfl,ob,au,qO,uy,Sn⟩;refine br ?_;refine bF rfl (fun bq=> ?_) (fun bq=> ?_);have av:j<xs.length:=by simpa using bq
 have auj:j<ws.length:=by omega
 have acN:i<ws.length:=by omega
 refine bg ?_;refine aK.gK Has.here ah (fun bo eV=> ?_);refine aX ?_;refine aI (gH l8 rfl Has.here bo (u1 (x:=.int .i64 ws[j]) (by simp[auj]))) ?_;refine aP ?_;refine e8 rfl rfl rfl ((cR.fq (caps:= [.pointer (some ⟨b,0,none⟩)]) (by kernel_rfl) (acL (x:=ws[j])))) js ?_;rintro wx pD _ qD ⟨rfl,rfl⟩;refine aR ?_;refine bF rfl (fun c4=> ?_) (fun c4=> ?_);refine aZ ?_;refine nC (xs':=(ws.set i ws[j]).map (Value.int .i64)) l8 rfl rfl bo rfl rfl rfl (by simp[c9]) (by repeat (first|exact bc.here|apply bc.there)) (Sm acN _) ?_;refine dn ?_;have cu:ws[j]≠id:=by simpa using c4
 have fb:(ws.set i ws[j]).take (i+1)=ws.take i++ [ws[j]]:=by rw[List.take_succ_eq_append_getElem (by rw[List.length_set];exact acN),List.take_set_of_le (Nat.le_refl _),List.getElem_set_self]
 refine ec ⟨i+1,j+1,ws.set i ws[j],rfl,rfl,aa.ag,rfl,by omega,av,by rw[List.length_set];exact qO,fun x af=>((List.mem_or_eq_of_mem_set af).elim (uy x) (fun e=>by subst e;exact uy _ (List.getElem_mem _))),fun x af=>(by rw[fb]at af;rcases List.mem_append.1 af with h|h;exact Sn x h;rw[List.mem_singleton]at h;subst h;exact cu)⟩ ⟨rfl,rfl,rfl,rfl,trivial⟩;refine bg ?_;refine ec ⟨i,j+1,ws,rfl,rfl,aa.ag,rfl,by omega,av,qO,uy,Sn⟩ ⟨rfl,rfl,rfl,rfl,trivial⟩;have bV:j=xs.length:=by have:=of_decide_eq_false bq;omega
 refine aP ?_;refine aK.gK Has.here ah (fun bo eV=> ?_);refine aK.view (View.short _ (h:=i) bc.here ah) ?_;refine go2 ?_;refine aI (uQ underlying45 rj rfl rfl ah ah) ?_;refine IZ underlying45 (by kernel_rfl) (z:=.int .i64 0) (by rfl) (by rfl) rfl Has.here ah ?_;refine aZ ?_;refine aI (m7 underlying45 rj rfl rfl ah) ?_;refine a8 ?_
 exact b0 rfl rfl (by
  have w6:(ws.take i).length=i:=by rw[List.length_take];omega
  have xw:(ws.map (Value.int .i64)).take (i*1)=(ws.take i).map (Value.int .i64):=by rw[Nat.mul_one,List.map_take]
  exact⟨ws.take i,by rw[w6];rfl,fun y aw=>⟨uy y (List.mem_of_mem_take aw),Sn y aw⟩,by omega,by simp only[f_,w6,←xw];rfl⟩)
end
end
abbrev bX:=Int×Int
abbrev HZ(x:bX):List Value:= [.int .i64 x.1,.int .i64 x.2]
def g9(xs:List bX):List Value:=xs.flatMap HZ
theorem auk(xs:List bX)(x:bX):g9 (xs++ [x])=g9 xs++HZ x:=by simp[g9]
theorem L_:∀(xs:List bX) (i:Nat) (h:i<xs.length),(g9 xs)[i*2]? =some (.int .i64 xs[i].1)∧(g9 xs)[i*2+1]? =some (.int .i64 xs[i].2)
  |x::r,0,_=>⟨rfl,rfl⟩
  |x::r,i+1,h=>by
   have aY:=L_ r i (by simpa using h);have aQ:(g9 (x::r))[(i+1)*2]? =(g9 r)[i*2]? :=by rw[show(i+1)*2=i*2+1+1 by omega];rfl
   have aT:(g9 (x::r))[(i+1)*2+1]? =(g9 r)[i*2+1]? :=by rw[show(i+1)*2+1=i*2+1+1+1 by omega];rfl
   rw[aQ,aT];exact aY
theorem acO:∀(xs:List bX) (i:Nat) (y:bX),i<xs.length→g9 (xs.set i y)=((g9 xs).set (i*2) (.int .i64 y.1)).set (i*2+1) (.int .i64 y.2)
  |x::r,0,y,_=>rfl
  |x::r,i+1,y,h=>by have aY:=acO r i y (by simpa using h);rw[List.set_cons_succ,show(i+1)*2=i*2+1+1 by omega];show HZ x++g9 (r.set i y)=((HZ x++g9 r).set (i*2+1+1) _).set (i*2+1+1+1) _;rw[aY];rfl
theorem aul(xs:List bX)(i:Nat)(h:i<xs.length):(g9 xs).drop (i*2)=.int .i64 xs[i].1:: .int .i64 xs[i].2::(g9 xs).drop (i*2+2):=by
 obtain⟨ab,ae⟩:=L_ xs i h;obtain⟨dW,e2⟩:=List.getElem?_eq_some_iff.1 ab;obtain⟨fm,b2⟩:=List.getElem?_eq_some_iff.1 ae;rw[List.drop_eq_getElem_cons dW,e2,List.drop_eq_getElem_cons fm,b2]
theorem aum(xs:List bX)(n:Nat):g9 (xs.take n)=(g9 xs).take (n*2):=by
 induction xs generalizing n with
 |nil=>simp[g9]
 |cons x r aY=>
  cases n with
  |zero=>simp[g9]
  |succ n=>rw[List.take_succ_cons,show(n+1)*2=n*2+1+1 by omega];show HZ x++g9 (r.take n)=_;rw[aY];rfl
def jA(a b:bX):Prop:=a.1<b.1∨(a.1=b.1∧a.2≤b.2)
def vI(a b:bX):Bool:=decide (a.1<b.1)||(decide (a.1=b.1)&&decide (a.2<b.2))
theorem Sp{a b:bX}:vI a b=true↔a.1<b.1∨(a.1=b.1∧a.2<b.2):=by simp[vI]
theorem acP{a b:bX}(h:vI a b=false):jA b a:=by
 have:¬(a.1<b.1∨(a.1=b.1∧a.2<b.2)):=fun q=>by rw[Sp.2 q]at h;cases h
 unfold jA;omega
theorem Sq{a b:bX}(h:vI a b=true):jA a b:=by have:=Sp.1 h;unfold jA;omega
theorem Cj{a b c:bX}(h:jA a b)(k:jA b c):jA a c:=by unfold jA at*;omega
theorem Ma(a:bX):jA a a:=by unfold jA;omega
def gt(xs:List bX)(j:Nat):bX:=xs.getD j (0,0)
theorem uA{xs:List bX}{j:Nat}(h:j<xs.length):gt xs j=xs[j]:=by simp[gt,List.getD_eq_getElem?_getD,List.getElem?_eq_getElem h]
def gf(xs:List bX)(i k:Nat):List bX:=(xs.set i (gt xs k)).set k (gt xs i)
theorem vJ(xs:List bX)(i k:Nat):(gf xs i k).length=xs.length:=by simp[gf]
theorem Sr{xs:List bX}{i:Nat}(h:i<xs.length)(y:bX)(j:Nat):gt (xs.set i y) j=if i=j then y else gt xs j:=by
 unfold gt;rw[List.getD_eq_getElem?_getD,List.getD_eq_getElem?_getD,List.getElem?_set];by_cases e:i=j;subst e;simp[h];simp[e]
theorem Ck{xs:List bX}{i k:Nat}(aj:i<xs.length)(hk:k<xs.length)(j:Nat):gt (gf xs i k) j=if k=j then gt xs i else if i=j then gt xs k else gt xs j:=by
 unfold gf;rw[Sr (by simpa using hk),Sr aj]
theorem Ss{xs:List bX}{i k:Nat}(aj:i<xs.length)(hk:k<xs.length):(gf xs i k).Perm xs:=by
 rw[List.perm_iff_count];intro z;unfold gf;rw[List.count_set (by simpa using hk),List.count_set aj];have aQ:(xs.set i (gt xs k))[k]'(by simpa using hk)=gt xs k:=by have ab:=uA (xs:=xs.set i (gt xs k)) (j:=k) (by simpa using hk);rw[←ab,Sr aj];split;rfl;rfl
 rw[aQ,←uA aj]
 have fE:(gt xs i==z)=true→0<xs.count z:=fun h=>by
  have:gt xs i=z:=by simpa using h
  rw[←this,uA aj];exact List.count_pos_iff.2 (List.getElem_mem aj)
 cases ab:(gt xs i==z)<;>cases ae:(gt xs k==z)<;>simp<;>(try (have:=fE ab;omega))
def nZ(xs:List bX):Prop:=∀j,0<j→j<xs.length→jA (gt xs ((j-1)/2)) (gt xs j)
def yk(xs:List bX)(i:Nat):Prop:=(∀j,0<j→j<xs.length→(j-1)/2≠i→jA (gt xs ((j-1)/2)) (gt xs j))∧∀j,0<j→j<xs.length→(j-1)/2=i→0<i→jA (gt xs ((i-1)/2)) (gt xs j)
def Cl(xs:List bX)(i i0:Nat):Prop:=(∀j,0<j→j<xs.length→j≠i→((j-1)/2≠i∨i≠i0)→jA (gt xs ((j-1)/2)) (gt xs j))∧∀j,0<j→j<xs.length→(j-1)/2=i→0<i→jA (gt xs ((i-1)/2)) (gt xs j)
theorem nZ.down{xs:List bX}(h:nZ xs)(i:Nat):yk xs i:=
  ⟨fun j aB ab _=>h j aB ab,fun j aB ab ae aF=>Cj (h i aF ah) (ae▸h j aB ab)⟩
theorem acQ{xs:List bX}{i i0:Nat}(h:Cl xs i i0)(he:i=0∨jA (gt xs ((i-1)/2)) (gt xs i)):yk xs i0:=by
 by_cases e:i=i0;subst e;refine⟨fun j aB ab ae=> ?_,h.2⟩;by_cases au:j=i;subst au;rcases he with he|he
 omega;exact he;exact h.1 j aB ab au (.inl ae)
 have bK:nZ xs:=fun j aB ab=>by
  by_cases au:j=i;subst au;rcases he with he|he
  omega;exact he;exact h.1 j aB ab au (.inr e)
 exact bK.down i0
theorem aun{xs:List bX}{i i0:Nat}(h:Cl xs i i0)(aj:0<i)(aA:i<xs.length)(hle:i≤i0)(av:jA (gt xs i) (gt xs ((i-1)/2))):Cl (gf xs i ((i-1)/2)) ((i-1)/2) i0:=by
 obtain⟨p,az⟩:∃p,p=(i-1)/2:=⟨_,rfl⟩
 rw[←az]at av⊢;have Aa:p<i:=by omega
 have dr:p<xs.length:=by omega
 have G:=Ck aA dr;have w7:gt (gf xs i p) i=gt xs p:=by rw[G,if_neg ah,if_pos rfl]
 have acR:gt (gf xs i p) p=gt xs i:=by rw[G,if_pos rfl]
 have go:∀j,j≠i→j≠p→gt (gf xs i p) j=gt xs j:=fun j a b=>by rw[G,if_neg (fun e=>b e.symm),if_neg (fun e=>a e.symm)]
 constructor;intro j aB ab au _;rw[vJ]at ab;by_cases mx:j=i;subst mx;rw[w7,←az,acR];exact av;rw[go j mx au];by_cases dj:(j-1)/2=i;rw[dj,w7,az];exact h.2 j aB ab dj aj;by_cases cY:(j-1)/2=p;rw[cY,acR];exact Cj av (cY▸h.1 j aB ab mx (.inl dj));rw[go _ dj cY];exact h.1 j aB ab mx (.inl dj);intro j aB ab au auo;rw[vJ]at ab;have aQ:(p-1)/2≠i:=by omega
 have aT:(p-1)/2≠p:=by omega
 rw[go _ aQ aT];have acS:jA (gt xs ((p-1)/2)) (gt xs p):=h.1 p auo dr ah (.inl ah);by_cases mx:j=i;subst mx;rw[w7];exact acS;have jp:j≠p:=by omega
 rw[go j mx jp];exact Cj acS (au▸h.1 j aB ab mx (.inl ah))
theorem acT{xs:List bX}{i:Nat}(h:yk xs i)(he:∀j,0<j→j<xs.length→(j-1)/2=i→jA (gt xs i) (gt xs j)):nZ xs:=fun j aB ab=>by by_cases q:(j-1)/2=i;rw[q];exact he j aB ab q;exact h.1 j aB ab q
theorem aup{xs:List bX}{i c:Nat}(h:yk xs i)(aq:(c-1)/2=i)(aV:0<c)(eR:c<xs.length)(av:jA (gt xs c) (gt xs i))(auq:∀j,0<j→j<xs.length→(j-1)/2=i→jA (gt xs c) (gt xs j)):yk (gf xs i c) c:=by
 have e0:i<xs.length:=by omega
 have UC:i<c:=by omega
 have G:=Ck e0 eR;have w7:gt (gf xs i c) i=gt xs c:=by rw[G,if_neg ah,if_pos rfl]
 have gc:gt (gf xs i c) c=gt xs i:=by rw[G,if_pos rfl]
 have go:∀j,j≠i→j≠c→gt (gf xs i c) j=gt xs j:=fun j a b=>by rw[G,if_neg (fun e=>b e.symm),if_neg (fun e=>a e.symm)]
 constructor;intro j aB ab au;rw[vJ]at ab;by_cases HW:j=c;subst HW;rw[gc,aq,w7];exact av;by_cases mx:j=i;subst mx;have aQ:(j-1)/2≠j:=by omega
 rw[w7,go _ aQ au];exact h.2 c aV eR aq ah;rw[go j mx HW];by_cases dj:(j-1)/2=i;rw[dj,w7];exact auq j aB ab dj;rw[go _ dj au];exact h.1 j aB ab dj;intro j aB ab au _;rw[vJ]at ab;have mx:j≠i:=by omega
 have HW:j≠c:=by omega
 rw[aq,w7,go j mx HW];exact au▸h.1 j aB ab ah
theorem aur{xs:List bX}(h:nZ xs):∀(n j:Nat),j≤n→j<xs.length→jA (gt xs 0) (gt xs j):=by
 intro n
 induction n with
 |zero=>intro j au _;rw[show j=0 by omega];exact Ma _
 |succ n aY=>intro j au aA;by_cases aB:j=0;rw[aB];exact Ma _;exact Cj (aY ((j-1)/2) ah ah) (h j ah aA)
def h0(xs:List bX)(mp:bU):Prop:=(∀j,j<xs.length→dG mp (gt xs j).2=some (.int .i64 j))∧∀id,(∀j,j<xs.length→(gt xs j).2≠id)→dG mp id=none
theorem h0.inj{xs:List bX}{mp:bU}(h:h0 xs mp){i j:Nat}(aj:i<xs.length)(au:j<xs.length)(e:(gt xs i).2=(gt xs j).2):i=j:=by
 have ab:=h.1 i aj;rw[e,h.1 j au]at ab;simp at ab;omega
theorem h0.swap {xs:List bX} {mp lf:bU} {i k:Nat} (h:h0 xs mp) (aj:i<xs.length) (hk:k<xs.length)
 (hm:∀q,dG lf q=if(gt xs i).2=q then some (.int .i64 k)else if(gt xs k).2=q then some (.int .i64 i)else dG mp q):h0 (gf xs i k) lf:=by
 have G:=Ck aj hk;constructor;intro j au;rw[vJ]at au;rw[G,hm];by_cases Cm:k=j;rw[if_pos Cm,if_pos rfl,Cm];rw[if_neg Cm];by_cases mx:i=j;rw[if_pos mx];by_cases e:(gt xs i).2=(gt xs k).2;have:=h.inj aj hk e;omega;rw[if_neg e,if_pos rfl,mx];rw[if_neg mx,if_neg (fun e=>mx (h.inj aj au e)),if_neg (fun e=>Cm (h.inj hk au e))];exact h.1 j au;intro id vH;rw[vJ]at vH;have ab:=vH i aj;have ae:=vH k hk;rw[G]at ab ae;rw[if_pos rfl]at ae;have aF:(gt xs k).2≠id:=by by_cases e:k=i;subst e;exact ae;rw[if_neg e,if_pos rfl]at ab;exact ab
 rw[hm,if_neg ae,if_neg aF];refine h.2 id fun j au=> ?_;have:=vH j au;rw[G]at this;by_cases Cm:k=j;subst Cm;exact aF;rw[if_neg Cm]at this;by_cases mx:i=j;subst mx;exact ae;rw[if_neg mx]at this;exact this
theorem Lg.bJ.gK {C:Ctx} {Q:Exit→Act→World→Prop} {σ:Env} {ds:List dN} {I:aa} {δ:List ay} {v_:Code} {A:Option Addr} {c n size:Nat} {e:TypeId} {xs:List Value} (aH:Has δ (.row (.slice A n c) e size n xs)) (aD:0<n)
 (h:A.isSome=true→n≤c→bJ C v_ Q σ ds I δ):bJ C v_ Q σ ds I δ:=by
 intro a w he ao ar;have an:w.ownsRow 0 e size (.slice A n c) n xs:=ao.dQ _ aH.mem;rcases an.2 with⟨ab,ae⟩|⟨g,cap,cur,ab,_,_,aF,_⟩
 omega;cases ab;exact h rfl aF a w he ao ar
abbrev h1(al mb:Nat)(A:Option Addr)(c:Nat)(xs:List bX)(mp:bU):List ay:= [.box al 105 [.slice A xs.length c,.map (some mb)],.row (.slice A xs.length c) 150 2 xs.length (g9 xs),.map mb mp]
theorem H0{xs:List bX}{i:Nat}(h:i<xs.length):kU true 2 ((g9 xs).drop (i*2))=some (.agg #[.int .i64 (gt xs i).1,.int .i64 (gt xs i).2]):=by rw[aul xs i h,uA h];rfl
theorem acU{xs:List bX}{i:Nat}(h:i<xs.length):kU false 1 ((g9 xs).drop (i*2+1))=some (.int .i64 (gt xs i).2):=u1 (by rw[(L_ xs i h).2,uA h])
theorem acV{xs:List bX}{i:Nat}(h:i<xs.length)(y:bX):Lg.cS (g9 xs) (i*2) [.int .i64 y.1,.int .i64 y.2]=some (g9 (xs.set i y)):=by
 obtain⟨ab,ae⟩:=L_ xs i h;rw[acO xs i y h];exact V1 ab ae
theorem aus(a b:bX):decide (nM [k3 a.1 b.1,k3 a.2 b.2]<0)=vI a b:=by
 have h:nM [k3 a.1 b.1,k3 a.2 b.2]<0↔(a.1<b.1∨(a.1=b.1∧a.2<b.2)):=by
  simp only[nM,k3];by_cases ab:a.1<b.1;simp[ab];by_cases ae:b.1<a.1;simp[ab,ae];omega;have e:a.1=b.1:=by omega
  by_cases aF:a.2<b.2;simp[e,aF];by_cases bb:b.2<a.2;simp[e,aF,bb];simp[e,aF,bb]
 rw[Bool.eq_iff_iff,Sp,decide_eq_true_eq,h]
theorem aut(a b:Int):dZ (k3 a b):=by have:=Jg a b;unfold dZ;omega
theorem acW{I:aa}{al mb c:Nat}{A:Option Addr}{xs:List bX}{mp:bU}{i k:Nat}(aj:i<xs.length)(hk:k<xs.length)(aA:xs.length≤1000000000):
 aS Tryz.prog 163 [.pointer (some ⟨al,0,none⟩),.int .i64 i,.int .i64 k] I (h1 al mb A c xs mp) (fun v _ δ'=>v=.bool (vI (gt xs i) (gt xs k))∧δ'=h1 al mb A c xs mp):=by
 refine a1 func163 ntmps163 fun aG=> ?_;refine a_ ?_;refine mG (fun aL ai δ'=>∃Su Sv:Nat,aL= [(7,.pointer (some ⟨Su,0,none⟩)),(8,.pointer (some ⟨Sv,0,none⟩))]∧I=ai∧δ'=.box Sv 150 [.int .i64 (gt xs k).1,.int .i64 (gt xs k).2]:: .box Su 150 [.int .i64 (gt xs i).1,.int .i64 (gt xs i).2]::h1 al mb A c xs mp) ?_ ?_;refine bJ.gK (Has.there Has.here) ah (fun bo eV=> ?_);refine tk (.ct 0 (.ct 1 (.ct 2 (.ct 3 (.ct 4 (.ct 5 (.ct 6 (.ct 7 (.ct 8 (.ct 9 (.ct 10 (.ct 11 (.ct 12 (.ct 13 (.two 14 15 (.cA 15 (.cA 16 (.cA 17 .done))) (.cA 14 (.cA 16 (.cA 17 .done)))))))))))))))))) (fun _=>h1 al mb A c xs mp) mixed (by kernel_rfl) (by kernel_rfl) (fun _=>(List.Sublist.refl _)) ?_;refine aZ ?_;refine dg rfl (gH wb rfl (Has.there Has.here) bo (H0 aj)) ?_;refine aZ ?_;refine dg rfl (gH wb rfl cW bo (H0 hk)) ?_;refine na ?_ ?_;refine bh fun dp=> ?_;refine aR ?_;refine bh fun b8=> ?_;refine br ?_;refine fU ?_;refine aX ?_;exact q6 _ ⟨dp,b8,rfl,rfl,rfl⟩ ⟨rfl,rfl,trivial⟩;refine bh fun b8=> ?_;refine aR ?_;refine bh fun dp=> ?_;refine br ?_;refine fU ?_;refine aX ?_;(refine bf.view (View.perm (List.Perm.swap _ _ _)) ?_;exact q6 _ ⟨dp,b8,rfl,rfl,rfl⟩ ⟨rfl,rfl,trivial⟩);rintro _ _ _ ⟨Su,Sv,rfl,rfl,rfl⟩;refine aX ?_;refine g5 [0,2,4,6,10,12,14,16,9,19,21,23,24,27] ?_;refine br ?_;refine bN rfl VV ?_;rintro _ u3 _ wm ⟨rfl,rfl⟩;refine aR ?_;refine bN rfl VV ?_;rintro _ rr _ ss ⟨rfl,rfl⟩;refine aR ?_;refine c_ fun az1=> ?_;refine aK.dO aO.here ?_;rintro A9 J_ Ga wy aC XW amS Gb;cases aC;refine aR ?_;refine bN rfl (akl (bY.of (xs:= [k3 (gt xs i).1 (gt xs k).1,k3 (gt xs i).2 (gt xs k).2]) rfl XW ah Gb (by intro x af;simp at af;rcases af with rfl|rfl<;>exact aut _ _))) ?_;rintro _ qt _ py ⟨rfl,rfl⟩;refine go2 ?_;refine dg rfl (kV (z:=vI (gt xs i) (gt xs k)) rfl rfl (congrArg some (aus _ _))) ?_;refine aR ?_;refine dB ?_;refine aR ?_;refine dv (rs:= [.tmp 6]) rfl (List.Perm.refl _) (.cons (.tmp rfl) .nil) (List.Sublist.cons _ (List.Sublist.cons _ (List.Sublist.refl _))) ?_;exact⟨rfl,rfl⟩
theorem Sw{I:aa}{al mb c:Nat}{A:Option Addr}{xs:List bX}{mp:bU}{i k:Nat}(aj:i<xs.length)(hk:k<xs.length)(aA:xs.length≤1000000000)(aW:h0 xs mp):
 aS Tryz.prog 144 [.pointer (some ⟨al,0,none⟩),.int .i64 i,.int .i64 k] I (h1 al mb A c xs mp) (fun v _ δ'=>∃lf,h0 (gf xs i k) lf∧δ'=h1 al mb A c (gf xs i k) lf):=by
 have oz:=vJ xs i k;have iO:(xs.set i (gt xs k)).length=xs.length:=by simp
 have G:=Ck aj hk;have auu:gt (gf xs i k) k=gt xs i:=by rw[G,if_pos rfl]
 have w7:gt (gf xs i k) i=gt xs k:=by rw[G];split;(rename_i e;rw[e]);rw[if_pos rfl]
 refine a1 func144 ntmps144 fun aG=> ?_;refine aX ?_;refine bJ.gK (Has.there Has.here) ah (fun bo eV=> ?_);refine eU [0,2,4,6,8,10,12,14,16,18,20,22,24,26,28,30,32,34,36,38,40,42,44,46,48,51,52,55] (sj [3,8,13,16,20,23] (h1 al mb A c xs mp)) (AQ (List.Sublist.refl _)) ?_;refine fT ?_;refine dg rfl (gH wb rfl (Has.there Has.here) bo (H0 hk)) ?_;refine aZ ?_;refine dg rfl (gH wb rfl (Has.there Has.here) bo (H0 aj)) ?_;refine go2 ?_;refine nC (xs':=g9 (xs.set i (gt xs k))) wb rfl rfl bo rfl rfl rfl (by simp[c9]) (bc.there bc.here) (acV aj (gt xs k)) ?_;refine aX ?_;refine yL (I3 (by kernel_rfl) aa.ag) ?_;refine go2 ?_;refine nC (xs':=g9 (gf xs i k)) wb rfl rfl bo rfl rfl rfl (by simp[c9]) (bc.there bc.here) (acV (xs:=xs.set i (gt xs k)) (by rw[iO];exact hk) (gt xs i)) ?_;refine aX ?_;refine fU ?_;refine go2 ?_;refine eU [0,2,4,6,8,10,12,14,16,18,20,22,24,26,28,30,32,34,36,38,40,42,44,46,48,50,53,54,57,59,60,63] (fun _=> [.box al 105 [.slice A xs.length c,.map (some mb)],.row (.slice A xs.length c) 150 2 xs.length (g9 (gf xs i k))]) (fun _=>(List.Sublist.cons_cons _ (List.Sublist.cons_cons _ (List.nil_sublist _)))) ?_;refine bA ?_;refine dg rfl (gH l8 rfl (Has.there Has.here) bo (acU (xs:=gf xs i k) (by rw[oz];exact aj))) ?_;refine bA ?_;refine dg rfl (gH l8 rfl (Has.there Has.here) bo (acU (xs:=gf xs i k) (by rw[oz];exact hk))) ?_;refine aR ?_;refine Uh (δ':=fun es dC=> [.box al 105 [.slice A xs.length c,.map (some mb)],.row (.slice A xs.length c) 150 2 xs.length (g9 (gf xs i k)),.obj mb (.map es dC)]) underlying102 underlying3 z3 (by rfl) (by rfl) (by rfl) (fun _ _=>bc.there (bc.there bc.here)) (fun az2 az3 az4 auv auw=> ?_);refine a8 ?_;refine Uj auv auw rfl rfl rfl rfl (bc.there (bc.there bc.here)) ?_;refine aR ?_;refine Uh (δ':=fun es dC=> [.box al 105 [.slice A xs.length c,.map (some mb)],.row (.slice A xs.length c) 150 2 xs.length (g9 (gf xs i k)),.obj mb (.map es dC)]) underlying102 underlying3 z3 (by rfl) (by rfl) (by rfl) (fun _ _=>bc.there (bc.there bc.here)) (fun az5 az6 az7 auy auz=> ?_);refine a8 ?_;refine Uj auy auz rfl rfl rfl rfl (bc.there (bc.there bc.here)) ?_;refine aX ?_;refine fU ?_;refine aX ?_;have pj:∀m,h0 (gf xs i k) m→∃lf,h0 (gf xs i k) lf∧([.box al 105 [.slice A xs.length c,.map (some mb)],.row (.slice A xs.length c) 150 2 xs.length (g9 (gf xs i k)),.map mb m]:List ay)=h1 al mb A c (gf xs i k) lf:=fun m h=>⟨m,h,by simp only[h1,oz]⟩
 refine pb (rs:= []) rfl (List.Perm.refl _) .nil (List.Sublist.refl _) (pj _ (aW.swap aj hk ?_));intro q;rw[Nl,Nl,vZ,vZ,auu,w7]
section
attribute [local irreducible] aK bf bJ
theorem acX{I:aa}{al mb c:Nat}{A:Option Addr}{xs:List bX}{mp:bU}{i:Nat}(aj:i<xs.length)(aA:xs.length≤1000000)(aW:h0 xs mp)(hu:Cl xs i i):
 aS Tryz.prog 126 [.pointer (some ⟨al,0,none⟩),.int .i64 i] I (h1 al mb A c xs mp) (fun v _ δ'=>∃xs' lf,xs'.Perm xs∧yk xs' i∧h0 xs' lf∧δ'=h1 al mb A c xs' lf):=by
 refine a1 func126 ntmps126 fun aG=> ?_;refine aX ?_;refine ek (fun m aL ai δ'=>∃(cur:Nat) (ys:List bX) (e4:bU),m=cur∧aL= [(0,.pointer (some ⟨al,0,none⟩)),(1,.int .i64 cur)]∧I.le ai∧δ'=h1 al mb A c ys e4∧cur≤i∧ys.Perm xs∧Cl ys cur i∧h0 ys e4) i [(0,.pointer (some ⟨al,0,none⟩)),(1,.int .i64 i)] ⟨i,xs,mp,rfl,rfl,aa.le_refl _,rfl,Nat.le_refl _,List.Perm.refl _,hu,aW⟩ ⟨rfl,rfl,trivial⟩ ?_;rintro cur _ I0 _ ⟨_,ys,e4,rfl,rfl,bO,rfl,wD,hb,hinv,cn⟩;have mq:=hb.length_eq;refine a8 ?_;by_cases eX:0<cur;have Sx:((cur-1:Nat):Int).tdiv 2=(((cur-1)/2:Nat):Int):=rfl;refine a_ ?_;refine cZ ?_;refine aI (gG (c:=((cur-1:Nat):Int)) rfl rfl ah ah) ?_;refine cZ ?_;refine aI (Nw (c:=(((cur-1)/2:Nat):Int)) rfl rfl (by decide) Sx ah) ?_;refine cZ ?_;refine hr rfl (acW ah ah ah) ?_;rintro wC nN _ mf ⟨rfl,rfl⟩;rw[List.append_nil];by_cases vp:vI (gt ys cur) (gt ys ((cur-1)/2))=true;rw[vp];refine bW ?_;refine aI (gG (c:=((cur-1:Nat):Int)) rfl rfl ah ah) ?_;refine aI (Nw (c:=(((cur-1)/2:Nat):Int)) rfl rfl (by decide) Sx ah) ?_;refine hr rfl (Sw (i:=cur) (k:=(cur-1)/2) ah ah ah cn) ?_;rintro tD sr _ wo ⟨Sy,AA,rfl⟩;rw[List.append_nil];refine a8 ?_;refine aI (gG (c:=((cur-1:Nat):Int)) rfl rfl ah ah) ?_;refine aI (Nw (c:=(((cur-1)/2:Nat):Int)) rfl rfl (by decide) Sx ah) ?_;refine aR ?_;refine cV ((cur-1)/2) [(0,.pointer (some ⟨al,0,none⟩)),(1,.int .i64 ((cur-1)/2:Nat))] ah ⟨(cur-1)/2,_,Sy,rfl,rfl,aa.ag,rfl,by omega,(Ss ah ah).trans hb,aun hinv eX ah wD (Sq vp),AA⟩ ⟨rfl,rfl,trivial⟩;have acY:vI (gt ys cur) (gt ys ((cur-1)/2))=false:=by simpa using vp
 rw[acY];refine bg ?_;exact pb (rs:= []) rfl (List.Perm.refl _) .nil (List.Sublist.refl _) ⟨ys,e4,hb,acQ hinv (.inr (acP acY)),cn,rfl⟩;refine fT ?_;exact pb (rs:= []) rfl (List.Perm.refl _) .nil (List.Sublist.refl _) ⟨ys,e4,hb,acQ hinv (.inl ah),cn,rfl⟩
theorem auA{I:aa}{al mb c:Nat}{A:Option Addr}{xs:List bX}{mp:bU}{i:Nat}(aj:i<xs.length)(aA:xs.length≤1000000)(aW:h0 xs mp)(hu:yk xs i):
 aS Tryz.prog 145 [.pointer (some ⟨al,0,none⟩),.int .i64 i] I (h1 al mb A c xs mp) (fun v _ δ'=>∃xs' lf,xs'.Perm xs∧nZ xs'∧h0 xs' lf∧δ'=h1 al mb A c xs' lf):=by
 refine a1 func145 ntmps145 fun aG=> ?_;refine aX ?_;refine ek (fun m aL ai δ'=>∃(cur:Nat) (ys:List bX) (e4:bU),m=xs.length-cur∧aL= [(0,.pointer (some ⟨al,0,none⟩)),(1,.int .i64 cur)]∧I.le ai∧δ'=h1 al mb A c ys e4∧cur<xs.length∧ys.Perm xs∧yk ys cur∧h0 ys e4) (xs.length-i) [(0,.pointer (some ⟨al,0,none⟩)),(1,.int .i64 i)] ⟨i,xs,mp,rfl,rfl,aa.le_refl _,rfl,aj,List.Perm.refl _,hu,aW⟩ ⟨rfl,rfl,trivial⟩ ?_;rintro m _ I0 _ ⟨cur,ys,e4,rfl,rfl,bO,rfl,wD,hb,hinv,cn⟩;have mq:=hb.length_eq;refine bA ?_;refine aI (yC (c:=((2*cur:Nat):Int)) rfl rfl ah ah) ?_;refine aI (tg (c:=((2*cur+1+0:Nat):Int)) rfl rfl ah ah) ?_;refine aX ?_;refine aI (yC (c:=((2*cur:Nat):Int)) rfl rfl ah ah) ?_;refine aI (tg (c:=((2*cur+1+1:Nat):Int)) rfl rfl ah ah) ?_;refine c_ fun oI=> ?_;refine aK.dO aO.here ?_;rintro pL al8 al9 rG aC al_ ama OY;cases aC
 have hc:∀n,n<2→Lg.At pL (some ⟨oI,0,none⟩) (n*1) [.int .i64 ((2*cur+1+n:Nat):Int)]:=fun n aD=>OY.at _ fun j u au=>by
  rcases j with _|j
  simp at au;subst au;rcases n with _|_|n
  rfl;rfl;omega;simp at au
 refine a_ ?_;refine ek (fun m aL ai δ'=>∃(n b:Nat),m=2-n∧n≤2∧aL= [(0,.pointer (some ⟨al,0,none⟩)),(1,.int .i64 cur),(4,.int .i64 b),(14,.slice (some ⟨oI,0,none⟩) 2 2),(15,.int .i64 2),(16,.int .i64 n)]∧pL.le ai∧δ'=h1 al mb A c ys e4∧(b=cur∨(0<b∧(b-1)/2=cur))∧b<ys.length∧jA (gt ys b) (gt ys cur)∧∀j,(j=2*cur+1∧0<n)∨(j=2*cur+2∧1<n)→j<ys.length→jA (gt ys b) (gt ys j)) 2 [(0,.pointer (some ⟨al,0,none⟩)),(1,.int .i64 cur),(4,.int .i64 cur),(14,.slice (some ⟨oI,0,none⟩) 2 2),(15,.int .i64 2),(16,.int .i64 (0:Nat))] ⟨0,cur,rfl,by omega,rfl,aa.ag,rfl,.inl rfl,by omega,Ma _,fun j au _=>by omega⟩ ⟨rfl,rfl,rfl,rfl,rfl,rfl,trivial⟩ ?_;rintro m _ en _ ⟨n,b,rfl,aD,rfl,lJ,rfl,g3,ia,mJ,H2⟩;refine aZ ?_;refine bF rfl (fun aV=> ?_) (fun aV=> ?_);have av:n<2:=by have h:=aV;simp at h;omega
 have db:=(hc n av).isSome;refine aP ?_;refine aI (cC ((hc n av).mono lJ)) ?_;refine bA ?_;by_cases mX:2*cur+1+n<ys.length;refine a_ ?_;refine cZ ?_;refine hr rfl (acW (i:=2*cur+1+n) (k:=b) mX ia ah) ?_;rintro xJ xK _ xL ⟨rfl,rfl⟩;rw[List.append_nil];by_cases hJ:vI (gt ys (2*cur+1+n)) (gt ys b)=true;rw[hJ];refine dn ?_;refine cV (2-(n+1)) [(0,.pointer (some ⟨al,0,none⟩)),(1,.int .i64 cur),(4,.int .i64 (2*cur+1+n:Nat)),(14,.slice (some ⟨oI,0,none⟩) 2 2),(15,.int .i64 2),(16,.int .i64 (n+1:Nat))] ah ⟨n+1,2*cur+1+n,rfl,av,rfl,aa.ag,rfl,.inr ⟨by omega,by omega⟩,mX,Cj (Sq hJ) mJ,fun j au iA=> ?_⟩ ⟨rfl,rfl,rfl,rfl,rfl,rfl,trivial⟩;by_cases e:j=2*cur+1+n;rw[e];exact Ma _;exact Cj (Sq hJ) (H2 j ah iA);have acZ:vI (gt ys (2*cur+1+n)) (gt ys b)=false:=by simpa using hJ
 rw[acZ];refine bA ?_;refine cV (2-(n+1)) [(0,.pointer (some ⟨al,0,none⟩)),(1,.int .i64 cur),(4,.int .i64 b),(14,.slice (some ⟨oI,0,none⟩) 2 2),(15,.int .i64 2),(16,.int .i64 (n+1:Nat))] ah ⟨n+1,b,rfl,av,rfl,aa.ag,rfl,g3,ia,mJ,fun j au iA=> ?_⟩ ⟨rfl,rfl,rfl,rfl,rfl,rfl,trivial⟩;by_cases e:j=2*cur+1+n;rw[e];exact acP acZ;exact H2 j ah iA;refine fx ?_;refine cV (2-(n+1)) [(0,.pointer (some ⟨al,0,none⟩)),(1,.int .i64 cur),(4,.int .i64 b),(14,.slice (some ⟨oI,0,none⟩) 2 2),(15,.int .i64 2),(16,.int .i64 (n+1:Nat))] ah ⟨n+1,b,rfl,av,rfl,aa.ag,rfl,g3,ia,mJ,fun j au iA=>H2 j ah iA⟩ ⟨rfl,rfl,rfl,rfl,rfl,rfl,trivial⟩;have bV:n=2:=by have h:=aV;simp at h;omega
 subst bV;refine b_ ?_;by_cases nn:b=cur;refine br ?_;exact dv (rs:= []) rfl (List.Perm.refl _) .nil (List.Sublist.refl _) ⟨ys,e4,hb,acT hinv (fun j aB ab ae=>nn▸H2 j ah ab),cn,rfl⟩;have CN:0<b∧(b-1)/2=cur:=by rcases g3 with h|h;exact absurd h nn;exact h
 refine bA ?_;refine hr rfl (Sw (i:=cur) (k:=b) ah ia ah cn) ?_;rintro v41 OP _ OQ ⟨Sy,AA,rfl⟩;rw[List.append_nil];refine aP ?_;refine cV (xs.length-b) [(0,.pointer (some ⟨al,0,none⟩)),(1,.int .i64 b)] ah ⟨b,_,Sy,rfl,rfl,aa.ag,rfl,by omega,(Ss ah ia).trans hb,aup hinv CN.2 CN.1 ia mJ (fun j aB ab ae=>H2 j ah ab),AA⟩ ⟨rfl,rfl,trivial⟩
theorem H3{xs:List bX}{x:bX}{j:Nat}:gt (xs++ [x]) j=if j<xs.length then gt xs j else if j=xs.length then x else(0,0):=by
 unfold gt;rw[List.getD_eq_getElem?_getD,List.getD_eq_getElem?_getD];by_cases h:j<xs.length;rw[if_pos h,List.getElem?_append_left h];rw[if_neg h,List.getElem?_append_right ah];by_cases e:j=xs.length;simp[e];rw[if_neg e,List.getElem?_eq_none (by simp;omega)];rfl
theorem ac0{xs:List bX}{n j:Nat}(h:j<n):gt (xs.take n) j=gt xs j:=by
 unfold gt;rw[List.getD_eq_getElem?_getD,List.getD_eq_getElem?_getD,List.getElem?_take,if_pos h]
theorem Sz{xs:List bX}{id:Int}:id∈xs.map (·.2)↔∃j,j<xs.length∧(gt xs j).2=id:=by
 rw[List.mem_map];constructor;rintro⟨x,af,rfl⟩;obtain⟨j,au,rfl⟩:=List.getElem_of_mem af;exact⟨j,au,by rw[uA au]⟩;rintro⟨j,au,rfl⟩;exact⟨xs[j],List.getElem_mem au,by rw[uA au]⟩
theorem h0.ac1{xs:List bX}{mp:bU}(h:h0 xs mp){id:Int}(aD:id∉xs.map (·.2)):dG mp id=none:=
  h.2 id fun j au e=>aD (Sz.2 ⟨j,au,e⟩)
theorem h0.has{xs:List bX}{mp:bU}(h:h0 xs mp){id:Int}(aD:id∈xs.map (·.2)):∃j,j<xs.length∧(gt xs j).2=id∧dG mp id=some (.int .i64 (j:Nat)):=by
 obtain⟨j,au,e⟩:=Sz.1 aD;exact⟨j,au,e,e▸h.1 j au⟩
theorem h0.push{xs:List bX}{mp lf:bU}{x:bX}(h:h0 xs mp)(aD:x.2∉xs.map (·.2))(hm:∀q,dG lf q=if x.2=q then some (.int .i64 xs.length)else dG mp q):h0 (xs++ [x]) lf:=by
 constructor;intro j au;rw[List.length_append]at au;simp at au;rw[H3,hm];by_cases e:j<xs.length;rw[if_pos e,if_neg (fun q=>aD (Sz.2 ⟨j,e,q.symm⟩))];exact h.1 j e;have:j=xs.length:=by omega
 rw[if_neg e,if_pos this,if_pos rfl,this];intro id vH;have ab:=vH xs.length (by simp);rw[H3,if_neg ah,if_pos rfl]at ab;rw[hm,if_neg ab];refine h.2 id fun j au=> ?_;have:=vH j (by simp;omega);rwa[H3,if_pos au]at this
theorem auB{xs:List bX}(x:bX)(h:nZ xs):Cl (xs++ [x]) xs.length xs.length:=by
 constructor;intro j aB ab au _;rw[List.length_append]at ab;simp at ab;rw[H3,H3,if_pos ah,if_pos ah];exact h j aB ah;intro j aB ab au az;rw[List.length_append]at ab;simp at ab;omega
theorem auC{xs:List bX}{n:Nat}(h:yk xs n)(aD:xs.length≤n+1):nZ xs:=acT h fun j aB ab ae=>by omega
def q0(xs:List bX)(i:Nat):List bX:=(gf xs i (xs.length-1)).take (xs.length-1)
theorem Ei(xs:List bX)(i:Nat):(q0 xs i).length=xs.length-1:=by unfold q0;rw[List.length_take,vJ];omega
theorem Ej{xs:List bX}{i:Nat}(aj:i<xs.length){j:Nat}(au:j<xs.length-1):gt (q0 xs i) j=if i=j then gt xs (xs.length-1)else gt xs j:=by
 unfold q0;rw[ac0 au,Ck aj ah,if_neg ah]
theorem ac2{xs:List bX}{i:Nat}(aj:i<xs.length):xs.Perm (gt xs i::q0 xs i):=by
 have ab:=(Ss aj (show xs.length-1<xs.length by omega)).symm;refine ab.trans ?_;have e:gf xs i (xs.length-1)=q0 xs i++ [gt xs i]:=by unfold q0;have aA:=vJ xs i (xs.length-1);have ae:=List.take_append_drop (xs.length-1) (gf xs i (xs.length-1));rw[List.drop_eq_getElem_cons ah,List.drop_eq_nil_of_le ah]at ae;have aF:=uA (xs:=gf xs i (xs.length-1)) (j:=xs.length-1) ah;rw[Ck aj ah,if_pos rfl]at aF;rw[←aF]at ae;exact ae.symm
 rw[e];exact List.perm_append_comm
theorem auD{xs:List bX}{i:Nat}(h:nZ xs)(aj:i<xs.length-1):Cl (q0 xs i) i i:=by
 constructor;intro j aB ab au az;rw[Ei]at ab;rw[Ej ah ah,Ej ah ab,if_neg ah,if_neg ah];exact h j aB ah;intro j aB ab au az;rw[Ei]at ab;rw[Ej ah ah,Ej ah ab,if_neg ah,if_neg ah];exact Cj (h i az ah) (au▸h j aB ah)
theorem auE{xs:List bX}{mp uB Cn:bU}{i:Nat}(h:h0 xs mp)(aj:i<xs.length)(ab:h0 (gf xs i (xs.length-1)) uB)(hm:∀q,dG Cn q=if q=(gt xs i).2 then none else dG uB q):h0 (q0 xs i) Cn:=by
 have aA:=vJ xs i (xs.length-1);have ac3:gt (gf xs i (xs.length-1)) (xs.length-1)=gt xs i:=by rw[Ck aj ah,if_pos rfl]
 have ge:∀j,j<xs.length-1→gt (q0 xs i) j=gt (gf xs i (xs.length-1)) j:=fun j au=>by unfold q0;exact ac0 au
 constructor;intro j au;rw[Ei]at au;rw[ge j au,hm];have cu:(gt (gf xs i (xs.length-1)) j).2≠(gt xs i).2:=fun e=>by have:=ab.inj (i:=j) (j:=xs.length-1) ah ah (by rw[ac3];exact e);omega
 rw[if_neg cu];exact ab.1 j ah;intro id vH;rw[hm];split;rfl;rename_i cu;refine ab.2 id fun j au=> ?_;by_cases e:j=xs.length-1;rw[e,ac3];exact fun q=>cu q.symm;have:=vH j (by rw[Ei];omega);rwa[ge j ah]at this
def SA(xs:List bX)(x:bX)(e:Int)(ys:List bX):Prop:=(x.2∈xs.map (·.2)∧e=1∧ys=xs)∨(x.2∉xs.map (·.2)∧4096≤xs.length∧e=9∧ys=xs)∨(x.2∉xs.map (·.2)∧xs.length<4096∧e=0∧ys.Perm (xs++ [x]))
def H4(xs:List bX)(id:Int)(b:Bool)(ys:List bX):Prop:=(id∉xs.map (·.2)∧b=false∧ys=xs)∨∃x,x.2=id∧b=true∧xs.Perm (x::ys)
theorem Lg.ac4{I cm:aa}{δ:List ay}{k:Nat}{A B:List ay}{bR:h4}(aB:cm.le I)(ab:∀x∈A,x∈δ)(ae:∀x∈B,x∈δ):xe cm I (two k A B) bR δ:=fun p _=>⟨aB,fun x af=>by unfold two at af;cases aC:Nat.blt p.1 k<;>rw[aC]at af;exact ae x af;exact ab x af⟩
theorem ac5(I:aa):aS Tryz.prog 27 [] I [] (fun v _ δ'=>∃al mb,v=.pointer (some ⟨al,0,none⟩)∧δ'=h1 al mb none 0 [] []):=by
 refine a1 func27 ntmps27 fun aG=> ?_;refine aP ?_;refine tm rfl (fun e2=> ?_);refine aX ?_;refine bw fun b3=> ?_;refine a8 ?_;refine bf.view ((View.gh 150 2).trans (View.perm (List.Perm.swap _ _ _))) (dv (rs:= [.tmp 0]) rfl (List.Perm.refl _) (.cons (.tmp rfl) .nil) (List.Sublist.refl _) ⟨_,_,rfl,rfl⟩)
theorem ac6{I:aa}{al mb c:Nat}{A:Option Addr}{xs:List bX}{mp:bU}(aA:xs.length≤1000000):
 aS Tryz.prog 93 [.pointer (some ⟨al,0,none⟩)] I (h1 al mb A c xs mp) (fun v _ δ'=>v=.tuple #[.agg #[.int .i64 (gt xs 0).1,.int .i64 (gt xs 0).2],.bool (decide (0<xs.length))]∧δ'=h1 al mb A c xs mp):=by
 refine a1 func93 ntmps93 fun aG=> ?_;refine go2 ?_;refine bh fun b2=> ?_;refine aP ?_;refine aI (pn underlying75 rfl rfl rfl) ?_;refine aZ ?_;by_cases hT:xs.length=0;refine dn ?_;refine dv (rs:= [.cell 2 150,.tmp 3]) rfl (List.Perm.refl _) (.cons (.cell rfl wb cW rfl) (.cons (.tmp rfl) .nil)) (List.Sublist.cons _ (List.Sublist.refl _)) ?_;have af:xs= []:=List.eq_nil_of_length_eq_zero hT;subst af;exact⟨rfl,rfl⟩;refine br ?_;refine aK.gK (Has.there (Has.there Has.here)) ah (fun bo eV=> ?_);refine a8 ?_;refine aI (tn underlying103 NH rfl rfl) ?_;refine aI (gH wb rfl (Has.there (Has.there Has.here)) bo (H0 (i:=0) ah)) ?_;refine a_ ?_;refine dv (rs:= [.cell 2 150,.tmp 3]) rfl (List.Perm.refl _) (.cons (.cell rfl wb cW rfl) (.cons (.tmp rfl) .nil)) (List.Sublist.cons _ (List.Sublist.refl _)) ?_;exact⟨by rw[show decide (0<xs.length)=true by simp;omega];rfl,rfl⟩
theorem auF{I:aa}{al mb c:Nat}{A:Option Addr}{xs:List bX}{mp:bU}:
 aS Tryz.prog 38 [.pointer (some ⟨al,0,none⟩)] I (h1 al mb A c xs mp) (fun v _ δ'=>v=.int .i64 xs.length∧δ'=h1 al mb A c xs mp):=by
 refine a1 func38 ntmps38 fun aG=> ?_;refine br ?_;refine aI (pn (z:=false) underlying75 rfl rfl rfl) ?_;refine fT ?_;refine dY ?_;exact⟨rfl,rfl⟩
theorem ac7{I:aa}{al mb c:Nat}{A:Option Addr}{xs:List bX}{mp:bU}{x:bX}(aA:xs.length≤4096)(aW:h0 xs mp)(bK:nZ xs):
 aS Tryz.prog 89 [.pointer (some ⟨al,0,none⟩),.agg #[.int .i64 x.1,.int .i64 x.2]] I (h1 al mb A c xs mp) (fun v _ δ'=>∃e c7 cJ ys e4,v=.int .i64 e∧SA xs x e ys∧ys.length≤4096∧h0 ys e4∧nZ ys∧δ'=h1 al mb c7 cJ ys e4):=by
 refine a1 func89 ntmps89 fun aG=> ?_;refine go2 ?_;refine bw fun b3=> ?_;refine aP ?_;refine aI (pn (z:=false) underlying75 rfl rfl rfl) ?_;refine aP ?_;refine g5 [0,2,4,6,8,10,13,14,16,18,21,23] ?_;refine aP ?_;refine aI (jr underlying102 underlying3 z3 rfl rfl cW rfl rfl) ?_;refine bW ?_;refine dB ?_;refine a8 ?_;by_cases kE:x.2∈xs.map (·.2);obtain⟨j,au,he,hm⟩:=aW.has kE;rw[hm];refine bA ?_;refine dv (rs:= [.tmp 4]) rfl (List.Perm.refl _) (.cons (.tmp rfl) .nil) (List.Sublist.cons _ (List.Sublist.refl _)) ?_;exact⟨1,A,c,xs,mp,rfl,.inl ⟨kE,rfl,rfl⟩,aA,aW,bK,rfl⟩;have hm:=aW.ac1 kE;rw[hm];refine dn ?_;by_cases pE:4096≤xs.length;refine bA ?_;refine dv (rs:= [.tmp 4]) rfl (List.Perm.refl _) (.cons (.tmp rfl) .nil) (List.Sublist.cons _ (List.Sublist.refl _)) ?_;exact⟨9,A,c,xs,mp,rfl,.inr (.inl ⟨kE,pE,rfl,rfl⟩),aA,aW,bK,rfl⟩;refine aP ?_;refine g5 [0,2,4,6,8,10,12,14,16,18,20,23] ?_;refine bW ?_;refine sg underlying102 underlying3 rfl rfl rfl rfl (by repeat (first|exact bc.here|apply bc.there)) ?_;refine aX ?_;refine fU ?_;refine aR ?_;refine eU [0,2,4,6,8,10,13,15,16,18,21] (two 6 [.box b3 150 [.int .i64 x.1,.int .i64 x.2],.box al 105 [.slice A xs.length c,.map (some mb)]] []) (xg (List.Sublist.cons_cons _ (List.Sublist.cons_cons _ (List.nil_sublist _))) (List.nil_sublist _)) ?_;refine aP ?_;refine c_ fun ake=> ?_;refine aX ?_;refine jY rfl (ac4 (aa.le_refl _) (by intro x af;simp only[List.mem_cons,List.not_mem_nil,or_false]at af;rcases af with h|h<;>subst h<;>simp[c9]) (by intro x af;cases af)) ?_;refine aX ?_;refine gl fun a44 C8=> ?_;refine aX ?_;refine jY rfl (ac4 (aa.le_refl _) (by intro x af;simp only[List.mem_cons,List.not_mem_nil,or_false]at af;rcases af with h|h<;>subst h<;>simp[c9]) (by intro x af;cases af)) ?_;refine a_ ?_;refine yL (EV (by kernel_rfl) (aa.le_refl _) (by intro x af;cases af)) ?_;refine a8 ?_;refine aK.view (View.drop aO.here) ?_;have tl:(xs++ [x]).length=xs.length+1:=by simp
 have nT:([.box b3 150 [.int .i64 x.1,.int .i64 x.2],.box al 105 [.slice a44 (xs.length+1) C8,.map (some mb)],.row (.slice a44 (xs.length+1) C8) 150 2 (xs.length+1) (g9 xs++cat [.agg #[.int .i64 x.1,.int .i64 x.2]]),.map mb (gi mp x.2 (.int .i64 xs.length))]:List ay)=.box b3 150 [.int .i64 x.1,.int .i64 x.2]::h1 al mb a44 C8 (xs++ [x]) (gi mp x.2 (.int .i64 xs.length)):=by simp[h1,auk,cat,c9]
 refine aK.view (View.perm (List.Perm.of_eq nT)) ?_;refine aZ ?_;refine aI (gG (c:=(xs.length:Nat)) rfl rfl ah ah) ?_;refine eo rfl (acX (by rw[tl];omega) (by rw[tl];omega) (aW.push kE (fun q=>vZ _ _ _ _)) (auB x bK)) (List.perm_append_comm (l₁:= [_])) ?_;rintro G0 G1 _ K4 ⟨ys,e4,hb,ES,cn,rfl⟩;refine aK.view (View.perm (List.perm_append_comm (l₂:= [_]))) ?_;have mq:=hb.length_eq;refine bg ?_;refine dv (rs:= [.tmp 4]) rfl (List.Perm.refl _) (.cons (.tmp rfl) .nil) (List.Sublist.cons _ (List.Sublist.refl _)) ?_;exact⟨0,a44,C8,ys,e4,rfl,.inr (.inr ⟨kE,by omega,rfl,hb⟩),by omega,cn,auC ES ah,rfl⟩
theorem auG{xs:List bX}{i:Nat}(h:nZ xs)(aj:i<xs.length)(he:¬i<xs.length-1):nZ (q0 xs i):=fun j aB ab=>by rw[Ei]at ab;rw[Ej aj ah,Ej aj ab,if_neg ah,if_neg ah];exact h j aB ah
theorem ac8{I:aa}{al mb c:Nat}{A:Option Addr}{xs:List bX}{mp:bU}{id:Int}(aA:xs.length≤4096)(aW:h0 xs mp)(bK:nZ xs):
 aS Tryz.prog 114 [.pointer (some ⟨al,0,none⟩),.int .i64 id] I (h1 al mb A c xs mp) (fun v _ δ'=>∃b ys e4,v=.bool b∧H4 xs id b ys∧ys.length≤4096∧h0 ys e4∧nZ ys∧δ'=h1 al mb A c ys e4):=by
 refine a1 func114 ntmps114 fun aG=> ?_;refine br ?_;refine aI (pn (z:=false) underlying75 rfl rfl rfl) ?_;refine bW ?_;by_cases jh:id∈xs.map (·.2);obtain⟨j,au,he,hm⟩:=aW.has jh;refine aI (jr (v:=.int .i64 (j:Nat)) (g:=true) underlying102 underlying3 z3 rfl rfl (Has.there (Has.there Has.here)) (by rw[hm];rfl) (by rw[hm];rfl)) ?_;refine xq ?_;refine aI (gG (c:=((xs.length-1:Nat):Int)) rfl rfl ah ah) ?_;refine a_ ?_;refine aK.gK (Has.there Has.here) ah (fun bo eV=> ?_);refine aR ?_;refine hr rfl (Sw (i:=j) (k:=xs.length-1) au ah ah aW) ?_;rintro v30 zw _ Dv ⟨uB,Lk,rfl⟩;rw[List.append_nil];have oz:=vJ xs j (xs.length-1);refine aK.view (View.perm (List.Perm.of_eq (show h1 al mb A c (gf xs j (xs.length-1)) uB= [.box al 105 [.slice A xs.length c,.map (some mb)],.row (.slice A xs.length c) 150 2 xs.length (g9 (gf xs j (xs.length-1))),.map mb uB]by simp only[h1,oz]))) ?_;refine b_ ?_;refine aI (m7 underlying103 NH rfl rfl ah) ?_;refine aP ?_;refine aK.view (View.short (h:=xs.length-1) _ (bc.there bc.here) (Nat.sub_le _ _)) ?_;refine a_ ?_;refine Ut (δ':=fun ys=> [.box al 105 [.slice A (xs.length-1:Nat) c,.map (some mb)],.row (.slice A (xs.length-1) c) 150 2 (xs.length-1) ((g9 (gf xs j (xs.length-1))).take ((xs.length-1)*2)),.map mb ys]) underlying102 underlying3 (by rfl) (by rfl) (fun _=>bc.there (bc.there bc.here)) (fun Cn qf=> ?_);have uc:=Ei xs j;have Bi:h0 (q0 xs j) Cn:=auE aW au Lk (fun q=>by rw[he];exact qf q);refine aK.view (View.perm (List.Perm.of_eq (show([.box al 105 [.slice A (xs.length-1:Nat) c,.map (some mb)],.row (.slice A (xs.length-1) c) 150 2 (xs.length-1) ((g9 (gf xs j (xs.length-1))).take ((xs.length-1)*2)),.map mb Cn]:List ay)=h1 al mb A c (q0 xs j) Cn by simp only[h1,uc];rw[show g9 (q0 xs j)=(g9 (gf xs j (xs.length-1))).take ((xs.length-1)*2)from aum _ _]))) ?_;refine aP ?_;by_cases G9:j<xs.length-1;refine bg ?_;refine hr rfl (acX (i:=j) ah ah Bi (auD bK G9)) ?_;rintro az8 az9 _ az_ ⟨ys,e4,qV,ES,auH,rfl⟩;rw[List.append_nil];have Gv:=qV.length_eq;refine a_ ?_;refine hr rfl (auA (i:=j) ah ah auH ES) ?_;rintro v53 zG _ GM ⟨zs,auI,tJ,auJ,SB,rfl⟩;rw[List.append_nil];have zN:=tJ.length_eq;refine bg ?_;refine dY ?_;exact⟨true,zs,auI,rfl,.inr ⟨gt xs j,he,rfl,(ac2 au).trans ((tJ.trans qV).symm.cons _)⟩,by omega,SB,auJ,rfl⟩;refine bW ?_;refine dY ?_;exact⟨true,_,Cn,rfl,.inr ⟨gt xs j,he,rfl,ac2 au⟩,by omega,Bi,auG bK au G9,rfl⟩;have hm:=aW.ac1 jh;refine aI (jr (v:=.int .i64 0) (g:=false) underlying102 underlying3 z3 rfl rfl (Has.there (Has.there Has.here)) (by rw[hm];rfl) (by rw[hm];rfl)) ?_;refine AT ?_;refine dY ?_;exact⟨false,xs,mp,rfl,.inl ⟨jh,rfl,rfl⟩,aA,aW,bK,rfl⟩
structure Af where
  kl:Nat
  bk:Nat
  iZ:Nat
  hw:Nat
  auK:Nat
abbrev auL(q:Af)(a w told:Nat):ay:=.box q.kl 80 [.pointer (some ⟨q.bk,0,none⟩),.int .i64 a,.pointer (some ⟨q.hw,0,none⟩),.int .i64 w,.int .i64 told]
structure Ek(xs ys:List bX)(mp e4:bU):Prop where
  same:(xs.map (·.2)).Perm (ys.map (·.2))
  eq:∀x∈xs,x.1=x.2
  ei:xs.length≤4096
  ac9:h0 xs mp
  af:nZ xs
  H5:h0 ys e4
  aw:nZ ys
theorem Ek.len{xs ys:List bX}{mp e4:bU}(h:Ek xs ys mp e4):xs.length=ys.length:=by have:=h.same.length_eq;simpa using this
def q1(q:Af)(a w told:Nat)(ys:List bX)(δ:List ay):Prop:=∃uC bH xs mp rZ r1 e4,Ek xs ys mp e4∧δ=auL q a w told::(h1 q.bk q.iZ uC bH xs mp++h1 q.hw q.auK rZ r1 ys e4)
theorem SC{I:aa}{a w:Int}:
 aS Tryz.prog 13 [.int .i64 a,.int .i64 w] I [] (fun v _ δ'=>((a<0∨w<0∨16<a∨16<w∨a+w=0)∧v=.tuple #[.pointer none,.int .i64 1]∧δ'= [])∨(¬(a<0∨w<0∨16<a∨16<w∨a+w=0)∧∃q,v=.tuple #[.pointer (some ⟨q.kl,0,none⟩),.int .i64 0]∧q1 q a.toNat w.toNat 0 [] δ')):=by
 refine a1 func13 ntmps13 fun aG=> ?_;refine bA ?_;refine aI (Nh rfl rfl) ?_;by_cases pH:min a w<0;refine xq ?_;refine dY ?_;exact .inl ⟨by omega,rfl,rfl⟩;refine a8 ?_;refine cZ ?_;refine aI (IH rfl rfl) ?_;by_cases nP:16<max a w;refine ic ?_;refine dY ?_;exact .inl ⟨by omega,rfl,rfl⟩;refine a_ ?_;refine cZ ?_;refine aI (tg (c:=a+w) rfl rfl rfl ⟨by omega,by omega⟩) ?_;by_cases hO:a+w=0;refine cT ?_;refine dY ?_;exact .inl ⟨by omega,rfl,rfl⟩;obtain⟨aAa,rfl⟩:∃n:Nat,a=n:=⟨a.toNat,by omega⟩
 obtain⟨wn,rfl⟩:∃n:Nat,w=n:=⟨w.toNat,by omega⟩
 refine br ?_;refine bN rfl (ac5 _) ?_;rintro v22 nm _ rH ⟨ab,AK,rfl,rfl⟩;refine go2 ?_;refine bN rfl (ac5 _) ?_;rintro v25 tz _ k7 ⟨ae,j0,rfl,rfl⟩;refine aR ?_;refine bw fun Df=> ?_;refine aK.view (View.perm (List.Perm.cons _ (List.perm_append_comm (l₁:= [_,_,_]) (l₂:= [_,_,_])))) ?_;refine a_ ?_;refine dY ?_;exact .inr ⟨by omega,⟨Df,ab,AK,ae,j0⟩,rfl,none,0,[],[],none,0,[],⟨List.Perm.refl _,(fun x h=>nomatch h),(by simp),⟨(fun j h=>absurd h (by simp)),fun _ _=>rfl⟩,(fun j _ h=>absurd h (by simp)),⟨(fun j h=>absurd h (by simp)),fun _ _=>rfl⟩,(fun j _ h=>absurd h (by simp))⟩,rfl⟩
theorem Ek.ids{xs ys:List bX}{mp e4:bU}(h:Ek xs ys mp e4)(id:Int):id∈xs.map (·.2)↔id∈ys.map (·.2):=h.same.mem_iff
theorem SD{I:aa}{q:Af}{a w told:Nat}{ys:List bX}{δ:List ay}{id k:Int}(aC:q1 q a w told ys δ):
 aS Tryz.prog 58 [.pointer (some ⟨q.kl,0,none⟩),.int .i64 id,.int .i64 k] I δ (fun v _ δ'=>∃e zs,v=.int .i64 e∧SA ys (k,id) e zs∧q1 q a w told zs δ'):=by
 obtain⟨uC,bH,xs,mp,rZ,r1,e4,cn,rfl⟩:=aC;have hlen:=cn.len;have Og:=cn.ei;refine a1 func58 ntmps58 fun aG=> ?_;refine br ?_;refine aI (pn (z:=false) underlying48 rfl rfl rfl) ?_;refine fT ?_;refine r_ UX rfl rfl ((ac7 (x:=(id,id)) cn.ei cn.ac9 cn.af)) (List.perm_middle (l₁:= [_,_,_]) (l₂:= [_,_,_])).symm ?_;rintro yd oy _ qw ⟨aQ,ur,fE,pI,uB,rfl,l5,fi,ns,El,rfl⟩;refine aK.view (View.perm (List.perm_middle (l₁:= [_,_,_]) (l₂:= [_,_,_]))) ?_;refine aZ ?_;by_cases hO:aQ≠0;refine bW ?_;refine dY ?_;rcases l5 with⟨ab,ae,aF⟩|⟨ab,A0,ae,aF⟩|⟨_,_,ae,_⟩
 subst aF;exact⟨aQ,ys,rfl,.inl ⟨(cn.ids id).1 ab,ae,rfl⟩,ur,fE,pI,uB,rZ,r1,e4,⟨cn.same,cn.eq,fi,ns,El,cn.H5,cn.aw⟩,rfl⟩;subst aF;exact⟨aQ,ys,rfl,.inr (.inl ⟨fun hm=>ab ((cn.ids id).2 hm),by omega,ae,rfl⟩),ur,fE,pI,uB,rZ,r1,e4,⟨cn.same,cn.eq,fi,ns,El,cn.H5,cn.aw⟩,rfl⟩;exact absurd ae hO
 obtain⟨aD,av,zv,qV⟩:id∉xs.map (·.2)∧xs.length<4096∧aQ=0∧pI.Perm (xs++ [(id,id)]):=by
  rcases l5 with⟨ab,ae,aF⟩|⟨ab,A0,ae,aF⟩|h
  omega;omega;exact h
 refine fT ?_;refine r_ UX rfl rfl ((ac7 (x:=(k,id)) ah cn.H5 cn.aw)) ((List.Perm.cons _ (List.perm_append_comm (l₁:= [_,_,_]) (l₂:= [_,_,_]))).trans (List.perm_middle (l₁:= [_,_,_]) (l₂:= [_,_,_])).symm) ?_;rintro v30 zw _ Dv ⟨aT,iY,dT,B_,Mb,rfl,qm,fw,pf,CV,rfl⟩;refine aK.view (View.perm ((List.perm_middle (l₁:= [_,_,_]) (l₂:= [_,_,_])).trans (List.Perm.cons _ (List.perm_append_comm (l₁:= [_,_,_]) (l₂:= [_,_,_]))))) ?_;refine a8 ?_;refine dY ?_;refine⟨aT,B_,rfl,qm,ur,fE,pI,uB,iY,dT,Mb,⟨?_,?_,fi,ns,El,pf,CV⟩,rfl⟩;rcases qm with⟨ab,_,_⟩|⟨_,ab,_,_⟩|⟨_,_,_,tJ⟩
 exact absurd ((cn.ids id).2 ab) aD;omega;have tN:=qV.map (fun x:bX=>x.2);have ac_:=tJ.map (fun x:bX=>x.2);rw[List.map_append]at tN ac_;exact tN.trans ((cn.same.append_right _).trans ac_.symm);intro x af;rcases List.mem_append.1 (qV.mem_iff.1 af)with h|h
 exact cn.eq x h;simp at h;rw[h]
theorem ada{I:aa}{q:Af}{a w told:Nat}{ys:List bX}{δ:List ay}(aC:q1 q a w told ys δ):
 aS Tryz.prog 19 [.pointer (some ⟨q.kl,0,none⟩)] I δ (fun v _ δ'=>v=.int .i64 ys.length∧q1 q a w told ys δ'):=by
 obtain⟨uC,bH,xs,mp,rZ,r1,e4,cn,rfl⟩:=aC;have hlen:=cn.len;refine a1 func19 ntmps19 fun aG=> ?_;refine br ?_;refine aI (pn (z:=false) underlying48 rfl rfl rfl) ?_;refine bW ?_;refine r_ aiZ rfl rfl ((auF)) (List.perm_middle (l₁:= [_,_,_]) (l₂:= [_,_,_])).symm ?_;rintro v10 j4 _ kB ⟨rfl,rfl⟩;refine aK.view (View.perm (List.perm_middle (l₁:= [_,_,_]) (l₂:= [_,_,_]))) ?_;refine a8 ?_;refine dY ?_;exact⟨by rw[←hlen];rfl,uC,bH,xs,mp,rZ,r1,e4,cn,rfl⟩
theorem SE{I:aa}{q:Af}{a w told:Nat}{ys:List bX}{δ:List ay}{id:Int}(aC:q1 q a w told ys δ):
 aS Tryz.prog 83 [.pointer (some ⟨q.kl,0,none⟩),.int .i64 id] I δ (fun v _ δ'=>∃b zs,v=.bool b∧H4 ys id b zs∧q1 q a w told zs δ'):=by
 obtain⟨uC,bH,xs,mp,rZ,r1,e4,cn,rfl⟩:=aC;have hlen:=cn.len;have Og:=cn.ei;refine a1 func83 ntmps83 fun aG=> ?_;refine br ?_;refine aI (pn (z:=false) underlying48 rfl rfl rfl) ?_;refine cT ?_;refine r_ U0 rfl rfl ((ac8 (id:=id) ah cn.H5 cn.aw)) ((List.Perm.cons _ (List.perm_append_comm (l₁:= [_,_,_]) (l₂:= [_,_,_]))).trans (List.perm_middle (l₁:= [_,_,_]) (l₂:= [_,_,_])).symm) ?_;rintro sv mi _ oD ⟨b2,B_,Mb,rfl,qm,fw,pf,CV,rfl⟩;refine aK.view (View.perm ((List.perm_middle (l₁:= [_,_,_]) (l₂:= [_,_,_])).trans (List.Perm.cons _ (List.perm_append_comm (l₁:= [_,_,_]) (l₂:= [_,_,_]))))) ?_;refine b_ ?_;refine r_ U0 rfl rfl ((ac8 (id:=id) cn.ei cn.ac9 cn.af)) (List.perm_middle (l₁:= [_,_,_]) (l₂:= [_,_,_])).symm ?_;rintro v20 vb _ tI ⟨e2,pI,uB,rfl,l5,fi,ns,El,rfl⟩;refine aK.view (View.perm (List.perm_middle (l₁:= [_,_,_]) (l₂:= [_,_,_]))) ?_;refine a8 ?_;refine dY ?_;rcases l5 with⟨ab,rfl,rfl⟩|⟨x,af,rfl,qV⟩<;>rcases qm with⟨c8,rfl,rfl⟩|⟨y,aw,rfl,tJ⟩
 exact⟨false,B_,rfl,.inl ⟨c8,rfl,rfl⟩,uC,bH,pI,uB,rZ,r1,Mb,⟨cn.same,cn.eq,fi,ns,El,pf,CV⟩,rfl⟩;exact absurd ((cn.ids id).2 (by rw[←aw];exact List.mem_map_of_mem (f:=fun x:bX=>x.2) (tJ.mem_iff.2 (List.mem_cons_self ..)))) ab;exact absurd ((cn.ids id).1 (by rw[←af];exact List.mem_map_of_mem (f:=fun x:bX=>x.2) (qV.mem_iff.2 (List.mem_cons_self ..)))) c8;refine⟨true,B_,rfl,.inr ⟨y,aw,rfl,tJ⟩,uC,bH,pI,uB,rZ,r1,Mb,⟨?_,fun z a2=>cn.eq z (qV.mem_iff.2 (List.mem_cons_of_mem _ a2)),fi,ns,El,pf,CV⟩,rfl⟩;have aQ:=qV.map (fun x:bX=>x.2);have aT:=tJ.map (fun x:bX=>x.2);rw[List.map_cons,af]at aQ;rw[List.map_cons,aw]at aT;exact(aQ.symm.trans (cn.same.trans aT)).cons_inv
end
end Go.Proofs.YtciibkomnoicdaaGreat
