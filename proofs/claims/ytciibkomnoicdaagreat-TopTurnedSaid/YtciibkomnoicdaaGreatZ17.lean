/- Own texts: a small program logic, plain facts, walks through the program's functions. No condition. -/
import Derived.Test.YtciibkomnoicdaaGreatZ16
set_option maxRecDepth 10000
set_option maxHeartbeats 4000000
set_option linter.unusedVariables false
set_option linter.unusedSimpArgs false
set_option linter.unnecessarySimpa false
set_option linter.unusedSectionVars false
namespace Go.Proofs.YtciibkomnoicdaaGreat
open Go Lg Tryz
section
attribute [local irreducible] aK bf bJ
theorem auM{I:aa}{x m:Int}:aS Tryz.prog 22 [.int .i64 x,.int .i64 m] I [] (fun v _ δ'=>v=.bool (decide (x<0∨m<x))∧δ'= []):=by
 refine a1 func22 ntmps22 fun aG=> ?_;refine bg ?_;by_cases ft:x<0;refine b_ ?_;exact b0 rfl rfl (⟨by rw[decide_eq_true (.inl ft)];rfl,rfl⟩);refine a8 ?_;by_cases xF:m<x;refine aZ ?_;exact b0 rfl rfl (⟨by rw[decide_eq_true (.inr xF)];rfl,rfl⟩);refine aZ ?_;exact b0 rfl rfl (⟨by rw[decide_eq_false (fun h=>h.elim ft xF)];rfl,rfl⟩)
structure yl where
  kn:Int
  fwd:Int
  kM:Int
  wt:Int
  how:Int
  ln:Int
  rounds:Int
structure yl.ok(s:yl):Prop where
  kn:0≤s.kn∧s.kn≤2
  fwd:0≤s.fwd∧s.fwd≤2
  how:0≤s.how∧s.how≤2
  ln:0≤s.ln∧s.ln≤100000
  rounds:0≤s.rounds∧s.rounds≤1000
  rat:¬(s.kM<0∨s.wt<0∨16<s.kM∨16<s.wt∨s.kM+s.wt=0)
theorem auN{I:aa}{s:yl}:aS Tryz.prog 11 [.agg #[.int .i64 s.kn,.int .i64 s.fwd,.int .i64 s.kM,.int .i64 s.wt,.int .i64 s.how,.int .i64 s.ln,.int .i64 s.rounds]] I [] (fun v _ δ'=>(∃e:Int,v=.int .i64 e∧(e=0→s.ok)∧(s.ok→(s.kn≠2→s.ln=0)→e=0))∧δ'= []):=by
 have cD:∀{x m:Int} {J:aa},cR Tryz.prog (.func (.func 22) #[] #[]) [.int .i64 x,.int .i64 m] J [] (fun v _ δ'=>v=.bool (decide (x<0∨m<x))∧δ'= []):=fun{x m J}=>aS.tc (args:= [_,_]) (by kernel_rfl) auM;refine a1 func11 ntmps11 fun aG=> ?_;refine go2 ?_;refine bw fun e2=> ?_;refine dn ?_;refine e8 rfl rfl rfl ((cD)) js ?_;rintro v9 tB _ lF ⟨rfl,rfl⟩;by_cases ab:s.kn<0∨2<s.kn;rw[decide_eq_true ab];refine ajG ?_;exact b0 rfl rfl (⟨⟨1,rfl,fun h=>(by cases h),fun bQ hk=>(by obtain⟨dW,fm,a3,a4,a5,_⟩:=bQ;first|omega|exact absurd (hk ft) iC)⟩,rfl⟩);rw[decide_eq_false ab];refine a8 ?_;refine cZ ?_;refine e8 rfl rfl rfl ((cD)) js ?_;rintro w0 pL _ rG ⟨rfl,rfl⟩;by_cases ae:s.fwd<0∨2<s.fwd;rw[decide_eq_true ae];refine C1 ?_;exact b0 rfl rfl (⟨⟨1,rfl,fun h=>(by cases h),fun bQ hk=>(by obtain⟨dW,fm,a3,a4,a5,_⟩:=bQ;first|omega|exact absurd (hk ft) iC)⟩,rfl⟩);rw[decide_eq_false ae];refine a_ ?_;refine cZ ?_;refine e8 rfl rfl rfl ((cD)) js ?_;rintro v20 vb _ tI ⟨rfl,rfl⟩;by_cases aF:s.how<0∨2<s.how;rw[decide_eq_true aF];refine xp ?_;exact b0 rfl rfl (⟨⟨1,rfl,fun h=>(by cases h),fun bQ hk=>(by obtain⟨dW,fm,a3,a4,a5,_⟩:=bQ;first|omega|exact absurd (hk ft) iC)⟩,rfl⟩);rw[decide_eq_false aF];refine a_ ?_;refine cZ ?_;refine e8 rfl rfl rfl ((cD)) js ?_;rintro v26 rq _ me ⟨rfl,rfl⟩;by_cases bb:s.ln<0∨100000<s.ln;rw[decide_eq_true bb];refine fx ?_;exact b0 rfl rfl (⟨⟨1,rfl,fun h=>(by cases h),fun bQ hk=>(by obtain⟨dW,fm,a3,a4,a5,_⟩:=bQ;first|omega|exact absurd (hk ft) iC)⟩,rfl⟩);rw[decide_eq_false bb];refine a_ ?_;refine cZ ?_;refine e8 rfl rfl rfl ((cD)) js ?_;rintro v32 rr _ ss ⟨rfl,rfl⟩;by_cases eX:s.rounds<0∨1000<s.rounds;rw[decide_eq_true eX];refine bA ?_;exact b0 rfl rfl (⟨⟨1,rfl,fun h=>(by cases h),fun bQ hk=>(by obtain⟨dW,fm,a3,a4,a5,_⟩:=bQ;first|omega|exact absurd (hk ft) iC)⟩,rfl⟩);rw[decide_eq_false eX];refine bA ?_;by_cases ft:s.kn≠2;refine a8 ?_;by_cases iC:s.ln≠0;refine bW ?_;exact b0 rfl rfl (⟨⟨1,rfl,fun h=>(by cases h),fun bQ hk=>(by obtain⟨dW,fm,a3,a4,a5,_⟩:=bQ;first|omega|exact absurd (hk ft) iC)⟩,rfl⟩);refine cT ?_;refine a6 rfl SC ?_;rintro w2 vl Za sO H6;refine aX ?_
 obtain⟨p,e,SF,he,ny⟩:∃(p:Value) (e:Int),w2=.tuple #[p,.int .i64 e]∧(e=0→¬(s.kM<0∨s.wt<0∨16<s.kM∨16<s.wt∨s.kM+s.wt=0))∧(s.ok→e=0):=by
  rcases H6 with⟨ab,h,_⟩|⟨ab,q,h,_⟩
  exact⟨_,1,h,fun h=>(by cases h),fun bQ=>absurd ab bQ.rat⟩;exact⟨_,0,h,fun _=>ab,fun _=>rfl⟩
 subst SF;refine cT ?_;exact b0 rfl rfl (⟨⟨e,rfl,fun aB=>⟨by omega,by omega,by omega,by omega,by omega,he aB⟩,fun bQ _=>ny bQ⟩,rfl⟩);refine fx ?_;refine a6 rfl SC ?_;rintro w2 vl Za sO H6;refine aX ?_
 obtain⟨p,e,SF,he,ny⟩:∃(p:Value) (e:Int),w2=.tuple #[p,.int .i64 e]∧(e=0→¬(s.kM<0∨s.wt<0∨16<s.kM∨16<s.wt∨s.kM+s.wt=0))∧(s.ok→e=0):=by
  rcases H6 with⟨ab,h,_⟩|⟨ab,q,h,_⟩
  exact⟨_,1,h,fun h=>(by cases h),fun bQ=>absurd ab bQ.rat⟩;exact⟨_,0,h,fun _=>ab,fun _=>rfl⟩
 subst SF;refine cT ?_;exact b0 rfl rfl (⟨⟨e,rfl,fun aB=>⟨by omega,by omega,by omega,by omega,by omega,he aB⟩,fun bQ _=>ny bQ⟩,rfl⟩)
structure e_ where
  bP:List ak
  rule:Int
  from_:List Int
  st:Int
  why:Int
def jV:kH 5 e_ where
  R:=fun I x vs=>∃(bH:Option Addr) (bZ:Nat) (gC:Option Addr) (gD:Nat),vs= [.slice bH x.bP.length bZ,.int .i64 x.rule,.slice gC x.from_.length gD,.int .i64 x.st,.int .i64 x.why]∧cf I (.slice bH x.bP.length bZ) x.bP∧bY I (.slice gC x.from_.length gD) x.from_
  len:=by rintro I a vs ⟨bH,bZ,gC,gD,rfl,_,_⟩;rfl
  one:=by rintro I a vs ⟨bH,bZ,gC,gD,rfl,_,_⟩ u hu;simp only[List.mem_cons,List.not_mem_nil,or_false]at hu;rcases hu with rfl|rfl|rfl|rfl|rfl<;>rfl
  mono:=by rintro I J a vs aA ⟨bH,bZ,gC,gD,rfl,ab,ae⟩;exact⟨bH,bZ,gC,gD,rfl,ab.mono aA,ae.mono aA⟩
abbrev ko(sb:Nat)(A:Option Addr)(c n:Nat)(xs:List Value):List ay:= [.box sb 86 [.slice A n c],.row (.slice A n c) 62 5 n xs]
def h2(p:e_→Bool)(es:List e_)(k:Nat):List Int:=((List.range k).filter fun i=>match es[i]? with|some e=>p e|none=>false).map fun i:Nat=>(i:Int)
theorem adb{p:e_→Bool}{es:List e_}{k:Nat}(h:k<es.length):h2 p es (k+1)=if p es[k]=true then h2 p es k++ [(k:Int)]else h2 p es k:=by
 unfold h2;rw[List.range_succ,List.filter_append,List.map_append];have e:es[k]? =some es[k]:=List.getElem?_eq_getElem h;by_cases q:p es[k]=true;rw[if_pos q];simp[List.filter_cons,e,q];rw[if_neg q];simp[List.filter_cons,e,q]
theorem H7{p:e_→Bool}{es:List e_}{k:Nat}{i:Int}(hk:k≤es.length):i∈h2 p es k↔∃(j:Nat) (h:j<es.length),i=j∧j<k∧p es[j]=true:=by
 unfold h2;simp only[List.mem_map,List.mem_filter,List.mem_range];constructor;rintro⟨j,⟨au,az⟩,rfl⟩;have aA:j<es.length:=by omega
 rw[List.getElem?_eq_getElem aA]at az;exact⟨j,aA,rfl,au,az⟩;rintro⟨j,aA,rfl,au,az⟩;exact⟨j,⟨au,by rw[List.getElem?_eq_getElem aA];exact az⟩,rfl⟩
theorem Mc{p:e_→Bool}{es:List e_}(k:Nat):(h2 p es k).length≤k:=by
 unfold h2;rw[List.length_map];exact Nat.le_trans (List.length_filter_le _ _) (by simp)
theorem auO{p:e_→Bool}{es:List e_}{k:Nat}(hk:k≤es.length)(al:k≤1000000):∀x∈h2 p es k,dZ x:=by
 intro x af;obtain⟨j,_,rfl,au,_⟩:=(H7 hk).1 af;unfold dZ;omega
theorem ade {I:aa} {sb c:Nat} {A:Option Addr} {xs:List Value} {es:List e_} {b1:Value} {δf:List ay} {p:e_→Bool} (bm:bd jV I xs es) (kp:es.length≤5000)
 (a7:∀J e u,I.le J→jV.R J e u→cR Tryz.prog b1 [.agg u.toArray] J δf (fun v _ δ'=>v=.bool (p e)∧δ'=δf)):
 aS Tryz.prog 122 [.agg #[b1],.pointer (some ⟨sb,0,none⟩)] I (ko sb A c es.length xs++δf) (fun v ai δ'=>bY ai v (h2 p es es.length)∧δ'=ko sb A c es.length xs++δf):=by
 refine a1 func122 ntmps122 fun aG=> ?_;refine go2 ?_;refine bw fun b2=> ?_;refine aP ?_;refine aI (pn (z:=false) underlying55 rfl rfl rfl) ?_;refine AT ?_;refine bJ.view (View.gh 3 1) ?_;refine ek (fun m aL ai δ'=>∃(k:Nat) (mv:Option Addr) (co:Nat),m=es.length-k∧k≤es.length∧aL= [(2,.pointer (some ⟨b2,0,none⟩)),(5,.slice mv (h2 p es k).length co),(13,.slice A es.length c),(14,.int .i64 es.length),(15,.int .i64 k)]∧I.le ai∧δ'=f_ mv co (h2 p es k):: .box b2 185 [b1]::(ko sb A c es.length xs++δf)) es.length [(2,.pointer (some ⟨b2,0,none⟩)),(5,.slice none 0 0),(13,.slice A es.length c),(14,.int .i64 es.length),(15,.int .i64 (0:Nat))] ⟨0,none,0,rfl,Nat.zero_le _,rfl,aa.le_refl _,rfl⟩ ⟨rfl,rfl,rfl,rfl,rfl,trivial⟩ ?_;rintro m _ I0 _ ⟨k,mv,co,rfl,hk,rfl,bO,rfl⟩;have e0:=Mc (p:=p) (es:=es) k;refine aZ ?_;refine bF rfl (fun bq=> ?_) (fun bq=> ?_);have av:k<es.length:=by simpa using bq
 obtain⟨vs,⟨bH,bZ,gC,gD,rfl,o1,m2⟩,_,r,jP⟩:=bm.at av;refine aP ?_;refine aK.gK (Has.there (Has.there (Has.there Has.here))) ah (fun bo eV=> ?_);refine aX ?_;refine aI (gH (v:=.agg #[.slice bH es[k].bP.length bZ,.int .i64 es[k].rule,.slice gC es[k].from_.length gD,.int .i64 es[k].st,.int .i64 es[k].why]) Fb rfl (Has.there (Has.there (Has.there Has.here))) bo (by rw[jP];rfl)) ?_;refine bh fun dp=> ?_;refine br ?_;refine e8 rfl rfl rfl ((a7 _ es[k] [.slice bH es[k].bP.length bZ,.int .i64 es[k].rule,.slice gC es[k].from_.length gD,.int .i64 es[k].st,.int .i64 es[k].why] bO ⟨bH,bZ,gC,gD,rfl,o1.mono bO,m2.mono bO⟩)) (List.perm_append_comm (l₁:= [_,_,_,_,_])) ?_;rintro v23 pJ _ pK ⟨rfl,rfl⟩;refine aK.view (View.perm (List.perm_append_comm (l₂:= [_,_,_,_,_]))) ?_;have hy:=adb (p:=p) av;refine go2 ?_;refine bF rfl (fun c4=> ?_) (fun c4=> ?_);refine aR ?_;refine c_ fun w3=> ?_;refine gl fun a27 tA=> ?_;refine bg ?_;rw[if_pos c4]at hy;refine bf.view (View.drop aO.here) ?_;refine bf.view (View.drop aO.here) ?_;refine cV (es.length-(k+1)) [(2,.pointer (some ⟨b2,0,none⟩)),(5,.slice a27 ((h2 p es k).length+1) tA),(13,.slice A es.length c),(14,.int .i64 es.length),(15,.int .i64 (k+1:Nat))] ah ⟨k+1,a27,tA,rfl,av,by rw[hy];simp,aa.ag,by rw[hy];simp[f_,cat,c9]⟩ ⟨rfl,rfl,rfl,rfl,rfl,trivial⟩;refine aP ?_;rw[if_neg (by rw[c4];simp)]at hy;refine bf.view (View.drop aO.here) ?_;refine cV (es.length-(k+1)) [(2,.pointer (some ⟨b2,0,none⟩)),(5,.slice mv (h2 p es k).length co),(13,.slice A es.length c),(14,.int .i64 es.length),(15,.int .i64 (k+1:Nat))] ah ⟨k+1,mv,co,rfl,av,by rw[hy],aa.ag,by rw[hy];rfl⟩ ⟨rfl,rfl,rfl,rfl,rfl,trivial⟩;have bV:k=es.length:=by simp at bq;omega
 subst bV;refine aP ?_;refine aK.dO aO.here ?_;rintro tt a29 Dr px aC RK RL B4;cases aC;refine a_ ?_;refine dv (rs:= [.tmp 4]) rfl (List.Perm.refl _) (.cons (.tmp rfl) .nil) (List.Sublist.cons _ (List.Sublist.refl _)) ?_;exact⟨bY.of rfl RK ah B4 (auO (Nat.le_refl _) ah),rfl⟩
def q2(st:Int)(e:e_):Bool:=decide (e.st=st)
def Md(id:Int)(e:e_):Bool:=decide (id∈e.from_)
theorem adf{I:aa}{b:Nat}{st:Int}{e:e_}{u:List Value}(hu:jV.R I e u):
 aS Tryz.prog 121 [.agg u.toArray,.pointer (some ⟨b,0,none⟩)] I [.box b 3 [.int .i64 st]] (fun v _ δ'=>v=.bool (q2 st e)∧δ'= [.box b 3 [.int .i64 st]]):=by
 obtain⟨bH,bZ,gC,gD,rfl,ab,ae⟩:=hu;refine a1 func121 ntmps121 fun aG=> ?_;refine go2 ?_;refine bw fun b2=> ?_;refine bg ?_;refine aI (kV (z:=q2 st e) rfl rfl rfl) ?_;refine a8 ?_;refine dv (rs:= [.tmp 3]) rfl (List.Perm.refl _) (.cons (.tmp rfl) .nil) (List.sublist_cons_self _ _) ?_;exact⟨rfl,rfl⟩
theorem auP{I:aa}{v:Value}{xs:List Int}{x:Int}(ax:bY I v xs):
 aS Tryz.prog 101 [v,.int .i64 x] I [] (fun v _ δ'=>(∃n:Int,v=.int .i64 n∧(0≤n↔x∈xs))∧δ'= []):=by
 obtain⟨ad,c,xs,aq,al,aW,an⟩:=ax;refine a1 func101 ntmps101 fun aG=> ?_;refine dn ?_;refine ek (fun m aL ai δ'=>∃k:Nat,m=xs.length-k∧aL= [(0,.slice ad xs.length c),(1,.int .i64 x),(7,.int .i64 xs.length),(8,.int .i64 k)]∧ai=I∧δ'=([]:List ay)∧k≤xs.length∧x∉xs.take k) (xs.length-0) [(0,.slice ad xs.length c),(1,.int .i64 x),(7,.int .i64 xs.length),(8,.int .i64 (0:Nat))] ⟨0,rfl,rfl,rfl,rfl,⟨Nat.zero_le _,by simp⟩⟩ ⟨rfl,rfl,rfl,rfl,trivial⟩ ?_;rintro m _ _ _ ⟨k,rfl,rfl,rfl,rfl,az⟩;obtain⟨hk,az⟩:=az;refine aZ ?_;refine bF rfl (fun aV=> ?_) (fun aV=> ?_);have av:k<xs.length:=by simpa using aV
 have db:=C3 aW k av;refine fT ?_;refine aI (cC ((ints_at aW k av))) ?_;refine aR ?_;refine bF rfl (fun bq=> ?_) (fun bq=> ?_);have heq:x=xs[k]:=by simpa using bq
 refine bW ?_;refine bn ?_;exact⟨⟨k,rfl,by rw[heq];simp⟩,rfl⟩;have cu:x≠xs[k]:=by simpa using bq
 refine aP ?_;refine cV (xs.length-(k+1)) [(0,.slice ad xs.length c),(1,.int .i64 x),(7,.int .i64 xs.length),(8,.int .i64 (k+1:Nat))] ah ⟨k+1,rfl,rfl,rfl,rfl,⟨av,by rw[List.take_succ_eq_append_getElem av,List.mem_append,List.mem_singleton];exact fun h=>h.elim az cu⟩⟩ ⟨rfl,rfl,rfl,rfl,trivial⟩;have bV:k=xs.length:=by simp at aV;omega
 subst bV;rw[List.take_length]at az;refine bA ?_;refine bn ?_;exact⟨⟨-1,rfl,by simp[az]⟩,rfl⟩
theorem SG{I:aa}{v:Value}{xs:List Int}{x:Int}(ax:bY I v xs):
 aS Tryz.prog 64 [v,.int .i64 x] I [] (fun v _ δ'=>v=.bool (decide (x∈xs))∧δ'= []):=by
 refine a1 func64 ntmps64 fun aG=> ?_;refine br ?_;refine bN rfl (auP ax) ?_;rintro mM je _ kA ⟨⟨n,rfl,aD⟩,rfl⟩;refine aI (kV (z:=decide (x∈xs)) rfl rfl (by simp only[vT,aD])) ?_;refine a8 ?_;refine bn ?_;exact⟨rfl,rfl⟩
theorem auQ{I:aa}{b:Nat}{id:Int}{e:e_}{u:List Value}(hu:jV.R I e u):
 aS Tryz.prog 168 [.agg u.toArray,.pointer (some ⟨b,0,none⟩)] I [.box b 3 [.int .i64 id]] (fun v _ δ'=>v=.bool (Md id e)∧δ'= [.box b 3 [.int .i64 id]]):=by
 obtain⟨bH,bZ,gC,gD,rfl,ab,ae⟩:=hu;refine a1 func168 ntmps168 fun aG=> ?_;refine go2 ?_;refine bw fun b2=> ?_;refine bg ?_;refine bN rfl (SG (x:=id) ae) ?_;rintro mM je _ kA ⟨rfl,rfl⟩;refine a8 ?_;refine dv (rs:= [.tmp 3]) rfl (List.Perm.refl _) (.cons (.tmp rfl) .nil) (List.sublist_cons_self _ _) ?_;exact⟨rfl,rfl⟩
theorem auR{I:aa}{sb c:Nat}{A:Option Addr}{xs:List Value}{es:List e_}{st:Int}(bm:bd jV I xs es)(kp:es.length≤5000):
 aS Tryz.prog 85 [.pointer (some ⟨sb,0,none⟩),.int .i64 st] I (ko sb A c es.length xs) (fun v ai δ'=>bY ai v (h2 (q2 st) es es.length)∧δ'=ko sb A c es.length xs):=by
 refine a1 func85 ntmps85 fun aG=> ?_;refine go2 ?_;refine bw fun b3=> ?_;refine bg ?_;refine eo rfl (ade bm kp (fun J e u cj hu=>cR.fq (args:= [_]) (caps:= [_]) U1 (adf (b:=b3) (st:=st) hu))) ((List.perm_append_comm (l₁:= [_])).trans (List.Perm.of_eq (List.append_nil _).symm)) ?_;rintro so jt _ jJ ⟨SH,rfl⟩;refine a8 ?_;refine dv (rs:= [.tmp 4]) rfl ((List.Perm.of_eq (List.append_nil _))) (.cons (.tmp rfl) .nil) (List.Sublist.cons_cons _ (List.Sublist.cons_cons _ (List.nil_sublist _))) ?_;exact⟨SH,rfl⟩
theorem auS{I:aa}{sb c:Nat}{A:Option Addr}{xs:List Value}{es:List e_}{id:Int}(bm:bd jV I xs es)(kp:es.length≤5000):
 aS Tryz.prog 130 [.pointer (some ⟨sb,0,none⟩),.int .i64 id] I (ko sb A c es.length xs) (fun v ai δ'=>bY ai v (h2 (Md id) es es.length)∧δ'=ko sb A c es.length xs):=by
 refine a1 func130 ntmps130 fun aG=> ?_;refine go2 ?_;refine bw fun b3=> ?_;refine bg ?_;refine eo rfl (ade bm kp (fun J e u cj hu=>cR.fq (args:= [_]) (caps:= [_]) ai_ (auQ (b:=b3) (id:=id) hu))) ((List.perm_append_comm (l₁:= [_])).trans (List.Perm.of_eq (List.append_nil _).symm)) ?_;rintro so jt _ jJ ⟨SH,rfl⟩;refine a8 ?_;refine dv (rs:= [.tmp 4]) rfl ((List.Perm.of_eq (List.append_nil _))) (.cons (.tmp rfl) .nil) (List.Sublist.cons_cons _ (List.Sublist.cons_cons _ (List.nil_sublist _))) ?_;exact⟨SH,rfl⟩
theorem auT{I:aa}{sb c:Nat}{A:Option Addr}{xs:List Value}{n:Nat}:
 aS Tryz.prog 17 [.pointer (some ⟨sb,0,none⟩)] I (ko sb A c n xs) (fun v ai δ'=>v=.int .i64 n∧δ'=ko sb A c n xs):=by
 refine a1 func17 ntmps17 fun aG=> ?_;refine br ?_;refine aI (pn (z:=false) underlying55 rfl rfl rfl) ?_;refine fT ?_;refine dY ?_;exact⟨rfl,rfl⟩
theorem auU(I:aa):aS Tryz.prog 15 [] I [] (fun v _ δ'=>∃sb,v=.pointer (some ⟨sb,0,none⟩)∧δ'=ko sb none 0 0 []):=by
 refine a1 func15 ntmps15 fun aG=> ?_;refine bg ?_;refine bw fun b2=> ?_;refine a8 ?_;refine bf.view ((View.gh 62 5).trans (View.perm (List.Perm.swap _ _ _))) (dv (rs:= [.tmp 0]) rfl (List.Perm.refl _) (.cons (.tmp rfl) .nil) (List.Sublist.refl _) ⟨_,rfl,rfl⟩)
theorem Em{I:aa}{sb c n:Nat}{A:Option Addr}{id:Int}(aD:n≤1000000):
 aS Tryz.prog 35 [.pointer (some ⟨sb,0,none⟩),.int .i64 id] I [.box sb 86 [.slice A n c]] (fun v _ δ'=>v=.bool (decide (0≤id∧id<n))∧δ'= [.box sb 86 [.slice A n c]]):=by
 refine a1 func35 ntmps35 fun aG=> ?_;refine bg ?_;by_cases ft:0≤id;refine bg ?_;refine cZ ?_;refine aI (kV (z:=decide (id<n)) rfl rfl rfl) ?_;refine a_ ?_;refine dY ?_;exact⟨by rw[show decide (0≤id∧id<n)=decide (id<n)from decide_eq_decide.2 ⟨fun h=>h.2,fun h=>⟨ft,h⟩⟩];rfl,rfl⟩;refine dn ?_;refine dY ?_;exact⟨by rw[show decide (0≤id∧id<n)=false from decide_eq_false fun h=>ft h.1];rfl,rfl⟩
def SI(r:Int):Int:=if r=0 then 0 else if r=1 then 1 else if r=2 then 1 else if r=3 then 2 else 0
def Ag(r m:Int):Bool:=if r<0∨5≤r then false else if r=4 then decide (1≤m)else decide (m=SI r)
theorem auV{r:Int}(aB:0≤r)(ab:r<5)(w:World):(Instr.index 191 (.agg #[.int .i64 0,.int .i64 1,.int .i64 1,.int .i64 2,.int .i64 0]) (.int .i64 r)).run Tryz.prog w=.ok (.int .i64 (SI r)) w:=by
 obtain rfl|rfl|rfl|rfl|rfl:r=0∨r=1∨r=2∨r=3∨r=4:=by omega
 all_goals kernel_rfl
theorem adg{I:aa}{r m:Int}:aS Tryz.prog 90 [.int .i64 r,.int .i64 m] I [] (fun v _ δ'=>v=.bool (Ag r m)∧δ'= []):=by
 refine a1 func90 ntmps90 fun aG=> ?_;refine br ?_;by_cases ft:r<0;refine gk ?_;refine bn ?_;exact⟨by rw[show Ag r m=false from if_pos (.inl ft)];rfl,rfl⟩;refine aR ?_;by_cases pH:5≤r;refine bW ?_;refine bn ?_;exact⟨by rw[show Ag r m=false from if_pos (.inr pH)];rfl,rfl⟩;refine bA ?_;by_cases hT:r=4;refine aP ?_;refine aI (kV (z:=decide (1≤m)) rfl rfl rfl) ?_;refine a_ ?_;refine bn ?_;exact⟨by unfold Ag;rw[if_neg ah,if_pos hT];rfl,rfl⟩;refine br ?_;refine aI (hq (v:=.agg #[.int .i64 0,.int .i64 1,.int .i64 1,.int .i64 2,.int .i64 0]) rfl (fun _=>by kernel_rfl)) ?_;refine aX ?_;refine aI (Uu rfl rfl (auV ah ah)) ?_;refine aI (kV (z:=decide (m=SI r)) rfl rfl rfl) ?_;refine a8 ?_;refine bn ?_;exact⟨by unfold Ag;rw[if_neg ah,if_neg hT];rfl,rfl⟩
def Ah(st:Int):List Int:=if st=0 then[1,2,3,4]else if st=1 then[2,3,4,5]else if st=2 then[3]else[]
theorem SJ{l:List Int}(h:∀x∈l,0≤x∧x≤5):∀x∈l,dZ x:=fun x af=>by have:=h x af;unfold dZ;omega
theorem auW(I:aa):aS Tryz.prog 113 [] I [] (fun v ai δ'=>∃kZ s1 s2,v=.agg #[kZ,s1,s2,.slice none 0 0,.slice none 0 0,.slice none 0 0]∧bY ai kZ [1,2,3,4]∧bY ai s1 [2,3,4,5]∧bY ai s2 [3]∧δ'= []):=by
 refine a1 func113 ntmps113 fun aG=> ?_;refine go2 ?_;refine bh fun m_=> ?_;refine a8 ?_;refine EX (xs:= [(Go.Operand.const (Go.Value.int Go.IntKind.i64 1)),(Go.Operand.const (Go.Value.int Go.IntKind.i64 2)),(Go.Operand.const (Go.Value.int Go.IntKind.i64 3)),(Go.Operand.const (Go.Value.int Go.IntKind.i64 4))]) underlying45 Jc rfl rfl rfl rfl rfl (fun e2=> ?_);refine EX (xs:= [(Go.Operand.const (Go.Value.int Go.IntKind.i64 2)),(Go.Operand.const (Go.Value.int Go.IntKind.i64 3)),(Go.Operand.const (Go.Value.int Go.IntKind.i64 4)),(Go.Operand.const (Go.Value.int Go.IntKind.i64 5))]) underlying45 Jc rfl rfl rfl rfl rfl (fun b2=> ?_);refine EX (xs:= [(Go.Operand.const (Go.Value.int Go.IntKind.i64 3))]) underlying45 Jc rfl rfl rfl rfl rfl (fun b3=> ?_);refine aK.dO aO.here ?_;rintro wi a3 sk tu aC fV Bj auX;cases aC;refine aK.dO aO.here ?_;rintro dV fm dT k6 aC c4 fw auY;cases aC;refine aK.dO aO.here ?_;rintro en dW fE lJ aC bq fi auZ;cases aC;refine aI (hq (v:=.agg #[.slice (some ⟨e2,0,none⟩) 4 4,.slice (some ⟨b2,0,none⟩) 4 4,.slice (some ⟨b3,0,none⟩) 1 1,.slice none 0 0,.slice none 0 0,.slice none 0 0]) rfl (fun _=>by kernel_rfl)) ?_;refine a8 ?_;refine bn ?_;exact⟨_,_,_,rfl,bY.of rfl ah ah auZ (SJ (by decide)),bY.of rfl ah ah (auY.mono aa.ag) (SJ (by decide)),bY.of rfl ah ah (auX.mono aa.ag) (SJ (by decide)),rfl⟩
theorem au0{I:aa}{kZ s1 s2:Value}{st:Int}(aB:bY I kZ [1,2,3,4])(ab:bY I s1 [2,3,4,5])(ae:bY I s2 [3])(bk:0≤st)(al:st≤5):
 ∃s,(∀w,(Instr.index 174 (.agg #[kZ,s1,s2,.slice none 0 0,.slice none 0 0,.slice none 0 0]) (.int .i64 st)).run Tryz.prog w=.ok s w)∧bY I s (Ah st):=by
 obtain rfl|rfl|rfl|rfl|rfl|rfl:st=0∨st=1∨st=2∨st=3∨st=4∨st=5:=by omega
 exact⟨kZ,fun _=>by kernel_rfl,aB⟩;exact⟨s1,fun _=>by kernel_rfl,ab⟩;exact⟨s2,fun _=>by kernel_rfl,ae⟩;exact⟨.slice none 0 0,fun _=>by kernel_rfl,bY.nil I⟩;exact⟨.slice none 0 0,fun _=>by kernel_rfl,bY.nil I⟩;exact⟨.slice none 0 0,fun _=>by kernel_rfl,bY.nil I⟩
def Me(es:List e_)(k:Nat)(hk:k<es.length)(state why:Int):Prop:=state∈Ah es[k].st∧(why= -1∨(state=3∧(0≤why∧why<es.length)∧why≠k))
def Mf(es:List e_)(id state why e:Int)(gp:List e_):Prop:=
  (e≠0∧gp=es∧∀(k:Nat) (hk:k<es.length),id=k→¬Me es k hk state why)∨(e=0∧∃(k:Nat) (hk:k<es.length),id=k∧Me es k hk state why∧gp=es.set k {es[k]with st:=state,why:=why})
theorem au1{I:aa}{sb c:Nat}{A:Option Addr}{xs:List Value}{es:List e_}{id state why:Int}(bm:bd jV I xs es)(kp:es.length≤5000)(ch:∀e∈es,0≤e.st∧e.st≤5):
 aS Tryz.prog 80 [.pointer (some ⟨sb,0,none⟩),.int .i64 id,.int .i64 state,.int .i64 why] I (ko sb A c es.length xs) (fun v ai δ'=>∃e xs' gp,v=.int .i64 e∧Mf es id state why e gp∧bd jV ai xs' gp∧δ'=ko sb A c es.length xs'):=by
 refine a1 func80 ntmps80 fun aG=> ?_;refine a_ ?_;refine mG (fun aL ai δ'=>∃(k:Nat) (hk:k<es.length),id=k∧Me es k hk state why∧aL= [(0,.pointer (some ⟨sb,0,none⟩)),(1,.int .i64 (k:Int)),(2,.int .i64 state),(3,.int .i64 why)]∧I.le ai∧δ'=ko sb A c es.length xs) ?_ ?_;refine a8 ?_;refine aI (pn (z:=false) underlying55 rfl rfl rfl) ?_;refine bg ?_;by_cases lK:0≤id∧id<es.length;obtain⟨k,rfl⟩:∃k:Nat,id=k:=⟨id.toNat,by omega⟩
 have av:k<es.length:=by omega
 have hj:=ch es[k] (List.getElem_mem av);obtain⟨vs,⟨bH,bZ,gC,gD,rfl,o1,m2⟩,_,r,jP⟩:=bm.at av;have nL:kU false 1 (xs.drop (k*5+3))=some (.int .i64 es[k].st):=by rw[←List.drop_drop,jP];rfl
 refine eo rfl (Em (n:=es.length) ah) (df.one aO.here) ?_;rintro wB mR _ sx ⟨rfl,rfl⟩;rw[decide_eq_true lK];refine aZ ?_;refine bJ.gK (Has.there Has.here) ah (fun bo eV=> ?_);refine eU [2,4,6,8,10,12,14,16,20,1,18,23,24,27] (fun _=>ko sb A c es.length xs) (fun _=>(List.Sublist.refl _)) ?_;refine aP ?_;refine dg rfl (gH (v:=.int .i64 es[k].st) l8 rfl (Has.there Has.here) bo nL) ?_;refine go2 ?_;refine bN rfl (auW _) ?_;rintro yd oy _ qw ⟨kZ,s1,s2,rfl,uW,db,gr,rfl⟩;obtain⟨s,BD,KR⟩:=au0 uW db gr hj.1 hj.2;refine go2 ?_;refine dg rfl (Uu rfl rfl BD) ?_;by_cases Ce:state∈Ah es[k].st;refine aX ?_;refine bN rfl (SG (x:=state) KR) ?_;rintro v29 tt _ px ⟨rfl,rfl⟩;rw[decide_eq_true Ce];refine cT ?_;by_cases Cd:why= -1;refine AT ?_;exact q6 _ ⟨k,av,rfl,⟨Ce,.inl Cd⟩,rfl,aa.ag,rfl⟩ ⟨rfl,rfl,rfl,rfl,trivial⟩;refine aR ?_;by_cases u_:state=3;refine a8 ?_;by_cases su:0≤why∧why<es.length;refine cZ ?_;refine eo rfl (Em (n:=es.length) ah) (df.one aO.here) ?_;rintro Hr D4 _ Hs ⟨rfl,rfl⟩;rw[decide_eq_true su];refine a_ ?_;by_cases D6:why=k;refine gk ?_;refine dY ?_;exact⟨1,xs,es,rfl,.inl ⟨by decide,rfl,fun cB hk h q=>by have:cB=k:=ah;subst this;rcases q.2 with h|h;exact Cd h;exact h.2.2 D6⟩,bm.mono aa.ag,rfl⟩;refine br ?_;exact q6 _ ⟨k,av,rfl,⟨Ce,.inr ⟨u_,su,D6⟩⟩,rfl,aa.ag,rfl⟩ ⟨rfl,rfl,rfl,rfl,trivial⟩;refine cZ ?_;refine eo rfl (Em (n:=es.length) ah) (df.one aO.here) ?_;rintro Hr D4 _ Hs ⟨rfl,rfl⟩;rw[decide_eq_false su];refine rk ?_;refine dY ?_;exact⟨1,xs,es,rfl,.inl ⟨by decide,rfl,fun cB hk h q=>by have:cB=k:=ah;subst this;rcases q.2 with h|h;exact Cd h;exact su h.2.1⟩,bm.mono aa.ag,rfl⟩;refine Fk ?_;refine dY ?_;exact⟨1,xs,es,rfl,.inl ⟨by decide,rfl,fun cB hk h q=>by have:cB=k:=ah;subst this;rcases q.2 with h|h;exact Cd h;exact u_ h.1⟩,bm.mono aa.ag,rfl⟩;refine aX ?_;refine bN rfl (SG (x:=state) KR) ?_;rintro v29 tt _ px ⟨rfl,rfl⟩;rw[decide_eq_false Ce];refine iR ?_;refine dY ?_;exact⟨4,xs,es,rfl,.inl ⟨by decide,rfl,fun cB hk h q=>by have:cB=k:=ah;subst this;exact Ce q.1⟩,bm.mono aa.ag,rfl⟩;refine eo rfl (Em (n:=es.length) ah) (df.one aO.here) ?_;rintro wB mR _ sx ⟨rfl,rfl⟩;rw[decide_eq_false lK];refine cT ?_;refine dY ?_;exact⟨6,xs,es,rfl,.inl ⟨by decide,rfl,fun k hk h _=>lK ⟨by omega,by omega⟩⟩,bm.mono aa.ag,rfl⟩;rintro _ dV _ ⟨k,av,rfl,cn,rfl,k6,rfl⟩;obtain⟨vs,au2,_,pT⟩:=(bm.mono k6).store (b:= {es[k]with st:=state}) av;obtain⟨bH,bZ,gC,gD,rfl,o1,m2⟩:=au2;obtain⟨ys,dX,rQ⟩:=pT 3 [.int .i64 state] _ rfl ⟨bH,bZ,gC,gD,rfl,o1,m2⟩;have fi:k<(es.set k {es[k]with st:=state}).length:=by simpa using av
 obtain⟨au3,adh,_,xZ⟩:=rQ.store (b:= {es[k]with st:=state,why:=why}) fi;rw[List.getElem_set_self]at adh;obtain⟨En,Eo,Ai,Aj,rfl,au4,au5⟩:=adh;obtain⟨zs,ky,hg⟩:=xZ 4 [.int .i64 why] _ rfl ⟨En,Eo,Ai,Aj,rfl,au4,au5⟩;rw[List.set_set]at hg;refine aX ?_;refine bJ.gK (Has.there Has.here) ah (fun bo eV=> ?_);refine eU [0,2,4,6,8,10,12,14,16,18,20,22,24,26,29,30,32,35] (fun _=> [.box sb 86 [.slice A es.length c]]) (fun _=>(List.Sublist.cons_cons _ (List.nil_sublist _))) ?_;refine gk ?_;refine nC (xs':=ys) l8 rfl rfl bo rfl rfl rfl (by simp[c9]) (bc.there bc.here) dX ?_;refine a_ ?_;refine nC (xs':=zs) l8 rfl rfl bo rfl rfl rfl (by simp[c9]) (bc.there bc.here) ky ?_;refine b_ ?_;refine dY ?_;exact⟨0,zs,_,rfl,.inr ⟨rfl,k,av,rfl,cn,rfl⟩,hg,rfl⟩
theorem Mg{I:aa}{sb c:Nat}{A:Option Addr}{xs:List Value}{es:List e_}{k:Nat}(bm:bd jV I xs es)(kp:es.length≤5000)(av:k<es.length):
 aS Tryz.prog 18 [.pointer (some ⟨sb,0,none⟩),.int .i64 k] I (ko sb A c es.length xs) (fun v ai δ'=>∃bH bZ gC gD,v=.tuple #[.agg #[.slice bH es[k].bP.length bZ,.int .i64 es[k].rule,.slice gC es[k].from_.length gD,.int .i64 es[k].st,.int .i64 es[k].why],.int .i64 0]∧cf ai (.slice bH es[k].bP.length bZ) es[k].bP∧bY ai (.slice gC es[k].from_.length gD) es[k].from_∧δ'=ko sb A c es.length xs):=by
 obtain⟨vs,⟨bH,bZ,gC,gD,rfl,o1,m2⟩,_,r,jP⟩:=bm.at av;refine a1 func18 ntmps18 fun aG=> ?_;refine go2 ?_;refine bh fun b4=> ?_;refine aP ?_;refine aI (pn (z:=false) underlying55 rfl rfl rfl) ?_;refine b_ ?_;refine eo rfl (Em (n:=es.length) ah) (df.one (aO.there aO.here)) ?_;rintro wC nN _ mf ⟨rfl,rfl⟩;rw[decide_eq_true (show 0≤(k:Int)∧(k:Int)<(es.length:Nat)by omega)];refine bg ?_;refine aK.gK (Has.there (Has.there Has.here)) ah (fun bo eV=> ?_);refine aZ ?_;refine aI (gH (v:=.agg #[.slice bH es[k].bP.length bZ,.int .i64 es[k].rule,.slice gC es[k].from_.length gD,.int .i64 es[k].st,.int .i64 es[k].why]) Fb rfl (Has.there (Has.there Has.here)) bo (by rw[jP];rfl)) ?_;refine bh fun c1=> ?_;refine a8 ?_;refine eU [0,2,6,8,5,12,11,15,16,19] (sj [1,4] [.box c1 62 [.slice bH es[k].bP.length bZ,.int .i64 es[k].rule,.slice gC es[k].from_.length gD,.int .i64 es[k].st,.int .i64 es[k].why]]) (AQ (List.Sublist.cons_cons _ (List.nil_sublist _))) ?_;refine a_ ?_;refine bN rfl (acd (o1.mono aa.ag)) ?_;rintro oE mQ _ lL ⟨mP,rfl⟩;obtain⟨En,Eo,rfl⟩:=mP.shape;refine aX ?_;refine jY rfl (Lg.kY aa.ag (yT (by intro x af;simp only[List.mem_cons,List.not_mem_nil,or_false]at af;repeat' (first|(subst af;simp[c9];done)|rcases af with af|af)))) ?_;refine go2 ?_;refine bN rfl (Oh (m2.mono aa.ag)) ?_;rintro v27 u3 _ wm ⟨Ai,Aj,rfl,rfl⟩;refine aK.dO aO.here ?_;rintro pD Ds Dt qD aC au6 aAb au7;cases aC;have ka:bY pD (.slice Ai es[k].from_.length Aj) es[k].from_:=bY.of rfl au6 m2.len.1 au7 m2.len.2;refine aX ?_;refine jY rfl (I3 (by kernel_rfl) aa.ag) ?_;refine aR ?_;refine fU ?_;refine a8 ?_;refine fU ?_;refine b_ ?_;refine dv (rs:= [.cell 4 62,.tmp 5]) rfl (List.Perm.refl _) (.cons (.cell rfl Fb cW rfl) (.cons (.tmp rfl) .nil)) (List.Sublist.cons _ (List.Sublist.cons_cons _ (List.Sublist.cons _ (List.Sublist.refl _)))) ?_;exact⟨En,Eo,Ai,Aj,rfl,mP.mono aa.ag,ka,rfl⟩
theorem adi{I:aa}{b4 sb c n:Nat}{A:Option Addr}{x:Int}(aD:n≤1000000):
 aS Tryz.prog 92 [.int .i64 x,.pointer (some ⟨b4,0,none⟩)] I [.box b4 55 [.pointer (some ⟨sb,0,none⟩)],.box sb 86 [.slice A n c]] (fun v _ δ'=>v=.bool (!(decide (0≤x∧x<n)))∧δ'= [.box b4 55 [.pointer (some ⟨sb,0,none⟩)],.box sb 86 [.slice A n c]]):=by
 refine a1 func92 ntmps92 fun aG=> ?_;refine br ?_;refine eo rfl (Em aD) (df.one (aO.there aO.here)) ?_;rintro v6 wk _ tw ⟨rfl,rfl⟩;refine a_ ?_;refine dv (rs:= [.tmp 3]) rfl ((List.Perm.swap _ _ _)) (.cons (.tmp rfl) .nil) (List.Sublist.refl _) ?_;exact⟨rfl,rfl⟩
def Mh(es:List e_)(c:List ak)(rule:Int)(from_:List Int):Prop:=c.length≤32∧Ag rule from_.length=true∧(∀x∈from_,0≤x∧x<es.length)∧es.length<4096
def SK(es:List e_)(c:List ak)(rule:Int)(from_:List Int)(n e:Int)(gp:List e_):Prop:=
  (¬Mh es c rule from_∧e≠0∧n=0∧gp=es)∨(Mh es c rule from_∧e=0∧n=es.length∧gp=es++ [⟨c,rule,from_,0,-1⟩])
theorem adj{xs:List Int}{n:Nat}:(xs.any fun x=> !(decide (0≤x∧x<(n:Int))))=true↔¬∀x∈xs,0≤x∧x<(n:Int):=by
 rw[List.any_eq_true];constructor;rintro⟨x,af,h⟩ cE;simp at h;have:=cE x af;omega;intro h;refine Classical.byContradiction fun aD=>h fun x af=>Classical.byContradiction fun aC=>aD ⟨x,af,?_⟩;rw[decide_eq_false aC];rfl
theorem au8{I:aa}{sb bu:Nat}{A:Option Addr}{xs:List Value}{es:List e_}{bB r2:Value}{c:List ak}{from_:List Int}{rule:Int}(bm:bd jV I xs es)(kp:es.length≤5000)(aq:cf I bB c)(a7:bY I r2 from_):
 aS Tryz.prog 59 [.pointer (some ⟨sb,0,none⟩),bB,.int .i64 rule,r2] I (ko sb A bu es.length xs) (fun v ai δ'=>∃n e c7 cJ xs' gp,v=.tuple #[.int .i64 n,.int .i64 e]∧SK es c rule from_ n e gp∧bd jV ai xs' gp∧δ'=ko sb c7 cJ gp.length xs'):=by
 obtain⟨bH,bZ,rfl⟩:=aq.shape;obtain⟨gC,gD,rfl⟩:=a7.shape;have BS:=a7.len;refine a1 func59 ntmps59 fun aG=> ?_;refine go2 ?_;refine bw fun b4=> ?_;refine a8 ?_;refine mG (fun aL ai δ'=>Mh es c rule from_∧aL= [(1,.slice bH c.length bZ),(2,.int .i64 rule),(3,.slice gC from_.length gD),(4,.pointer (some ⟨b4,0,none⟩))]∧I.le ai∧δ'=.box b4 55 [.pointer (some ⟨sb,0,none⟩)]::ko sb A bu es.length xs) ?_ ?_;refine a8 ?_;refine aI (pn (z:=false) underlying55 rfl rfl rfl) ?_;refine bg ?_;by_cases jh:32<c.length;refine dn ?_;refine dv (rs:= [.tmp 8,.tmp 9]) rfl (List.Perm.refl _) (.cons (.tmp rfl) (.cons (.tmp rfl) .nil)) (List.Sublist.cons _ (List.Sublist.refl _)) ?_;exact⟨0,2,A,bu,xs,es,rfl,.inl ⟨fun h=>by have:=h.1;omega,by decide,rfl,rfl⟩,bm.mono aa.ag,rfl⟩;refine b_ ?_;by_cases xE:Ag rule from_.length=true;refine bN rfl adg ?_;rintro u7 u9 _ rz ⟨rfl,rfl⟩;rw[xE];refine a8 ?_;by_cases mX:(from_.any fun x=> !(decide (0≤x∧x<(es.length:Int))))=true;refine cZ ?_;refine eo rfl (R0 (a7.mono aa.ag) (fun J x cj=>cR.fq (args:= [_]) (caps:= [_]) UY (adi (b4:=b4) (sb:=sb) (c:=bu) (n:=es.length) (A:=A) ah))) (df.two aO.here aO.here) ?_;rintro v26 rq _ me ⟨rfl,rfl⟩;rw[mX];refine dn ?_;refine dv (rs:= [.tmp 8,.tmp 9]) rfl (List.Perm.refl _) (.cons (.tmp rfl) (.cons (.tmp rfl) .nil)) (List.Sublist.cons _ (List.Sublist.refl _)) ?_;exact⟨0,1,A,bu,xs,es,rfl,.inl ⟨fun h=>adj.1 mX h.2.2.1,by decide,rfl,rfl⟩,bm.mono aa.ag,rfl⟩;have au9:(from_.any fun x=> !(decide (0≤x∧x<(es.length:Int))))=false:=by simpa using mX
 have gw:∀x∈from_,0≤x∧x<(es.length:Int):=Classical.byContradiction fun h=>mX (adj.2 h);refine cZ ?_;refine eo rfl (R0 (a7.mono aa.ag) (fun J x cj=>cR.fq (args:= [_]) (caps:= [_]) UY (adi (b4:=b4) (sb:=sb) (c:=bu) (n:=es.length) (A:=A) ah))) (df.two aO.here aO.here) ?_;rintro v26 rq _ me ⟨rfl,rfl⟩;rw[au9];refine bW ?_;by_cases rv:4096≤es.length;refine dn ?_;refine dv (rs:= [.tmp 8,.tmp 9]) rfl (List.Perm.refl _) (.cons (.tmp rfl) (.cons (.tmp rfl) .nil)) (List.Sublist.cons _ (List.Sublist.refl _)) ?_;exact⟨0,9,A,bu,xs,es,rfl,.inl ⟨fun h=>by have:=h.2.2.2;omega,by decide,rfl,rfl⟩,bm.mono aa.ag,rfl⟩;refine aP ?_;exact q6 _ ⟨⟨by omega,xE,gw,by omega⟩,rfl,aa.ag,rfl⟩ ⟨rfl,rfl,rfl,rfl,trivial⟩;have au_:Ag rule from_.length=false:=by simpa using xE
 refine bN rfl adg ?_;rintro u7 u9 _ rz ⟨rfl,rfl⟩;rw[au_];refine ic ?_;refine dv (rs:= [.tmp 8,.tmp 9]) rfl (List.Perm.refl _) (.cons (.tmp rfl) (.cons (.tmp rfl) .nil)) (List.Sublist.cons _ (List.Sublist.refl _)) ?_;exact⟨0,1,A,bu,xs,es,rfl,.inl ⟨fun h=>xE h.2.1,by decide,rfl,rfl⟩,bm.mono aa.ag,rfl⟩;rintro _ dV _ ⟨cn,rfl,k6,rfl⟩;have aAc:=cn.2.2.2;refine aX ?_;refine eU [0,2,4,6,8,10,14,16,13,19,20,23,25,26,28,31] (sj [0,1,4] [.box b4 55 [.pointer (some ⟨sb,0,none⟩)],.box sb 86 [.slice A es.length bu]]) (AQ (List.Sublist.cons_cons _ (List.Sublist.cons_cons _ (List.nil_sublist _)))) ?_;refine br ?_;refine bN rfl (acd (aq.mono aa.ag)) ?_;rintro v41 OP _ OQ ⟨qQ,rfl⟩;obtain⟨En,Eo,rfl⟩:=qQ.shape;refine aX ?_;refine jY rfl (Lg.kY aa.ag (yT (by intro x af;simp only[List.mem_cons,List.not_mem_nil,or_false]at af;repeat' (first|(subst af;simp[c9];done)|rcases af with af|af)))) ?_;refine aX ?_;refine bN rfl (Oh (a7.mono aa.ag)) ?_;rintro v44 A4 _ y6 ⟨Ai,Aj,rfl,rfl⟩;refine aK.dO aO.here ?_;rintro zL zQ zR x8 aC HJ acm HK;cases aC;have LA:bY zL (.slice Ai from_.length Aj) from_:=bY.of rfl HJ BS.1 HK BS.2;refine aX ?_;refine jY rfl (Lg.kY aa.ag (yT (by intro x af;simp only[List.mem_cons,List.not_mem_nil,or_false]at af;repeat' (first|(subst af;simp[c9];done)|rcases af with af|af)))) ?_;refine go2 ?_;refine c_ fun aAd=> ?_;refine aX ?_;refine jY rfl (Lg.kY aa.ag (yT (by intro x af;simp only[List.mem_cons,List.not_mem_nil,or_false]at af;repeat' (first|(subst af;simp[c9];done)|rcases af with af|af)))) ?_;refine aX ?_;refine gl fun Lx Ly=> ?_;refine aX ?_;refine jY rfl (Lg.kY aa.ag (yT (by intro x af;simp only[List.mem_cons,List.not_mem_nil,or_false]at af;repeat' (first|(subst af;simp[c9];done)|rcases af with af|af)))) ?_;refine a_ ?_;refine yL (I3 (by kernel_rfl) aa.ag) ?_;refine br ?_;refine aK.view (View.drop aO.here) ?_;refine aI (gG (c:=((es.length:Nat):Int)) rfl rfl ah ah) ?_;refine a_ ?_;refine dv (rs:= [.tmp 8,.tmp 9]) rfl (List.Perm.refl _) (.cons (.tmp rfl) (.cons (.tmp rfl) .nil)) (List.Sublist.cons _ (List.Sublist.refl _)) ?_;refine⟨es.length,0,Lx,Ly,xs++ [.slice En c.length Eo,.int .i64 rule,.slice Ai from_.length Aj,.int .i64 0,.int .i64 (-1)],es++ [⟨c,rule,from_,0,-1⟩],rfl,.inr ⟨cn,rfl,rfl,rfl⟩,(bm.mono aa.ag).app (bd.single ⟨En,Eo,Ai,Aj,rfl,qQ.mono aa.ag,LA.mono aa.ag⟩),?_⟩;simp[ko,cat,c9]
theorem permA{l A W:List ay}:(l++(A++W)).Perm (A++(l++W)):=by
 rw[←List.append_assoc,←List.append_assoc];exact List.perm_append_comm.append_right W
theorem adk{l A W:List ay}:(l++(A++W)).Perm (W++(l++A)):=by
 rw[←List.append_assoc];exact List.perm_append_comm
theorem min_mem{xs:List bX}(h:nZ xs){x:bX}(af:x∈xs):jA (gt xs 0) x:=by
 obtain⟨j,au,rfl⟩:=List.getElem_of_mem af;rw[←uA au];exact aur h j j (Nat.le_refl _) au
theorem Ep{xs:List bX}(h:0<xs.length):gt xs 0∈xs:=by rw[uA h];exact List.getElem_mem h
theorem ava{xs:List bX}{mp:bU}(h:h0 xs mp){x y:bX}(af:x∈xs)(aw:y∈xs)(e:x.2=y.2):x=y:=by
 obtain⟨i,aj,rfl⟩:=List.getElem_of_mem af;obtain⟨j,au,rfl⟩:=List.getElem_of_mem aw;have:=h.inj aj au (by rw[uA aj,uA au];exact e);subst this;rfl
def Mi(a w told:Nat)(ys:List bX)(y:bX):Prop:=if told%(a+w)<a then∀z∈ys,y.2≤z.2 else∀z∈ys,jA y z
theorem adl{a w told:Nat}{xs ys:List bX}{mp e4:bU}{y:bX}(cn:Ek xs ys mp e4)(lN:0<ys.length)(H8:y∈ys)(aw:y.2=if told%(a+w)<a then(gt xs 0).2 else(gt ys 0).2):Mi a w told ys y:=by
 have sJ:0<xs.length:=by rw[cn.len];exact lN
 unfold Mi;by_cases rv:told%(a+w)<a;rw[if_pos rv]at aw⊢;intro z a2;obtain⟨x',lr,adm⟩:=List.mem_map.1 ((cn.ids z.2).2 (List.mem_map_of_mem (f:=fun x:bX=>x.2) a2));have ab:=min_mem cn.af lr;have ae:=cn.eq _ (Ep sJ);have aF:=cn.eq _ lr;change x'.2=z.2 at adm;unfold jA at ab;rw[aw,←adm];omega;rw[if_neg rv]at aw⊢;intro z a2;have:y=gt ys 0:=ava cn.H5 H8 (Ep lN) aw;rw[this];exact min_mem cn.aw a2
theorem avb{I:aa}{q:Af}{a w told:Nat}{ys:List bX}{δ:List ay}(aC:q1 q a w told ys δ)(bk:a≤16)(hw:w≤16)(Mj:0<a+w)(ar:told≤1000000):
 aS Tryz.prog 60 [.pointer (some ⟨q.kl,0,none⟩)] I δ (fun v _ δ'=>(ys= []∧v=.tuple #[.int .i64 0,.bool false]∧q1 q a w told [] δ')∨∃y zs,ys.Perm (y::zs)∧v=.tuple #[.int .i64 y.2,.bool true]∧Mi a w told ys y∧q1 q a w (told+1) zs δ'):=by
 obtain⟨uC,bH,xs,mp,rZ,r1,e4,cn,rfl⟩:=aC;have hlen:=cn.len;have Og:=cn.ei;refine a1 func60 ntmps60 fun aG=> ?_;refine b_ ?_;refine aI (pn (z:=false) underlying48 rfl rfl rfl) ?_;refine bA ?_;refine bh fun b4=> ?_;refine a_ ?_;refine g5 [0,2,4,6,8,10,12,14,16,18,20,22,24,26,28,30,32,34,36,38,40,42] ?_;refine dn ?_;refine dg rfl (tg (c:=((a+w:Nat):Int)) rfl rfl ah ah) ?_;refine dg rfl (agq (c:=((told%(a+w):Nat):Int)) rfl rfl ah rfl) ?_;refine a_ ?_;by_cases rv:told%(a+w)<a;refine fT ?_;refine r_ UZ rfl rfl ((ac6 ah)) (permA (l:= [_,_]) (A:= [_,_,_]) (W:= [_,_,_])) ?_;rintro Ka Kb _ Gd ⟨rfl,rfl⟩;refine aK.view (View.perm (permA (l:= [_,_]) (A:= [_,_,_]) (W:= [_,_,_])).symm) ?_;refine aR ?_;refine bh fun b5=> ?_;refine aP ?_;by_cases lN:0<ys.length;have dX:decide (0<ys.length)=true:=decide_eq_true ah;have fJ:decide (0<xs.length)=true:=decide_eq_true ah;rw[fJ];refine cT ?_;refine aI (tg (c:=((told+1:Nat):Int)) rfl rfl ah ah) ?_;refine b_ ?_;refine eo rfl (SE (q:=q) (a:=a) (w:=w) (told:=told+1) (ys:=ys) ⟨uC,bH,xs,mp,rZ,r1,e4,cn,rfl⟩) (List.perm_append_comm (l₁:= [_,_])) ?_;rintro v57 DJ avc DK ⟨avd,zs,rfl,an,SL⟩;refine aK.view (View.perm (List.perm_append_comm (l₂:= [_,_]))) ?_;refine bA ?_;refine dv (rs:= [.tmp 2,.tmp 3]) rfl (List.Perm.refl _) (.cons (.tmp rfl) (.cons (.tmp rfl) .nil)) (List.Sublist.cons _ (List.Sublist.cons _ (List.Sublist.refl _))) ?_;have sJ:0<xs.length:=by omega
 have si:(gt xs 0).2∈ys.map (·.2):=(cn.ids _).1 (List.mem_map_of_mem (f:=fun x:bX=>x.2) (Ep sJ));have qf:(gt ys 0).2∈ys.map (·.2):=List.mem_map_of_mem (f:=fun x:bX=>x.2) (Ep lN);rcases an with⟨ix,_,_⟩|⟨y,aw,rfl,az⟩
 exact absurd si ix;have H8:y∈ys:=az.mem_iff.2 (List.mem_cons_self ..);refine .inr ⟨y,zs,az,by rw[←aw];rfl,?_,SL⟩;exact adl cn lN H8 (by first|(rw[if_pos rv];exact aw)|(rw[if_neg rv];exact aw));have dX:decide (0<ys.length)=false:=decide_eq_false ah;have fJ:decide (0<xs.length)=false:=decide_eq_false ah;rw[fJ];refine cT ?_;refine dv (rs:= [.tmp 2,.tmp 3]) rfl (List.Perm.refl _) (.cons (.tmp rfl) (.cons (.tmp rfl) .nil)) (List.Sublist.cons _ (List.Sublist.cons _ (List.Sublist.refl _))) ?_;have aw:ys= []:=List.eq_nil_of_length_eq_zero ah;subst aw;exact .inl ⟨rfl,rfl,uC,bH,xs,mp,rZ,r1,e4,cn,rfl⟩;refine b_ ?_;refine r_ UZ rfl rfl ((ac6 ah)) (adk (l:= [_,_]) (A:= [_,_,_]) (W:= [_,_,_])) ?_;rintro Ka Kb _ Gd ⟨rfl,rfl⟩;refine aK.view (View.perm (adk (l:= [_,_]) (A:= [_,_,_]) (W:= [_,_,_])).symm) ?_;refine aR ?_;refine bh fun b5=> ?_;refine aP ?_;by_cases lN:0<ys.length;have dX:decide (0<ys.length)=true:=decide_eq_true ah;have fJ:decide (0<xs.length)=true:=decide_eq_true ah;rw[dX];refine cT ?_;refine aI (tg (c:=((told+1:Nat):Int)) rfl rfl ah ah) ?_;refine b_ ?_;refine eo rfl (SE (q:=q) (a:=a) (w:=w) (told:=told+1) (ys:=ys) ⟨uC,bH,xs,mp,rZ,r1,e4,cn,rfl⟩) (List.perm_append_comm (l₁:= [_,_])) ?_;rintro v57 DJ avc DK ⟨avd,zs,rfl,an,SL⟩;refine aK.view (View.perm (List.perm_append_comm (l₂:= [_,_]))) ?_;refine bA ?_;refine dv (rs:= [.tmp 2,.tmp 3]) rfl (List.Perm.refl _) (.cons (.tmp rfl) (.cons (.tmp rfl) .nil)) (List.Sublist.cons _ (List.Sublist.cons _ (List.Sublist.refl _))) ?_;have sJ:0<xs.length:=by omega
 have si:(gt xs 0).2∈ys.map (·.2):=(cn.ids _).1 (List.mem_map_of_mem (f:=fun x:bX=>x.2) (Ep sJ));have qf:(gt ys 0).2∈ys.map (·.2):=List.mem_map_of_mem (f:=fun x:bX=>x.2) (Ep lN);rcases an with⟨ix,_,_⟩|⟨y,aw,rfl,az⟩
 exact absurd qf ix;have H8:y∈ys:=az.mem_iff.2 (List.mem_cons_self ..);refine .inr ⟨y,zs,az,by rw[←aw];rfl,?_,SL⟩;exact adl cn lN H8 (by first|(rw[if_pos rv];exact aw)|(rw[if_neg rv];exact aw));have dX:decide (0<ys.length)=false:=decide_eq_false ah;have fJ:decide (0<xs.length)=false:=decide_eq_false ah;rw[dX];refine cT ?_;refine dv (rs:= [.tmp 2,.tmp 3]) rfl (List.Perm.refl _) (.cons (.tmp rfl) (.cons (.tmp rfl) .nil)) (List.Sublist.cons _ (List.Sublist.cons _ (List.Sublist.refl _))) ?_;have aw:ys= []:=List.eq_nil_of_length_eq_zero ah;subst aw;exact .inl ⟨rfl,rfl,uC,bH,xs,mp,rZ,r1,e4,cn,rfl⟩
structure o2 where
  fP:Nat
  sb:Nat
  kl:Nat
  hC:Nat
  mb:Nat
  vg:Value
  vs:Value
  s:yl
abbrev uD(f:o2)(ej:Option Addr)(lc dc:Nat)(full:Bool)(empty:Int):ay:=.box f.fP 58 [.pointer (some ⟨f.sb,0,none⟩),.pointer (some ⟨f.kl,0,none⟩),.pointer (some ⟨f.hC,0,none⟩),f.vg,.int .i64 f.s.kn,.int .i64 f.s.fwd,.int .i64 f.s.kM,.int .i64 f.s.wt,.int .i64 f.s.how,.int .i64 f.s.ln,.int .i64 f.s.rounds,.slice ej dc lc,.bool full,.int .i64 empty]
abbrev gQ(f:o2)(A:Option Addr)(c n:Nat)(xs:List Value)(ej:Option Addr)(lc dc:Nat)(ei:List Value)(full:Bool)(empty:Int)(ms:bU)(eE:List ay):List ay:=
  uD f ej lc dc full empty:: .box f.sb 86 [.slice A n c]:: .row (.slice A n c) 62 5 n xs:: .box f.hC 84 [f.vs,.map (some f.mb)]:: .map f.mb ms:: .row (.slice ej dc lc) 122 4 dc ei::eE
section
variable {I:aa} {f:o2} {A:Option Addr} {c:Nat} {xs:List Value} {ej:Option Addr} {lc dc:Nat} {ei:List Value} {full:Bool} {empty:Int} {ms:bU} {eE:List ay} {es:List e_} {k:Nat}
theorem s4(bm:bd jV I xs es)(kp:es.length≤5000)(av:k<es.length)(eP:∃a n c,f.vg=.slice a n c):
 aS Tryz.prog 52 [.pointer (some ⟨f.fP,0,none⟩),.int .i64 k] I (gQ f A c es.length xs ej lc dc ei full empty ms eE) (fun v ai δ'=>(∃bH bZ,v=.slice bH es[k].bP.length bZ∧cf ai v es[k].bP)∧δ'=gQ f A c es.length xs ej lc dc ei full empty ms eE):=by
 refine a1 func52 ntmps52 fun aG=> ?_;refine bW ?_;refine a6 rfl (Mg bm kp av) ?_;rintro sv mi _ oD ⟨bH,bZ,gC,gD,rfl,o1,m2,rfl⟩;refine aR ?_;refine bh fun b5=> ?_;refine bW ?_;exact b0 rfl rfl (⟨⟨bH,bZ,rfl,o1⟩,rfl⟩)
theorem SM(bm:bd jV I xs es)(kp:es.length≤5000)(av:k<es.length)(eP:∃a n c,f.vg=.slice a n c):
 aS Tryz.prog 98 [.pointer (some ⟨f.fP,0,none⟩),.int .i64 k] I (gQ f A c es.length xs ej lc dc ei full empty ms eE) (fun v ai δ'=>v=.int .i64 es[k].st∧δ'=gQ f A c es.length xs ej lc dc ei full empty ms eE):=by
 refine a1 func98 ntmps98 fun aG=> ?_;refine bW ?_;refine a6 rfl (Mg bm kp av) ?_;rintro sv mi _ oD ⟨bH,bZ,gC,gD,rfl,o1,m2,rfl⟩;refine aR ?_;refine bh fun b5=> ?_;refine bW ?_;exact b0 rfl rfl (⟨rfl,rfl⟩)
theorem ave(bm:bd jV I xs es)(kp:es.length≤5000)(av:k<es.length)(eP:∃a n c,f.vg=.slice a n c):
 aS Tryz.prog 62 [.pointer (some ⟨f.fP,0,none⟩),.int .i64 k] I (gQ f A c es.length xs ej lc dc ei full empty ms eE) (fun v ai δ'=>v=.bool (decide (es[k].st=2∨(es[k].st=1∧f.s.kn≠1)))∧δ'=gQ f A c es.length xs ej lc dc ei full empty ms eE):=by
 refine a1 func62 ntmps62 fun aG=> ?_;refine br ?_;refine a6 rfl (SM bm kp av eP) ?_;rintro so jt _ jJ ⟨rfl,rfl⟩;refine aZ ?_;by_cases xF:es[k].st=2;refine fx ?_;exact b0 rfl rfl (⟨by rw[decide_eq_true (.inl xF)];rfl,rfl⟩);refine aR ?_;by_cases vp:es[k].st=1;refine aP ?_;by_cases hO:f.s.kn≠1;refine aP ?_;exact b0 rfl rfl (⟨by rw[decide_eq_true (.inr ⟨vp,hO⟩)];rfl,rfl⟩);refine aP ?_;exact b0 rfl rfl (⟨by rw[decide_eq_false (fun h=>h.elim xF (fun q=>hO q.2))];rfl,rfl⟩);refine dn ?_;exact b0 rfl rfl (⟨by rw[decide_eq_false (fun h=>h.elim xF (fun q=>vp q.1))];rfl,rfl⟩)
end
abbrev q3:Value:=.iface 88 (.agg #[])
section
variable {I:aa} {f:o2} {A:Option Addr} {c:Nat} {xs:List Value} {ej:Option Addr} {lc dc:Nat} {ei:List Value} {full:Bool} {empty:Int} {ms:bU} {eE:List ay} {es:List e_} {k:Nat}
theorem adn(bm:bd jV I xs es)(kp:es.length≤5000)(av:k<es.length)(eP:∃a n c,f.vg=.slice a n c):
 j1 Tryz.prog q3 56 [.pointer (some ⟨f.fP,0,none⟩),.int .i64 k] I (gQ f A c es.length xs ej lc dc ei full empty ms eE) (fun v ai δ'=>v=.tuple #[]∧es[k].bP≠[]∧δ'=gQ f A c es.length xs ej lc dc ei full empty ms eE) (fun ai δ'=>es[k].bP= []∧δ'=gQ f A c es.length xs ej lc dc ei full k ms eE):=by
 refine j1.intro func56 rfl ntmps56 rfl fun aG=> ?_;refine a8 ?_;refine a6 rfl (s4 bm kp av eP) ?_;rintro v6 wk _ tw ⟨⟨bH,bZ,rfl,bL⟩,rfl⟩;refine aX ?_;by_cases nf:((es[k].bP.length:Nat):Int)=0;refine dn ?_;refine aI (hq (v:=.agg #[]) rfl (fun _=>by kernel_rfl)) ?_;refine aI (UE underlying88 rfl) ?_;refine UF rfl ?_;repeat (first|refine Uw ?_|refine avf ?_)
 exact UA (⟨List.eq_nil_of_length_eq_zero ah,rfl⟩);refine a_ ?_;exact uY rfl (⟨rfl,fun h=>nf (by rw[h];rfl),rfl⟩)
theorem avg{bB r2:Value}{bP:List ak}{from_:List Int}{rule:Int}(bm:bd jV I xs es)(kp:es.length≤5000)(rF:dc≤1000000)(eP:∃a n c,f.vg=.slice a n c)(aq:cf I bB bP)(a7:bY I r2 from_):
 j1 Tryz.prog q3 33 [.pointer (some ⟨f.fP,0,none⟩),bB,.int .i64 rule,r2] I (gQ f A c es.length xs ej lc dc ei full empty ms eE)
 (fun v ai δ'=>∃n c7 cJ xs' gp Co p1 Cp,v=.int .i64 n∧SK es bP rule from_ n 0 gp∧bd jV ai xs' gp∧δ'=gQ f c7 cJ gp.length xs' Co p1 (dc+1) Cp full empty ms eE)
 (fun ai δ'=>∃n e c7 cJ xs' gp,e≠0∧SK es bP rule from_ n e gp∧bd jV ai xs' gp∧δ'=gQ f c7 cJ gp.length xs' ej lc dc ei true empty ms eE):=by
 obtain⟨bH,bZ,bM⟩:=aq.shape;subst bM;obtain⟨gC,gD,bM⟩:=a7.shape;subst bM;refine j1.intro func33 rfl ntmps33 rfl fun aG=> ?_;refine dn ?_;refine a6 rfl (au8 bm kp aq a7) ?_;rintro tD sr _ wo ⟨n,e,c7,cJ,xs',gp,rfl,ks,k5,rfl⟩;refine bA ?_;by_cases vf:e≠0;refine cT ?_;refine aI (hq (v:=.agg #[]) rfl (fun _=>by kernel_rfl)) ?_;refine aI (UE underlying88 rfl) ?_;refine UF rfl ?_;repeat (first|refine Uw ?_|refine avf ?_)
 exact UA (⟨n,e,c7,cJ,xs',gp,vf,ks,k5.mono aa.ag,rfl⟩);have he:e=0:=Classical.not_not.1 vf;subst he;refine dn ?_;refine aI (hq (v:=.agg #[.bool false,.int .i64 n,.int .i64 0,.int .i64 (-1)]) rfl (fun _=>by kernel_rfl)) ?_;refine c_ fun aAe=> ?_;refine gl fun avh avi=> ?_;refine bW ?_;exact ajJ rfl rfl (⟨n,c7,cJ,xs',gp,avh,avi,_,rfl,ks,k5.mono aa.ag,rfl⟩)
end
theorem Mf.len{es gp:List e_}{id st why e:Int}(h:Mf es id st why e gp):gp.length=es.length∧∀(j:Nat) (ab:j<es.length) (ae:j<gp.length),gp[j].bP=es[j].bP:=by
 rcases h with⟨_,rfl,_⟩|⟨_,k,hk,_,_,rfl⟩
 exact⟨rfl,fun _ _ _=>rfl⟩;refine⟨List.length_set,fun j ab ae=> ?_⟩;rw[List.getElem_set];split;rename_i e;subst e;rfl;rfl
section
variable {I:aa} {f:o2} {A:Option Addr} {c:Nat} {xs:List Value} {ej:Option Addr} {lc dc:Nat} {ei:List Value} {full:Bool} {empty:Int} {ms:bU} {eE:List ay} {es:List e_} {k:Nat}
theorem avj{q:Af}{a w told:Nat}{ys:List bX}{gs:List aE}{st why:Int}(bm:bd jV I xs es)(kp:es.length≤5000)(av:k<es.length)(rF:dc≤1000000)(eP:∃a n c,f.vg=.slice a n c)(aC:q1 q a w told ys eE)(iL:q.kl=f.kl)(ao:cP I f.vs gs)(ez:gs.length≤100000)(hm:rY I ms)(ch:∀e∈es,0≤e.st∧e.st≤5)(cH:∀e∈es,bS gs e.bP=0):
 aS Tryz.prog 53 [.pointer (some ⟨f.fP,0,none⟩),.int .i64 k,.int .i64 st,.int .i64 why] I (gQ f A c es.length xs ej lc dc ei full empty ms eE)
 (fun v ai δ'=>∃e xs' gp Co p1 Cp fk zs Mk,v=.tuple #[]∧Mf es k st why e gp∧bd jV ai xs' gp∧rY ai fk∧((st≠1∧∃b,H4 ys k b zs)∨(st=1∧zs=ys))∧q1 q a w told zs Mk∧δ'=gQ f A c gp.length xs' Co p1 (dc+1) Cp full empty fk Mk):=by
 refine a1 func53 ntmps53 fun aG=> ?_;refine br ?_;have my:=fun J:aa=>SE (I:=J) (id:=(k:Int)) aC;simp only[iL]at my;obtain⟨bz,vu,ado⟩:=ao.shape;refine a6 rfl (au1 (id:=(k:Int)) (state:=st) (why:=why) bm kp ch) ?_;rintro wB mR _ sx ⟨e,xs',gp,rfl,Er,k5,rfl⟩;obtain⟨hc,eR⟩:=Er.len;have SN:k<gp.length:=by omega
 have adp:bS gs gp[k].bP=0:=by rw[eR k av SN];exact cH _ (List.getElem_mem av)
 rw[←hc];refine bW ?_;refine aI (hq (v:=.agg #[.bool true,.int .i64 k,.int .i64 st,.int .i64 why]) rfl (fun _=>by kernel_rfl)) ?_;refine c_ fun Om=> ?_;refine gl fun a26 zj=> ?_;refine gk ?_;by_cases ab:st=1;refine bg ?_;refine eU [0,2,4,6,8,10,12,15,17] (fun _=> [uD f a26 zj (dc+1) full empty]) (fun _=>fQ) ?_;refine bg ?_;refine a6 rfl (s4 k5 ah SN eP) ?_;rintro v46 GY _ GZ ⟨⟨bH,bZ,rfl,bL⟩,rfl⟩;refine aR ?_;refine a6 rfl (acI (ao.mono aa.ag) (bL.mono aa.ag) adp ez (hm.mono aa.ag) ah) ?_;rintro w2 vl _ sO ⟨aT,fk,rfl,yc,rfl⟩;refine cT ?_;exact lA rfl (⟨e,xs',gp,a26,zj,_,fk,ys,eE,rfl,Er,k5.mono aa.ag,yc.mono aa.ag,.inr ⟨ab,rfl⟩,aC,rfl⟩);refine aZ ?_;by_cases ae:st=2;refine a_ ?_;refine eU [0,2,4,6,8,10,12,15,17] (fun _=> [uD f a26 zj (dc+1) full empty]) (fun _=>fQ) ?_;refine bg ?_;refine a6 rfl (s4 k5 ah SN eP) ?_;rintro v46 GY _ GZ ⟨⟨bH,bZ,rfl,bL⟩,rfl⟩;refine aR ?_;refine a6 rfl (acI (ao.mono aa.ag) (bL.mono aa.ag) adp ez (hm.mono aa.ag) ah) ?_;rintro w2 vl _ sO ⟨aT,fk,rfl,yc,rfl⟩;refine iR ?_;refine eo rfl (my _) (List.perm_append_comm (l₁:= [_,_,_,_,_,_,_])) ?_;rintro Ry Rz SO RA ⟨SP,zs,rfl,xB,H9⟩;refine aK.view (View.perm (List.perm_append_comm (l₂:= [_,_,_,_,_,_,_]))) ?_;refine aX ?_;exact lA rfl (⟨e,xs',gp,a26,zj,_,fk,zs,SO,rfl,Er,k5.mono aa.ag,yc.mono aa.ag,.inl ⟨ab,SP,xB⟩,H9,rfl⟩);refine bA ?_;refine a6 rfl (aud ⟨bz,_,vu,ado⟩ (hm.mono aa.ag)) ?_;rintro v35 A3 _ sq ⟨aT,fk,rfl,yc,rfl⟩;refine fT ?_;refine eo rfl (my _) (List.perm_append_comm (l₁:= [_,_,_,_,_,_,_])) ?_;rintro Ry Rz SO RA ⟨SP,zs,rfl,xB,H9⟩;refine aK.view (View.perm (List.perm_append_comm (l₂:= [_,_,_,_,_,_,_]))) ?_;refine aX ?_;exact lA rfl (⟨e,xs',gp,a26,zj,_,fk,zs,SO,rfl,Er,k5.mono aa.ag,yc.mono aa.ag,.inl ⟨ab,SP,xB⟩,H9,rfl⟩)
end
theorem avk {I:aa} {sb c:Nat} {A:Option Addr} {xs:List Value} {es:List e_} {b1:Value} {δf:List ay} {p:e_→Bool} (bm:bd jV I xs es) (kp:es.length≤5000)
 (a7:∀J e u,I.le J→jV.R J e u→cR Tryz.prog b1 [.agg u.toArray] J δf (fun v _ δ'=>v=.bool (p e)∧δ'=δf)):
 aS Tryz.prog 122 [.agg #[b1],.pointer (some ⟨sb,0,none⟩)] I (ko sb A c es.length xs++δf) (fun v ai δ'=>∃B k,v=.slice B (h2 p es es.length).length k∧δ'=f_ B k (h2 p es es.length)::(ko sb A c es.length xs++δf)):=by
 refine a1 func122 ntmps122 fun aG=> ?_;refine go2 ?_;refine bw fun b2=> ?_;refine aP ?_;refine aI (pn (z:=false) underlying55 rfl rfl rfl) ?_;refine AT ?_;refine bJ.view (View.gh 3 1) ?_;refine ek (fun m aL ai δ'=>∃(k:Nat) (mv:Option Addr) (co:Nat),m=es.length-k∧k≤es.length∧aL= [(2,.pointer (some ⟨b2,0,none⟩)),(5,.slice mv (h2 p es k).length co),(13,.slice A es.length c),(14,.int .i64 es.length),(15,.int .i64 k)]∧I.le ai∧δ'=f_ mv co (h2 p es k):: .box b2 185 [b1]::(ko sb A c es.length xs++δf)) es.length [(2,.pointer (some ⟨b2,0,none⟩)),(5,.slice none 0 0),(13,.slice A es.length c),(14,.int .i64 es.length),(15,.int .i64 (0:Nat))] ⟨0,none,0,rfl,Nat.zero_le _,rfl,aa.le_refl _,rfl⟩ ⟨rfl,rfl,rfl,rfl,rfl,trivial⟩ ?_;rintro m _ I0 _ ⟨k,mv,co,rfl,hk,rfl,bO,rfl⟩;have e0:=Mc (p:=p) (es:=es) k;refine aZ ?_;refine bF rfl (fun bq=> ?_) (fun bq=> ?_);have av:k<es.length:=by simpa using bq
 obtain⟨vs,⟨bH,bZ,gC,gD,rfl,o1,m2⟩,_,r,jP⟩:=bm.at av;refine aP ?_;refine aK.gK (Has.there (Has.there (Has.there Has.here))) ah (fun bo eV=> ?_);refine aX ?_;refine aI (gH (v:=.agg #[.slice bH es[k].bP.length bZ,.int .i64 es[k].rule,.slice gC es[k].from_.length gD,.int .i64 es[k].st,.int .i64 es[k].why]) Fb rfl (Has.there (Has.there (Has.there Has.here))) bo (by rw[jP];rfl)) ?_;refine bh fun dp=> ?_;refine br ?_;refine e8 rfl rfl rfl ((a7 _ es[k] [.slice bH es[k].bP.length bZ,.int .i64 es[k].rule,.slice gC es[k].from_.length gD,.int .i64 es[k].st,.int .i64 es[k].why] bO ⟨bH,bZ,gC,gD,rfl,o1.mono bO,m2.mono bO⟩)) (List.perm_append_comm (l₁:= [_,_,_,_,_])) ?_;rintro v23 pJ _ pK ⟨rfl,rfl⟩;refine aK.view (View.perm (List.perm_append_comm (l₂:= [_,_,_,_,_]))) ?_;have hy:=adb (p:=p) av;refine go2 ?_;refine bF rfl (fun c4=> ?_) (fun c4=> ?_);refine aR ?_;refine c_ fun w3=> ?_;refine gl fun a27 tA=> ?_;refine bg ?_;rw[if_pos c4]at hy;refine bf.view (View.drop aO.here) ?_;refine bf.view (View.drop aO.here) ?_;refine cV (es.length-(k+1)) [(2,.pointer (some ⟨b2,0,none⟩)),(5,.slice a27 ((h2 p es k).length+1) tA),(13,.slice A es.length c),(14,.int .i64 es.length),(15,.int .i64 (k+1:Nat))] ah ⟨k+1,a27,tA,rfl,av,by rw[hy];simp,aa.ag,by rw[hy];simp[f_,cat,c9]⟩ ⟨rfl,rfl,rfl,rfl,rfl,trivial⟩;refine aP ?_;rw[if_neg (by rw[c4];simp)]at hy;refine bf.view (View.drop aO.here) ?_;refine cV (es.length-(k+1)) [(2,.pointer (some ⟨b2,0,none⟩)),(5,.slice mv (h2 p es k).length co),(13,.slice A es.length c),(14,.int .i64 es.length),(15,.int .i64 (k+1:Nat))] ah ⟨k+1,mv,co,rfl,av,by rw[hy],aa.ag,by rw[hy];rfl⟩ ⟨rfl,rfl,rfl,rfl,rfl,trivial⟩;have bV:k=es.length:=by simp at bq;omega
 subst bV;refine bW ?_;refine dv (rs:= [.tmp 4]) rfl (List.Perm.refl _) (.cons (.tmp rfl) .nil) (List.Sublist.cons_cons _ (List.Sublist.cons _ (List.Sublist.refl _))) ?_;exact⟨mv,co,rfl,rfl⟩
theorem adq{I:aa}{sb c:Nat}{A:Option Addr}{xs:List Value}{es:List e_}{st:Int}(bm:bd jV I xs es)(kp:es.length≤5000):
 aS Tryz.prog 85 [.pointer (some ⟨sb,0,none⟩),.int .i64 st] I (ko sb A c es.length xs) (fun v ai δ'=>∃B k,v=.slice B (h2 (q2 st) es es.length).length k∧δ'=f_ B k (h2 (q2 st) es es.length)::ko sb A c es.length xs):=by
 refine a1 func85 ntmps85 fun aG=> ?_;refine go2 ?_;refine bw fun b3=> ?_;refine bg ?_;refine eo rfl (avk bm kp (fun J e u cj hu=>cR.fq (args:= [_]) (caps:= [_]) U1 (adf (b:=b3) (st:=st) hu))) ((List.perm_append_comm (l₁:= [_])).trans (List.Perm.of_eq (List.append_nil _).symm)) ?_;rintro so jt _ jJ ⟨avl,avm,rfl,rfl⟩;refine a8 ?_;refine dv (rs:= [.tmp 4]) rfl ((List.Perm.of_eq (List.append_nil _))) (.cons (.tmp rfl) .nil) (List.Sublist.cons_cons _ (List.Sublist.cons_cons _ (List.Sublist.cons_cons _ (List.nil_sublist _)))) ?_;exact⟨avl,avm,rfl,rfl⟩
section
variable {I:aa} {f:o2} {A:Option Addr} {c:Nat} {xs:List Value} {ej:Option Addr} {lc dc:Nat} {ei:List Value} {full:Bool} {empty:Int} {ms:bU} {eE:List ay} {es:List e_} {k:Nat}
def adr(es:List e_)(k:Nat)(ids:List Int):Prop:=∀y∈ids,∃(j:Nat) (h:j<es.length),y=j∧(es[j].st=1∨es[j].st=2)∧j≠k
theorem Ml{ids:List Int}(h:∀y∈ids,(y∈h2 (q2 2) es es.length∨y∈h2 (q2 1) es es.length)∧y≠(k:Int)):adr es k ids:=fun y aw=>by
 obtain⟨ab,ae⟩:=h y aw;rcases ab with ab|ab
 obtain⟨j,au,rfl,_,ao⟩:=(H7 (Nat.le_refl _)).1 ab;exact⟨j,au,rfl,.inr (of_decide_eq_true ao),fun e=>ae (by rw[e])⟩;obtain⟨j,au,rfl,_,ao⟩:=(H7 (Nat.le_refl _)).1 ab;exact⟨j,au,rfl,.inl (of_decide_eq_true ao),fun e=>ae (by rw[e])⟩
theorem SQ(bm:bd jV I xs es)(kp:es.length≤5000)(eP:∃a n c,f.vg=.slice a n c):
 aS Tryz.prog 55 [.pointer (some ⟨f.fP,0,none⟩),.int .i64 k] I (gQ f A c es.length xs ej lc dc ei full empty ms eE) (fun v ai δ'=>(∃ids,bY ai v ids∧adr es k ids∧ids.length≤10000)∧δ'=gQ f A c es.length xs ej lc dc ei full empty ms eE):=by
 have fw:=Mc (p:=q2 2) (es:=es) es.length;have fi:=Mc (p:=q2 1) (es:=es) es.length;refine a1 func55 ntmps55 fun aG=> ?_;refine go2 ?_;refine bw fun b3=> ?_;refine br ?_;refine a6 rfl (adq bm kp) ?_;rintro v10 j4 _ kB ⟨B,lU,rfl,rfl⟩;refine bA ?_;by_cases jh:f.s.kn≠1;refine bA ?_;refine a6 rfl (adq (bm.mono aa.ag) kp) ?_;rintro v22 nm _ rH ⟨aAf,aAg,rfl,rfl⟩;refine aK.dO aO.here ?_;rintro pJ aAh aAi pK aC aAj aAk avn;cases aC;refine mL rfl rfl (Src.m8 avn) (by simp) (by intro u hu;obtain⟨x,_,rfl⟩:=List.mem_map.1 hu;rfl) (fun a23 O1=> ?_);refine a_ ?_;rw[←List.map_append,←List.length_append];refine a6 rfl (Q8 (xs:=h2 (q2 2) es es.length++h2 (q2 1) es es.length) (by rw[List.length_append];omega)) ?_;rintro v25 tz _ k7 ⟨ys,rfl,hb,rfl⟩;refine a8 ?_;rw[←hb.length_eq];refine go2 ?_;have mq:ys.length=(h2 (q2 2) es es.length++h2 (q2 1) es es.length).length:=hb.length_eq;rw[List.length_append]at mq;refine a6 rfl (acM (xs:=ys) (id:=(k:Int)) ah) ?_;rintro wx pD _ qD ⟨zs,rfl,ky,xk,rfl⟩;refine aK.dO aO.here ?_;rintro tt a29 Dr px aC SR RL B4;cases aC;refine a8 ?_;exact b0 rfl rfl (⟨⟨zs,bY.of rfl SR ah B4 (fun x af=>(by obtain⟨j,au,h,_⟩:=Ml (es:=es) (k:=k) (ids:=zs) (fun y aw=>⟨List.mem_append.1 (hb.mem_iff.1 (ky y aw).1),(ky y aw).2⟩) x af;exact⟨by omega,by omega⟩)),Ml fun y aw=>⟨List.mem_append.1 (hb.mem_iff.1 (ky y aw).1),(ky y aw).2⟩,by omega⟩,rfl⟩);refine b_ ?_;refine a6 rfl (acM (id:=(k:Int)) ah) ?_;rintro wx pD _ qD ⟨zs,rfl,ky,xk,rfl⟩;refine aK.dO aO.here ?_;rintro tt a29 Dr px aC SR RL B4;cases aC;refine a8 ?_;exact b0 rfl rfl (⟨⟨zs,bY.of rfl SR ah B4 (fun x af=>(by obtain⟨j,au,h,_⟩:=Ml (es:=es) (k:=k) (ids:=zs) (fun y aw=>⟨.inl (ky y aw).1,(ky y aw).2⟩) x af;exact⟨by omega,by omega⟩)),Ml fun y aw=>⟨.inl (ky y aw).1,(ky y aw).2⟩,by omega⟩,rfl⟩)
end
abbrev avo(b3 b4 b5 fP:Nat)(rule:Int)(bz:Option Addr)(n bB:Nat):List ay:= [.box b3 54 [.pointer (some ⟨fP,0,none⟩)],.box b4 3 [.int .i64 rule],.box b5 45 [.slice bz n bB]]
theorem Mm{I:aa}{fP:Nat}{rule:Int}{bz:Option Addr}{n bB:Nat}:
 aS Tryz.prog 102 [.pointer (some ⟨fP,0,none⟩),.int .i64 rule,.slice bz n bB] I [] (fun v _ δ'=>∃b3 b4 b5,v=.func (.func 131) #[] #[.pointer (some ⟨b3,0,none⟩),.pointer (some ⟨b4,0,none⟩),.pointer (some ⟨b5,0,none⟩)]∧δ'=avo b3 b4 b5 fP rule bz n bB):=by
 refine a1 func102 ntmps102 fun aG=> ?_;refine go2 ?_;refine bw fun b3=> ?_;refine bw fun b4=> ?_;refine bw fun b5=> ?_;refine b_ ?_;exact b0 rfl rfl (⟨b3,b4,b5,rfl,rfl⟩)
end
theorem avp(aN:List Int):uk (hX (h7 aN)):=fun v ax=>by unfold hX DM;rw[G3];split;exact⟨_,by omega,rfl⟩;exact⟨v,ax,rfl⟩
theorem ads{gs:List aE}{c:List ak}(h:bS gs c=0):bS gs (eh c)=0:=by
 have aq:=yj h;have hn:=avp (fB [] (bE c));obtain⟨fE,dT,sk⟩:=xQ h;have an:=GX aq;unfold bS;rw[if_neg (by rw[fE];simp),G5 aq,if_neg (by rw[List.length_map];omega)];refine Gl.2 fun y aw=> ?_;obtain⟨x,af,rfl⟩:=List.mem_map.1 aw;have al:=Lb aq af;have hG:=an _ af;have el:=w4 (h7 (fB [] (bE c))) _ (sS hG.1);have vz:=w4 (h7 (fB [] (bE c))) _ (sS hG.2);obtain⟨ij,gx,zr⟩:=LW.1 (sk _ af);have c8:=(al _ (.inl rfl)).1;have b6:=(al _ (.inr rfl)).1;rw[←el]at c8;rw[←vz]at b6;refine LW.2 ⟨?_,?_,?_⟩;show b9 gs (fF _ x.l);rw[←el];exact LU hn ij c8;show b9 gs (fF _ x.r);rw[←vz];exact LU hn gx b6;unfold mT at zr⊢;show(_:Bool)=false;simp only;rw[←el,←vz,LV hn,LV hn];have xI:decide ((bI (hX (h7 (fB [] (bE c)))) x.r).head≠0)=decide (x.r.head≠0):=decide_eq_decide.2 (not_congr (ab3 hn));rw[xI];exact zr
structure fp where
  es:List e_
  ys:List bX
  full:Bool
  empty:Int
  dc:Nat
  told:Nat
def vK(s:Int):Nat:=if s=0 then 0 else if s=1 then 1 else if s=2 then 2 else 3
def p3:List e_→Nat
  | []=>0
  |e::l=>vK e.st+p3 l
theorem avq(s:Int):vK s≤3:=by unfold vK;split;omega;split;omega;split<;>omega
theorem adt:∀es:List e_,p3 es≤3*es.length
  | []=>Nat.le_refl _
  |e::l=>by have ab:=adt l;have ae:=avq e.st;simp only[p3,List.length_cons];omega
theorem adu(e:e_):∀es:List e_,p3 (es++ [e])=p3 es+vK e.st
  | []=>by simp only[List.nil_append,p3];omega
  |a::l=>by simp only[List.cons_append,p3,adu e l];omega
theorem adv(e:e_):∀(es:List e_) (k:Nat) (h:k<es.length),p3 (es.set k e)+vK es[k].st=p3 es+vK e.st
  |a::l,0,_=>by simp only[List.set_cons_zero,p3,List.getElem_cons_zero];omega
  |a::l,k+1,h=>by have:=adv e l k (by simpa using h);simp only[List.set_cons_succ,p3,List.getElem_cons_succ];omega
structure Inv(gs:List aE)(inp:List (List ak))(X:Nat→Prop)(z:fp):Prop where
  dC:∀e∈z.es,bS gs e.bP=0
  st:∀e∈z.es,0≤e.st∧e.st≤5
  snd:∀E,iG E→(∀c∈inp,m0 gs E c)→∀e∈z.es,m0 gs E e.bP
  len:z.es.length≤4096
  dc:z.dc≤z.es.length+p3 z.es
  jy:∀y∈z.ys,∃(j:Nat) (h:j<z.es.length),y.2=j∧z.es[j].st=1
  uE:(z.ys.map (·.2)).Nodup
  g7:∀(j:Nat) (h:j<z.es.length),z.es[j].st=1→(j:Int)∈z.ys.map (·.2)∨X j
  em:0≤z.empty→∃e∈z.es,e.bP= []
  ne:∀e∈z.es,e.st=2→e.bP≠[]
def eW(z:fp)(k:Nat)(hk:k<z.es.length)(st why:Int)(zs:List bX):fp:= {z with es:=z.es.set k {z.es[k]with st:=st,why:=why},dc:=z.dc+1,ys:=zs}
def g2(z:fp)(c:List ak)(rule:Int)(fr:List Int):fp:= {z with es:=z.es++ [⟨c,rule,fr,0,-1⟩],dc:=z.dc+1}
section
variable {gs:List aE} {inp:List (List ak)} {X:Nat→Prop} {z:fp} {k:Nat} {c:List ak}
theorem Inv.lim(h:Inv gs inp X z):z.dc≤1000000:=by have:=h.dc;have:=h.len;have:=adt z.es;omega
theorem Inv.mono{E9:Nat→Prop}(h:Inv gs inp X z)(k:∀j,X j→E9 j):Inv gs inp E9 z:=⟨h.dC,h.st,h.snd,h.len,h.dc,h.jy,h.uE,fun j au ab=>(h.g7 j au ab).imp id (k j),h.em,h.ne⟩
theorem Inv.ct(h:Inv gs inp X z)(b:Bool):Inv gs inp X {z with full:=b}:=⟨h.dC,h.st,h.snd,h.len,h.dc,h.jy,h.uE,h.g7,h.em,h.ne⟩
theorem Inv.hole(h:Inv gs inp X z)(hk:k<z.es.length)(he:z.es[k].bP= []):Inv gs inp X {z with empty:=k}:=⟨h.dC,h.st,h.snd,h.len,h.dc,h.jy,h.uE,h.g7,fun _=>⟨_,List.getElem_mem hk,he⟩,h.ne⟩
theorem jB{hk:k<z.es.length}{st why:Int}{zs:List bX}{j:Nat}(h:j<z.es.length)(et:j<(eW z k hk st why zs).es.length):(eW z k hk st why zs).es[j].st=(if k=j then st else z.es[j].st)∧(eW z k hk st why zs).es[j].bP=z.es[j].bP:=by
 have e:(eW z k hk st why zs).es[j]=if k=j then{z.es[k]with st:=st,why:=why}else z.es[j]:=List.getElem_set ..
 rw[e];split;rename_i q;subst q;exact⟨rfl,rfl⟩;exact⟨rfl,rfl⟩
theorem jW{hk:k<z.es.length}{st why:Int}{zs:List bX}:(eW z k hk st why zs).es.length=z.es.length:=List.length_set
theorem o3{r:Int}{fr:List Int}:(g2 z c r fr).es.length=z.es.length+1:=List.length_append
theorem s5{r:Int}{fr:List Int}{j:Nat}(h:j<z.es.length)(et:j<(g2 z c r fr).es.length):(g2 z c r fr).es[j]=z.es[j]:=List.getElem_append_left h
theorem Es{r:Int}{fr:List Int}(et:z.es.length<(g2 z c r fr).es.length):(g2 z c r fr).es[z.es.length]=⟨c,r,fr,0,-1⟩:=by
 have:(g2 z c r fr).es[z.es.length]= [(⟨c,r,fr,0,-1⟩:e_)][z.es.length-z.es.length]'(by simp):=List.getElem_append_right (Nat.le_refl _);rw[this];simp
theorem adw{r:Int}{fr:List Int}{j:Nat}(et:j<(g2 z c r fr).es.length):j<z.es.length∨j=z.es.length:=by rw[o3]at et;omega
theorem Mn{r:Int}{fr:List Int}{e:e_}(h:e∈(g2 z c r fr).es):e∈z.es∨e=⟨c,r,fr,0,-1⟩:=(List.mem_append.1 h).imp id List.mem_singleton.1
theorem Mo{hk:k<z.es.length}{st why:Int}{zs:List bX}{e:e_}(h:e∈(eW z k hk st why zs).es):e∈z.es∨(e.st=st∧e.bP=z.es[k].bP):=by
 rcases List.mem_or_eq_of_mem_set h with h|h
 exact .inl h;exact .inr (by rw[h];exact⟨rfl,rfl⟩)
theorem Inv.add(h:Inv gs inp X z){rule:Int}{fr:List Int}(aA:z.es.length<4096)(aq:bS gs c=0)(ao:∀E,iG E→(∀c∈inp,m0 gs E c)→m0 gs E c):Inv gs inp X (g2 z c rule fr) where
  dC e he:=(Mn he).elim (h.dC e) fun q=>by subst q;exact aq
  st e he:=(Mn he).elim (h.st e) fun q=>by subst q;exact⟨Int.le_refl _,show(0:Int)≤5 by decide⟩
  snd E bt aj e he:=(Mn he).elim (h.snd E bt aj e) fun q=>by subst q;exact ao E bt aj
  len:=by rw[o3];omega
  dc:=by have ab:p3 (g2 z c rule fr).es=p3 z.es+vK 0:=adu _ _;rw[o3,ab];have ae:(g2 z c rule fr).dc=z.dc+1:=rfl;have:=h.dc;omega
  jy y aw:=by
   obtain⟨j,au,e,ao⟩:=h.jy y aw;have g1:j<(g2 z c rule fr).es.length:=by rw[o3];omega
   exact⟨j,g1,e,by rw[s5 au g1];exact ao⟩
  uE:=h.uE
  g7 j au ab:=by
   rcases adw au with e|e
   rw[s5 e au]at ab;exact h.g7 j e ab;subst e;rw[Es au]at ab;exact absurd (show(0:Int)=1 from ab) (by decide)
  em aB:=by obtain⟨e,he,ab⟩:=h.em aB;exact⟨e,List.mem_append_left _ he,ab⟩
  ne e he:=(Mn he).elim (h.ne e) fun q=>by subst q;intro q;exact absurd (show(0:Int)=2 from q) (by decide)
theorem avr{s t:Int}(h:t∈Ah s):vK s+1≤vK t∧1≤t∧t≤5:=by
 unfold Ah at h;split at h;subst s;simp at h;rcases h with rfl|rfl|rfl|rfl<;>decide
 split at h;subst s;simp at h;rcases h with rfl|rfl|rfl|rfl<;>decide
 split at h;subst s;simp at h;subst h;decide;cases h
theorem avs{ys zs:List bX}{k:Int}{b:Bool}(aD:(ys.map (·.2)).Nodup)(h:H4 ys k b zs):(zs.map (·.2)).Nodup∧(∀y∈zs,y∈ys∧y.2≠k)∧∀j,j≠k→j∈ys.map (·.2)→j∈zs.map (·.2):=by
 rcases h with⟨ab,_,rfl⟩|⟨x,rfl,_,az⟩
 exact⟨aD,fun y aw=>⟨aw,fun e=>ab (e▸List.mem_map_of_mem aw)⟩,fun j _ h=>h⟩;have hm:=az.map (·.2);have ae:=hm.nodup_iff.1 aD;rw[List.map_cons,List.nodup_cons]at ae;refine⟨ae.2,fun y aw=>⟨az.mem_iff.2 (List.mem_cons_of_mem _ aw),fun e=>ae.1 (e▸List.mem_map_of_mem aw)⟩,fun j au h=> ?_⟩;have:=hm.mem_iff.1 h;rw[List.map_cons,List.mem_cons]at this;exact this.resolve_left au
theorem Inv.move(h:Inv gs inp X z)(hk:k<z.es.length){st why:Int}{zs:List bX}(hm:st∈Ah z.es[k].st)(a2:(st≠1∧∃b,H4 z.ys k b zs)∨(st=1∧zs=z.ys))(oj:st=1→X k)(cu:st=2→z.es[k].bP≠[]):
 Inv gs inp X (eW z k hk st why zs):=by
 obtain⟨nA,pq,SS⟩:=avr hm
 have aC:(zs.map (·.2)).Nodup∧(∀y∈zs,y∈z.ys∧(y.2=k→st=1))∧∀j,(j≠(k:Int)∨st=1)→j∈z.ys.map (·.2)→j∈zs.map (·.2):=by
  rcases a2 with⟨ab,b,aH⟩|⟨ab,rfl⟩
  obtain⟨dW,fm,a3⟩:=avs h.uE aH;exact⟨dW,fun y aw=>⟨(fm y aw).1,fun e=>absurd e (fm y aw).2⟩,fun j au=>a3 j (au.resolve_right ab)⟩;exact⟨h.uE,fun y aw=>⟨aw,fun _=>ab⟩,fun j _ q=>q⟩
 have qN:=List.getElem_mem hk
 refine⟨fun e he=>(Mo he).elim (h.dC e) fun q=>by rw[q.2];exact h.dC _ qN,fun e he=>(Mo he).elim (h.st e) fun q=>by rw[q.1];exact⟨by omega,SS⟩,fun E bt aj e he=>(Mo he).elim (h.snd E bt aj e) fun q=>by rw[q.2];exact h.snd E bt aj _ qN,
   by rw[jW];exact h.len,?_,fun y aw=> ?_,aC.1,fun j au ab=> ?_,fun aB=> ?_,fun e he=>(Mo he).elim (h.ne e) fun q ae=>by rw[q.2];exact cu (by rw[←q.1];exact ae)⟩
 have ab:p3 (eW z k hk st why zs).es+vK z.es[k].st=p3 z.es+vK st:=adv _ _ _ hk;have ae:(eW z k hk st why zs).dc=z.dc+1:=rfl;have:=h.dc;rw[jW];omega;obtain⟨j,au,e,ao⟩:=h.jy y (aC.2.1 y aw).1;have g1:j<(eW z k hk st why zs).es.length:=by rw[jW];exact au
 refine⟨j,g1,e,?_⟩;rw[(jB au g1).1];split;rename_i q;exact(aC.2.1 y aw).2 (by rw[e,q]);exact ao;have g1:j<z.es.length:=by rwa[jW]at au
 rw[(jB g1 au).1]at ab;split at ab;rename_i q;subst q;exact .inr (oj ab);rename_i q;exact(h.g7 j g1 ab).imp (aC.2.2 j (.inl ah)) id;obtain⟨e,he,ab⟩:=h.em aB;obtain⟨j,au,rfl⟩:=List.getElem_of_mem he;have g1:j<(eW z k hk st why zs).es.length:=by rw[jW];exact au
 exact⟨_,List.getElem_mem g1,by rw[(jB au g1).2];exact ab⟩
theorem Inv.put(h:Inv gs inp (fun j=>X j∨j=k) z)(hk:k<z.es.length)(ao:z.es[k].st=1){w e:Int}{zs:List bX}(az:SA z.ys (w,(k:Int)) e zs):Inv gs inp X {z with ys:=zs}:=by
 rcases az with⟨ab,rfl,rfl⟩|⟨ab,ae,_⟩|⟨ab,ae,rfl,az⟩
 exact⟨h.dC,h.st,h.snd,h.len,h.dc,h.jy,h.uE,fun j au q=>(h.g7 j au q).elim .inl fun q=>q.elim .inr fun q=>.inl (by rw[q];exact ab),h.em,h.ne⟩;exfalso
 have:=BF z.es.length ((k:Int)::z.ys.map (·.2)) (List.nodup_cons.2 ⟨ab,h.uE⟩) fun x af=>by
  rcases List.mem_cons.1 af with rfl|af
  omega;obtain⟨y,aw,rfl⟩:=List.mem_map.1 af;obtain⟨j,au,e,_⟩:=h.jy y aw;omega
 simp only[List.length_cons,List.length_map]at this;have:=h.len;omega;have hm:=az.map (·.2);refine⟨h.dC,h.st,h.snd,h.len,h.dc,fun y aw=> ?_,?_,fun j au q=> ?_,h.em,h.ne⟩;rcases List.mem_append.1 (az.mem_iff.1 aw)with aw|aw
 exact h.jy y aw;rw[List.mem_singleton]at aw;subst aw;exact⟨k,hk,rfl,ao⟩;refine hm.nodup_iff.2 ?_;rw[List.map_append,List.nodup_append];refine⟨h.uE,by simp,fun a bk b al e=> ?_⟩;simp at al;subst al;subst e;exact ab bk;have aF:(j:Int)∈z.ys.map (·.2)∨j=k∨X j:=(h.g7 j au q).elim .inl fun q=>q.elim (fun q=>.inr (.inr q)) fun q=>.inr (.inl q);rcases aF with aF|rfl|aF
 exact .inl (hm.mem_iff.2 (by rw[List.map_append];exact List.mem_append_left _ aF));exact .inl (hm.mem_iff.2 (by rw[List.map_append];exact List.mem_append_right _ (by simp)));exact .inr aF
end
def r3(z:fp)(C:List ak):Prop:=∃(j:Nat) (h:j<z.es.length),(z.es[j].st=1∨z.es[j].st=2)∧z.es[j].bP=C
structure dS(gs:List aE)(K:Nat→Prop)(P:List ak→Prop)(z:fp)(P':List ak→Prop)(z':fp):Prop where
  le:z.es.length≤z'.es.length
  bP:∀(j:Nat) (h:j<z.es.length) (et:j<z'.es.length),z'.es[j].bP=z.es[j].bP
  w8:∀(j:Nat) (h:j<z.es.length) (et:j<z'.es.length),K j→z'.es[j].st=z.es[j].st
  act:∀(j:Nat) (et:j<z'.es.length),z'.es[j].st=2→∃h:j<z.es.length,z.es[j].st=2
  jn:z'.full=false→z.full=false
  up:z'.full=false→∀C,r3 z C∨P C→∀γ,dw gs γ→eT gs (fun D=>r3 z' D∨P' D) (bC (aU gs) γ C)
  em:z'.empty=z.empty
  q4:z'.told=z.told
section
variable {gs:List aE} {inp:List (List ak)} {X K K':Nat→Prop} {P P' Ak:List ak→Prop} {z z' adx:fp}
theorem dS.refl:dS gs K P z P z:=⟨Nat.le_refl _,fun _ _ _=>rfl,fun _ _ _ _=>rfl,fun j h q=>⟨h,q⟩,id,fun _ C cD γ bl=>eT.self cD bl,rfl,rfl⟩
theorem dS.trans(h:dS gs K P z P' z')(k:dS gs K P' z' Ak adx):dS gs K P z Ak adx where
  le:=Nat.le_trans h.le k.le
  bP j ab ae:=by have aF:j<z'.es.length:=Nat.lt_of_lt_of_le ab h.le;rw[k.bP j aF ae,h.bP j ab aF]
  w8 j ab ae eZ:=by have aF:j<z'.es.length:=Nat.lt_of_lt_of_le ab h.le;rw[k.w8 j aF ae eZ,h.w8 j ab aF eZ]
  act j ab q:=by obtain⟨ae,cY⟩:=k.act j ab q;exact h.act j ae cY
  jn q:=h.jn (k.jn q)
  up q C cD γ bl:=(h.up (k.jn q) C cD γ bl).trans fun D fK γ' kj=>k.up q D fK γ' kj
  em:=k.em.trans h.em
  q4:=k.q4.trans h.q4
theorem dS.b7(h:dS gs K P z P' z')(k:∀j,j<z.es.length→K' j→K j):dS gs K' P z P' z':=⟨h.le,h.bP,fun j ab ae q=>h.w8 j ab ae (k j ab q),h.act,h.jn,h.up,h.em,h.q4⟩
theorem dS.ask(h:dS gs K P' z Ak z')(k:z'.full=false→∀C,P C→∀γ,dw gs γ→eT gs (fun D=>r3 z D∨P' D) (bC (aU gs) γ C)):dS gs K P z Ak z':=
  ⟨h.le,h.bP,h.w8,h.act,h.jn,fun q C cD γ bl=>cD.elim (fun cY=>h.up q C (.inl cY) γ bl) fun cY=>(k q C cY γ bl).trans fun D fK γ' kj=>h.up q D fK γ' kj,h.em,h.q4⟩
theorem dS.sub(h:dS gs K P' z Ak z')(k:∀C,P C→P' C):dS gs K P z Ak z':=h.ask fun _ C cD γ bl=>eT.self (.inr (k C cD)) bl
theorem dS.ady(h:dS gs K P z P' z')(k:∀C,P' C→Ak C):dS gs K P z Ak z':=⟨h.le,h.bP,h.w8,h.act,h.jn,fun q C cD γ bl=>(h.up q C cD γ bl).mono fun D fK=>fK.imp id (k D),h.em,h.q4⟩
theorem dS.live{c:List ak}(h:dS gs K P z (fun C=>P' C∨C=c) z')(aA:r3 z' c):dS gs K P z P' z':=⟨h.le,h.bP,h.w8,h.act,h.jn,fun q C cD γ bl=>(h.up q C cD γ bl).mono fun D fK=>fK.elim .inl fun fK=>fK.elim .inr fun e=>.inl (by rw[e];exact aA),h.em,h.q4⟩
theorem dS.full(b:Bool)(al:b=false→z.full=false):dS gs K P z P {z with full:=b}:=⟨Nat.le_refl _,fun _ _ _=>rfl,fun _ _ _ _=>rfl,fun j h q=>⟨h,q⟩,al,fun _ C cD γ bl=>eT.self cD bl,rfl,rfl⟩
theorem dS.adz:dS gs K P z P' {z with full:=true}:=⟨Nat.le_refl _,fun _ _ _=>rfl,fun _ _ _ _=>rfl,fun j h q=>⟨h,q⟩,fun q=>Bool.noConfusion q,fun q=>Bool.noConfusion q,rfl,rfl⟩
theorem dS.add{c:List ak}{rule:Int}{fr:List Int}:dS gs K P z P (g2 z c rule fr) where
  le:=by rw[o3];omega
  bP j h et:=by rw[s5 h et]
  w8 j h et _:=by rw[s5 h et]
  act j et q:=by
   rcases adw et with e|e
   rw[s5 e et]at q;exact⟨e,q⟩;subst e;rw[Es et]at q;exact absurd (show(0:Int)=2 from q) (by decide)
  jn:=id
  up _ C cD γ bl:=eT.self (cD.imp (fun⟨j,au,ab,ae⟩=>by
   have g1:j<(g2 z c rule fr).es.length:=by rw[o3];omega
   exact⟨j,g1,by rw[s5 au g1];exact ab,by rw[s5 au g1];exact ae⟩) id) bl
  em:=rfl
  q4:=rfl
theorem dS.move {k:Nat} (hk:k<z.es.length) {st why:Int} {zs:List bX} (eZ:¬K k) (ae:st≠2)
 (aq:z.full=false→(z.es[k].st=1∨z.es[k].st=2)→st≠1→∀γ,dw gs γ→eT gs (fun D=>r3 (eW z k hk st why zs) D∨P D) (bC (aU gs) γ z.es[k].bP)):
 dS gs K P z P (eW z k hk st why zs):=by
 refine⟨by rw[jW];exact Nat.le_refl _,fun j ab ae=>(jB ab ae).2,fun j ab ae au=> ?_,fun j ab q=> ?_,id,fun q C cD γ bl=> ?_,rfl,rfl⟩;rw[(jB ab ae).1,if_neg (fun e:k=j=>eZ (e▸au))];have au:j<z.es.length:=by rwa[jW]at ab
 rw[(jB au ab).1]at q;split at q;exact absurd q ae;exact⟨au,q⟩;rcases cD with⟨j,au,aF,rfl⟩|cD
 have g1:j<(eW z k hk st why zs).es.length:=by rw[jW];exact au
 obtain⟨dW,fm⟩:=jB au g1;by_cases e:k=j;subst e;rw[if_pos rfl]at dW;by_cases aQ:st=1;exact eT.self (.inl ⟨k,g1,.inl (dW.trans aQ),fm⟩) bl;exact aq q aF aQ γ bl;rw[if_neg e]at dW;exact eT.self (.inl ⟨j,g1,by rw[dW];exact aF,fm⟩) bl;exact eT.self (.inr cD) bl
theorem dS.avt{k:Nat}(hk:k<z.es.length){st why:Int}{zs:List bX}(eZ:¬K k)(ae:st≠2:=by decide):dS gs K P z P' {eW z k hk st why zs with full:=true}:=by
 refine⟨by show _≤(eW z k hk st why zs).es.length;rw[jW];exact Nat.le_refl _,fun j ab aF=>(jB (z:=z) (hk:=hk) (st:=st) (why:=why) (zs:=zs) ab aF).2,fun j ab aF au=> ?_,fun j ab q=> ?_,fun q=>Bool.noConfusion q,fun q=>Bool.noConfusion q,rfl,rfl⟩;rw[(jB (z:=z) (hk:=hk) (st:=st) (why:=why) (zs:=zs) ab aF).1,if_neg (fun e:k=j=>eZ (e▸au))];have au:j<z.es.length:=by have:j<(eW z k hk st why zs).es.length:=ab;rwa[jW]at this
 rw[(jB (z:=z) (hk:=hk) (st:=st) (why:=why) (zs:=zs) au ab).1]at q;split at q;exact absurd q ae;exact⟨au,q⟩
theorem dS.born{k:Nat}(hk:k<z.es.length){why:Int}{zs:List bX}(eZ:¬K k):dS gs K (fun C=>P C∨C=z.es[k].bP) z P (eW z k hk 1 why zs):=by
 have h:=dS.move (P:=P) (gs:=gs) (why:=why) (zs:=zs) (st:=1) hk eZ (by decide) fun _ _ q=>absurd rfl q;refine⟨h.le,h.bP,h.w8,h.act,h.jn,fun q C cD γ bl=> ?_,rfl,rfl⟩;rcases cD with cD|cD|rfl
 exact h.up q C (.inl cD) γ bl;exact h.up q C (.inr cD) γ bl;have hk2:k<(eW z k hk 1 why zs).es.length:=by rw[jW];exact hk
 obtain⟨dW,fm⟩:=jB hk hk2;rw[if_pos rfl]at dW;exact eT.self (.inl ⟨k,hk2,.inl dW,fm⟩) bl
theorem dS.queue{zs:List bX}:dS gs K P z P {z with ys:=zs}:=⟨Nat.le_refl _,fun _ _ _=>rfl,fun _ _ _ _=>rfl,fun j h q=>⟨h,q⟩,id,fun _ C cD γ bl=>eT.self cD bl,rfl,rfl⟩
end
def fh(f:o2)(a w:Nat)(gs:List aE)(I:aa)(z:fp)(δ:List ay):Prop:=
  ∃A c xs ej lc ei ms q eE,q.kl=f.kl∧q1 q a w z.told z.ys eE∧bd jV I xs z.es∧rY I ms∧cP I f.vg gs∧cP I f.vs gs∧δ=gQ f A c z.es.length xs ej lc z.dc ei z.full z.empty ms eE
theorem fh.mono{f:o2}{a w:Nat}{gs:List aE}{I J:aa}{z:fp}{δ:List ay}(h:fh f a w gs I z δ)(cj:I.le J):fh f a w gs J z δ:=by
 obtain⟨A,c,xs,ej,lc,ei,ms,q,eE,iL,fL,bm,kq,eP,jC,rfl⟩:=h;exact⟨A,c,xs,ej,lc,ei,ms,q,eE,iL,fL,bm.mono cj,kq.mono cj,eP.mono cj,jC.mono cj,rfl⟩
theorem cP.mz{I:aa}{v:Value}{gs:List aE}(h:cP I v gs):∃a n c,v=.slice a n c:=by obtain⟨a,c,e⟩:=h.shape;exact⟨a,_,c,e⟩
def Al(gs:List aE)(inp:List (List ak))(t:Prop)(z:fp):Prop:=Inv gs inp (fun _=>True) z∧(z.full=true∨0≤z.empty)∧(t→0≤z.empty)
section
variable {I:aa} {f:o2} {a w:Nat} {gs:List aE} {z:fp} {δ:List ay} {inp:List (List ak)} {X:Nat→Prop} {k:Nat}
theorem SU{bB r2:Value}{bP:List ak}{fr:List Int}{rule:Int}(hY:fh f a w gs I z δ)(aj:Inv gs inp X z)(aq:cf I bB bP)(a7:bY I r2 fr)(cH:bS gs bP=0)(ao:∀E,iG E→(∀c∈inp,m0 gs E c)→m0 gs E bP):
 j1 Tryz.prog q3 33 [.pointer (some ⟨f.fP,0,none⟩),bB,.int .i64 rule,r2] I δ
 (fun v ai δ'=>v=.int .i64 z.es.length∧fh f a w gs ai (g2 z bP rule fr) δ'∧Inv gs inp X (g2 z bP rule fr)∧bd jV ai [] [])
 (fun ai δ'=>∃z',fh f a w gs ai z' δ'∧Al gs inp False z'∧¬Mh z.es bP rule fr):=by
 obtain⟨A,c,xs,ej,lc,ei,ms,q,eE,iL,aC,bm,kq,eP,jC,rfl⟩:=hY;have hlen:=aj.len;refine(avg bm ah aj.lim eP.mz aq a7).mono ?_ ?_;rintro v ai δ' iq ⟨n,c7,cJ,xs',gp,Co,p1,Cp,rfl,ks,k5,rfl⟩;rcases ks with⟨_,h,_⟩|⟨cn,_,rfl,rfl⟩
 exact absurd rfl h;exact⟨rfl,⟨c7,cJ,xs',Co,p1,Cp,ms,q,eE,iL,aC,k5,kq.mono iq,eP.mono iq,jC.mono iq,rfl⟩,aj.add cn.2.2.2 cH ao,bd.nil⟩;rintro ai δ' iq ⟨n,e,c7,cJ,xs',gp,cu,ks,k5,rfl⟩;rcases ks with⟨ix,_,_,rfl⟩|⟨_,h,_,_⟩
 exact⟨{z with full:=true},⟨c7,cJ,xs',ej,lc,ei,ms,q,eE,iL,aC,k5,kq.mono iq,eP.mono iq,jC.mono iq,rfl⟩,⟨(aj.ct true).mono fun _ _=>trivial,.inl rfl,False.elim⟩,ix⟩;exact absurd h cu
theorem s6{st why:Int}(hY:fh f a w gs I z δ)(aj:Inv gs inp X z)(hk:k<z.es.length)(ez:gs.length≤100000)(hm:Me z.es k hk st why)(oj:st=1→X k)(cu:st=2→z.es[k].bP≠[]):
 aS Tryz.prog 53 [.pointer (some ⟨f.fP,0,none⟩),.int .i64 k,.int .i64 st,.int .i64 why] I δ
 (fun v ai δ'=>∃zs,v=.tuple #[]∧fh f a w gs ai (eW z k hk st why zs) δ'∧Inv gs inp X (eW z k hk st why zs)):=by
 obtain⟨A,c,xs,ej,lc,ei,ms,q,eE,iL,aC,bm,kq,eP,jC,rfl⟩:=hY;have hlen:=aj.len;refine(avj bm ah hk aj.lim eP.mz aC iL jC ez kq aj.st aj.dC).mono ?_;rintro v ai δ' iq ⟨e,xs',gp,Co,p1,Cp,fk,zs,Mk,rfl,Er,k5,avu,a2,H9,rfl⟩;rcases Er with⟨_,_,h⟩|⟨_,b6,hk2,w9,_,rfl⟩
 exact absurd hm (h k hk rfl);have w9:k=b6:=by omega
 subst w9;refine⟨zs,rfl,⟨A,c,xs',Co,p1,Cp,fk,q,Mk,iL,H9,k5,avu,eP.mono iq,jC.mono iq,?_⟩,aj.move hk hm.1 a2 oj cu⟩;simp only[eW,List.length_set]
end
def p4(z:fp)(k:Nat)(P:List ak→Prop)(R:List ak):Prop:=P R∨∃(j:Nat) (h:j<z.es.length),j≠k∧(z.es[j].st=1∨z.es[j].st=2)∧z.es[j].bP=R
def Et(gs:List aE)(rows:List (List ak))(c:List ak):Prop:=∀S:List ak→Prop,(∀R∈rows,S R)→∀γ,dw gs γ→eT gs S (bC (aU gs) γ c)
section
variable {gs:List aE} {inp rows:List (List ak)} {K:Nat→Prop} {P:List ak→Prop} {z:fp} {k:Nat} {R c d:List ak}
theorem p4.live(h:p4 z k P R):r3 z R∨P R:=h.elim .inr fun⟨j,au,_,ab,ae⟩=>.inl ⟨j,au,ab,ae⟩
theorem p4.set{hk:k<z.es.length}{st why:Int}{zs:List bX}(h:p4 z k P R):r3 (eW z k hk st why zs) R∨P R:=h.elim .inr fun⟨j,au,aB,ab,ae⟩=>.inl (by
 have g1:j<(eW z k hk st why zs).es.length:=by rw[jW];exact au
 obtain⟨aQ,aT⟩:=jB au g1;rw[if_neg (fun e=>aB e.symm)]at aQ;exact⟨j,g1,by rw[aQ];exact ab,by rw[aT];exact ae⟩)
theorem p4.add{r:Int}{fr:List Int}(h:p4 z k P R):p4 (g2 z c r fr) k P R:=h.imp id fun⟨j,au,aB,ab,ae⟩=>by
 have g1:j<(g2 z c r fr).es.length:=by rw[o3];omega
 exact⟨j,g1,aB,by rw[s5 au g1];exact ab,by rw[s5 au g1];exact ae⟩
theorem p4.two{r:Int}{fr:List Int}{hk:k<(g2 z c r fr).es.length}{st why:Int}{zs:List bX}(h:p4 z k P R):p4 (eW (g2 z c r fr) k hk st why zs) z.es.length P R:=h.imp id fun⟨j,au,aB,ab,ae⟩=>by
 have Mp:j<(g2 z c r fr).es.length:=by rw[o3];omega
 have g1:j<(eW (g2 z c r fr) k hk st why zs).es.length:=by rw[jW];exact Mp
 obtain⟨aQ,aT⟩:=jB Mp g1;rw[if_neg (fun e=>aB e.symm),s5 au Mp]at aQ;rw[s5 au Mp]at aT;exact⟨j,g1,by omega,by rw[aQ];exact ab,by rw[aT];exact ae⟩
theorem adA{r:Int}{fr:List Int}{hk:k<(g2 z c r fr).es.length}{st why:Int}{zs:List bX}(cu:k≠z.es.length)(aD:z.es.length<(eW (g2 z c r fr) k hk st why zs).es.length):(eW (g2 z c r fr) k hk st why zs).es[z.es.length].st=0∧(eW (g2 z c r fr) k hk st why zs).es[z.es.length].bP=c:=by
 have ab:z.es.length<(g2 z c r fr).es.length:=by rw[o3];omega
 obtain⟨aQ,aT⟩:=jB ab aD;rw[if_neg cu,Es]at aQ;rw[Es]at aT;exact⟨aQ,aT⟩
theorem Mq{s:Int}(h:0≤s∧s≤2):(3:Int)∈Ah s:=by
 unfold Ah;split;decide;split;decide;rw[if_pos ah];decide
theorem avv(h:ll gs rows c d)(k:Et gs rows d):Et gs rows c:=fun S eO γ bl=>h.2.1.DD eO bl (k S eO γ bl)
theorem avw(aH:bS gs d=0)(k:Et gs rows d):Et gs rows (eh d):=fun S eO γ' kj=>by obtain⟨γ,ab,ae⟩:=(BG (gs:=gs) (yj aH)).2 γ' kj;rw[ae];exact k S eO γ ab
theorem adB{gone ho:Int}(h:Cf rows d gone ho)(aM:gone≠0)(aH:bS gs d=0)(an:∀R∈rows,bS gs R=0):Et gs rows d:=fun S eO γ bl=>by
 rcases h with⟨h,_⟩|⟨_,_,h⟩|⟨_,j,au,_,h⟩
 exact absurd h aM;exact fun E bt _=>abB bt (acy h);exact(abA bl (gP (an _ (List.getElem_mem au))) (gP aH) h).mono fun C e=>by rw[e];exact eO _ (List.getElem_mem au)
theorem adC(hk:k<z.es.length){r:Int}{fr:List Int}{hk2:k<(g2 z (eh d) r fr).es.length}{why:Int}{zs:List bX}(bL:∀R∈rows,p4 z k P R)(aH:ll gs rows z.es[k].bP d):
 dS gs (fun j=>j≠k∧j<z.es.length) (fun C=>P C∨C=z.es[k].bP) z (fun C=>P C∨C=eh d) (eW (g2 z (eh d) r fr) k hk2 3 why zs):=by
 refine dS.trans (z':=g2 z (eh d) r fr) (P':=fun C=>P C∨C=z.es[k].bP) dS.add ?_;have H_:∀S:List ak→Prop,(∀R∈rows,S R)→S (eh d)→∀γ,dw gs γ→eT gs S (bC (aU gs) γ z.es[k].bP):=fun S eO aD γ bl=>aH.2.1.DD eO bl (art (yj aH.1) aD bl);refine dS.ask (P':=fun C=>P C∨C=eh d) (dS.move hk2 (fun h=>h.1 rfl) (by decide) fun _ _ _ γ bl=> ?_) fun _ C cD γ bl=> ?_;rw[s5 hk hk2];exact H_ _ (fun R m2=>(((bL R m2).add (c:=eh d) (r:=r) (fr:=fr)).set (hk:=hk2) (st:=3) (why:=why) (zs:=zs)).imp id .inl) (.inr (.inr rfl)) γ bl;rcases cD with cD|rfl
 exact eT.self (.inr (.inl cD)) bl;exact H_ _ (fun R m2=>(((bL R m2).add (c:=eh d) (r:=r) (fr:=fr)).live).imp id .inl) (.inr (.inr rfl)) γ bl
theorem Mr{m:Nat}(hm:m<z.es.length)(eZ:¬K m){st why:Int}{zs:List bX}(ch:st≠2)(H_:Et gs rows z.es[m].bP)(bL:∀R∈rows,p4 z m P R):
    dS gs K (fun C=>P C∨C=z.es[m].bP) z P (eW z m hm st why zs):=
  dS.ask (P':=P) (dS.move hm eZ ch fun _ _ _ γ bl=>H_ _ (fun R h=>(bL R h).set) γ bl) fun _ C cD γ bl=>by
   rcases cD with cD|rfl
   exact eT.self (.inr cD) bl;exact H_ _ (fun R h=>(bL R h).live) γ bl
theorem adD(hk:k<z.es.length){r:Int}{fr:List Int}{hk2:k<(g2 z (eh d) r fr).es.length}{why adE:Int}{zs uF:List bX}{iP:z.es.length<(eW (g2 z (eh d) r fr) k hk2 3 why zs).es.length}{gone ho:Int}(bL:∀R∈rows,p4 z k P R)(aH:ll gs rows z.es[k].bP d)(an:∀R∈rows,bS gs R=0)(aM:Cf rows d gone ho)(aB:gone≠0):
 dS gs (fun j=>j≠k) (fun C=>P C∨C=z.es[k].bP) z P (eW (eW (g2 z (eh d) r fr) k hk2 3 why zs) z.es.length iP 3 adE uF):=by
 obtain⟨qY,Eh⟩:=adA (Nat.ne_of_lt hk) iP;have ab:=adC (P:=P) (r:=r) (fr:=fr) (hk2:=hk2) (why:=why) (zs:=zs) hk bL aH;have ae:=Mr (K:=fun j=>j≠k∧j<z.es.length) (P:=P) (rows:=rows) iP (fun h=>by omega) (st:=3) (why:=adE) (zs:=uF) (by decide) (by rw[Eh];exact avw aH.1 (adB aM aB aH.1 an)) (fun R h=>(bL R h).two);rw[Eh]at ae;exact(ab.trans ae).b7 fun j au h=>⟨h,au⟩
theorem adF(hk:k<z.es.length){why:Int}{zs:List bX}{gone ho:Int}(bL:∀R∈rows,p4 z k P R)(aH:ll gs rows z.es[k].bP d)(an:∀R∈rows,bS gs R=0)(aM:Cf rows d gone ho)(aB:gone≠0):
    dS gs (fun j=>j≠k) (fun C=>P C∨C=z.es[k].bP) z P (eW z k hk 3 why zs):=
  Mr hk (fun h=>h rfl) (by decide) (avv aH (adB aM aB aH.1 an)) bL
end
end Go.Proofs.YtciibkomnoicdaaGreat
