/- Own texts: a small program logic, plain facts, walks through the program's functions. No condition. -/
import Derived.Test.YtciibkomnoicdaaGreatZ5
set_option maxRecDepth 10000
set_option maxHeartbeats 4000000
set_option linter.unusedVariables false
set_option linter.unusedSimpArgs false
set_option linter.unnecessarySimpa false
set_option linter.unusedSectionVars false
namespace Go.Proofs.YtciibkomnoicdaaGreat
open Go Lg Tryz
theorem Lg.aK.V0 {C:Ctx} {Q:Exit→Act→World→Prop} {σ:Env} {ds:List dN} {I:aa} {δ δ':List ay} {ops:Array Oper} {rest:List Oper} {b:Nat} {e:TypeId} {cs:List Value} (aH:aO δ (.box b e cs) δ')
 (h:∀ai,I.le ai→ai b=some (.cells cs.toArray e (0,0))→aK C ops Q rest σ ds ai δ'):aK C ops Q rest σ ds I δ:=by
 intro a w he ao ar;have ab:=ao.perm aH.perm;have t1:=ar.kr aH.perm;obtain⟨s2,t2,hle⟩:=ab.freeze (b:=b) rfl (ab.dQ _ (List.mem_cons_self ..));exact h _ hle (by simp[aa.ins]) a w he s2 (t1.trans t2)
theorem Lg.aK.akw {C:Ctx} {Q:Exit→Act→World→Prop} {σ:Env} {ds:List dN} {I:aa} {δ δ':List ay} {ops:Array Oper} {rest:List Oper} {v:Value} {e:TypeId} {size n:Nat} {xs:List Value} (aH:aO δ (.row v e size n xs) δ') (aD:0<n)
 (h:∀g cap cs,v=.slice (some ⟨g,0,none⟩) n cap→n≤cap→xs.length=n*size→cs.take (n*size)=xs→aK C ops Q rest σ ds I (.box g e cs::δ')):aK C ops Q rest σ ds I δ:=by
 intro a w he ao ar;have ab:=ao.perm aH.perm;have t1:=ar.kr aH.perm;obtain⟨aA,af⟩:w.ownsRow 0 e size v n xs:=ab.dQ _ (List.mem_cons_self ..);rcases af with⟨rfl,rfl⟩|⟨g,cap,cur,rfl,_,bK,lu,_,fl,fb⟩
 omega;have al:eg (.row (.slice (some ⟨g,0,none⟩) n cap) e size n xs::δ')=eg (.box g e cur.toList::δ'):=rfl;refine h g cap cur.toList rfl lu aA fb a w he ⟨ab.gE,fun y aw=> ?_,al▸ab.nodup,al▸ab.apart⟩ ⟨t1.os,t1.tape,t1.output,t1.size,t1.same,t1.gE,t1.yA,al▸t1.vR⟩;rcases List.mem_cons.1 aw with rfl|aw
 simpa[ay.holds]using bK;exact ab.dQ y (List.mem_cons_of_mem _ aw)
theorem Da{cs:List Value}{o:Nat}{x v:Value}(h:cs[o]? =some x):cS cs o [v]=some (cs.set o v):=by
 induction cs generalizing o with
 |nil=>simp at h
 |cons c cs aY=>
  cases o with
  |zero=>cases cs<;>simp[cS]
  |succ o=>simp at h;simp[cS,aY h]
theorem V1{cs:List Value}{o:Nat}{x y u v:Value}(h:cs[o]? =some x)(k:cs[o+1]? =some y):cS cs o [u,v]=some ((cs.set o u).set (o+1) v):=by
 induction cs generalizing o with
 |nil=>simp at h
 |cons c cs aY=>
  cases o with
  |zero=>
   cases cs with
   |nil=>simp at k
   |cons dT cs=>cases cs<;>simp[cS]
  |succ o=>simp at h k;simp[cS,aY h k]
theorem V2{cs:List Value}{o:Nat}{x:Value}(h:cs[o]? =some x):kU false 1 (cs.drop o)=some x:=by
 obtain⟨aA,rfl⟩:=List.getElem?_eq_some_iff.1 h;rw[List.drop_eq_getElem_cons aA];rfl
theorem Oo(t:T)(x:Int)(r:List Int):cO t (x::r)=if h:0≤x∧x.toNat<t.args.length then cO (t.args[x.toNat]'h.2) r else none:=by simp only[cO]
theorem Oq:∀(p q:List Int) (t:T),cO t (p++q)=(cO t p).bind (cO · q)
  | [],q,t=>by simp[cO]
  |x::p,q,t=>by rw[List.cons_append,Oo,Oo];by_cases bK:0≤x∧x.toNat<t.args.length;rw[dif_pos bK,dif_pos bK,Oq p q];rw[dif_neg bK,dif_neg bK];rfl
theorem akx{t:T}{i:Nat}(h:i<t.args.length):cO t [(i:Int)]=some t.args[i]:=by
 simp[cO,h]
theorem V3:∀(q:List Int) (t u w:T) (i:Nat),cO t q=some u→i<u.args.length→j8 t (q++ [(i:Int)]) w=j8 t q (.mk u.head (u.args.set i w))
  | [],t,u,w,i,h,aj=>by simp[cO]at h;subst h;simp[j8]
  |x::q,t,u,w,i,h,aj=>by
   rw[List.cons_append];have et:(cO t (x::q)).isSome=true:=by rw[h];rfl
   obtain⟨j,rfl,au,_⟩:=FE et;simp only[cO,Int.toNat_natCast]at h;rw[dif_pos ⟨by omega,au⟩]at h;simp only[j8,Int.toNat_natCast];have e:t.args.getD j jd=t.args[j]:=by simp[au]
   rw[e,V3 q _ u w i h aj]
def y3(t:T)(q:List Int)(m_ b off:Nat)(cs:List Value)(I:aa):Prop:=
  ∀(J:aa) (w:T) (wd:Option Addr) (kC:Nat),I.le J→J b=some (.cells ((cs.set off (.int .i64 w.head)).set (off+1) (.slice wd w.args.length kC)).toArray 41 (0,0))→ba J (.agg #[.int .i64 w.head,.slice wd w.args.length kC]) w→
    ∃v0 v1,J m_=some (.cells #[v0,v1] 41 (0,0))∧ba J (.agg #[v0,v1]) (j8 t q w)
theorem y3.start{t:T}{b:Nat}{x y:Value}{I:aa}:y3 t [] b b 0 [x,y] I:=
  fun J w wd kC _ al an=>⟨_,_,al,by simpa[j8]using an⟩
theorem cF.set{I:aa}{xs:List Value}{ts:List T}{w:T}{wd:Option Addr}{kC i:Nat}(h:cF I xs ts)(an:ba I (.agg #[.int .i64 w.head,.slice wd w.args.length kC]) w)(aj:i<ts.length):
 cF I ((xs.set (i*2) (.int .i64 w.head)).set (i*2+1) (.slice wd w.args.length kC)) (ts.set i w):=by
 refine⟨by simp[h.1],fun j au=> ?_⟩;have qA:j<ts.length:=by simpa using au
 obtain⟨s,ab,ae,aF⟩:=h.2 j qA;by_cases e:i=j;subst e;have aQ:(ts.set i w)[i]=w:=by simp
 rw[aQ];exact⟨(wd,kC),by rw[List.getElem?_set_ne ah,List.getElem?_set_self (by rw[h.1];omega)],by rw[List.getElem?_set_self (by simp[h.1];omega)],an⟩;have aQ:(ts.set i w)[j]=ts[j]:=by simp[List.getElem_set_ne e]
 rw[aQ];exact⟨s,by rw[List.getElem?_set_ne ah,List.getElem?_set_ne ah];exact ab,by rw[List.getElem?_set_ne ah,List.getElem?_set_ne ah];exact ae,aF⟩
theorem V4{J:aa}{g:Nat}{e:TypeId}{cs:List Value}(h:J g=some (.cells cs.toArray e (0,0)))(n:Nat):Cells J (some ⟨g,0,none⟩) (cs.take n):=fun j v au=>by
 have ks:(⟨g,0,none⟩:Addr).add j=⟨g,j,none⟩:=by rw[add_plain];simp
 simp only[Option.map_some,aa.nw,aa.cell,ks,h];rw[List.getElem?_take]at au;split at au;simpa using au;cases au
theorem y3.step {t u:T} {q:List Int} {m_ b off g n cap i:Nat} {cs Jz xs:List Value} {I J:aa} (h:y3 t q m_ b off cs I) (aA:I.le J) (aW:cO t q=some u) (aD:u.args.length=n)
 (al:J b=some (.cells (cs.set (off+1) (.slice (some ⟨g,0,none⟩) n cap)).toArray 41 (0,0))) (aV:cs[off]? =some (.int .i64 u.head)) (an:dZ u.head) (lu:n≤cap) (aky:n≤4398046511104)
 (fb:Jz.take (n*2)=xs) (bm:cF J xs u.args) (aj:i<n):y3 t (q++ [(i:Int)]) m_ g (i*2) Jz J:=by
 intro K w wd kC hk aM hw;have iO:cs.set off (.int .i64 u.head)=cs:=by obtain⟨av,he⟩:=List.getElem?_eq_some_iff.1 aV;rw[←he,List.set_getElem_self]
 have ep:=V4 aM (n*2);rw[List.take_set,List.take_set,fb]at ep;have k5:=(bm.mono hk).set hw (i:=i) ah;have hlen:(T.mk u.head (u.args.set i w)).args.length=n:=by show(u.args.set i w).length=n;simp[aD]
 obtain⟨v0,v1,ab,ae⟩:=h K (.mk u.head (u.args.set i w)) (some ⟨g,0,none⟩) cap (aa.le_trans aA hk) (by rw[hlen];show K b=some (.cells ((cs.set off (.int .i64 u.head)).set (off+1) _).toArray _ _);rw[iO];exact hk _ _ al) (cF.rep (h:=u.head) (c:=cap) (ts:=u.args.set i w) ep k5 an (by simp[aD];exact lu) (by simp[aD];exact aky));refine⟨v0,v1,ab,?_⟩;rw[V3 q t u w i aW ah];exact ae
section
attribute [local irreducible] aK bf bJ
theorem JA(p:List Int)(t w:T)(I:aa)(v ma V5:Value)(ax:ba I v t)(az:bY I ma p)(hw:ba I V5 w):
 aS Tryz.prog 215 [v,ma,V5] I [] (fun v ai δ'=>akv t p w v ai∧δ'= []):=by
 obtain⟨ad,c,rfl,ib⟩:=ax.shape;obtain⟨wd,kC,rfl,NB⟩:=hw.shape;obtain⟨y1,e,p,C9,Jw,wj,j7⟩:=az;refine a1 func215 ntmps215 fun aG=> ?_;refine go2 ?_;refine bw fun b3=> ?_;refine bw fun b5=> ?_;refine bh fun c1=> ?_;refine bg ?_;refine bN rfl (Of p t I _ _ ax ⟨y1,e,p,C9,Jw,wj,j7⟩) ?_;rintro u0 ox _ nc ⟨⟨ayb,rfl,akz⟩,rfl⟩;obtain⟨ayc,ayd,rfl,_⟩:=akz.shape;refine aR ?_;refine bh fun b8=> ?_;refine aP ?_;by_cases ao:(cO t p).isSome=true;rw[ao];refine br ?_;refine bh fun dk=> ?_;refine fx ?_;refine bJ.view (View.drop (aO.there aO.here)) ?_;refine ek (fun m aL ai δ'=>∃(k:Nat) (b off:Nat) (cs:List Value) (u:T) (A1:Option Addr) (cK:Nat),m=p.length-k∧k≤p.length∧aL= [(5,.pointer (some ⟨b5,0,none⟩)),(6,.pointer (some ⟨c1,0,none⟩)),(10,.pointer (some ⟨dk,0,none⟩)),(11,.pointer (some ⟨b,off,none⟩)),(24,.slice y1 p.length e),(25,.int .i64 p.length),(26,.int .i64 k)]∧ox.le ai∧δ'= [.box b 41 cs,.box c1 41 [.int .i64 0,.slice none 0 0],.box b5 41 [.int .i64 w.head,.slice wd w.args.length kC],.box b3 41 [.int .i64 t.head,.slice ad t.args.length c]]∧cs[off]? =some (.int .i64 u.head)∧cs[off+1]? =some (.slice A1 u.args.length cK)∧ba ai (.agg #[.int .i64 u.head,.slice A1 u.args.length cK]) u∧cO t (p.take k)=some u∧y3 t (p.take k) dk b off cs ai) p.length [(5,.pointer (some ⟨b5,0,none⟩)),(6,.pointer (some ⟨c1,0,none⟩)),(10,.pointer (some ⟨dk,0,none⟩)),(11,.pointer (some ⟨dk,0,none⟩)),(24,.slice y1 p.length e),(25,.int .i64 p.length),(26,.int .i64 (0:Nat))] ⟨0,dk,0,_,t,ad,c,rfl,Nat.zero_le _,rfl,aa.le_refl _,rfl,rfl,rfl,ax.mono nc,rfl,y3.start⟩ ⟨rfl,rfl,rfl,rfl,rfl,rfl,rfl,trivial⟩ ?_;rintro m _ I0 _ ⟨k,b,off,cs,u,A1,cK,rfl,hk,rfl,bO,rfl,V6,y4,hu,y5,hole⟩;obtain⟨_,_,Oc,Jv,tr,bj,C6,C7⟩:=hu.open;refine aZ ?_;refine bF rfl (fun bq=> ?_) (fun bq=> ?_);have av:k<p.length:=by simpa using bq
 have db:=C3 wj k av;have fb:p.take (k+1)=p.take k++ [p[k]]:=List.take_succ_eq_append_getElem av;have IC:(cO u (p.drop k)).isSome=true:=by have ab:=ao;rw[←List.take_append_drop k p,Oq,y5]at ab;exact ab
 rw[List.drop_eq_getElem_cons av]at IC;obtain⟨i,aj,e0,_⟩:=FE IC;obtain⟨akA,akB⟩:=cF.of C6 C7;refine aP ?_;refine aI (cC ((ints_at wj k av).mono (aa.le_trans nc bO))) ?_;refine br ?_;refine aI (p9 I9 rfl Has.here (V2 y4)) ?_;refine bN rfl (FA _ akA (wc _ _) (yY _ _) tr) ?_;rintro v35 A3 _ sq ⟨V7,FF,rfl,rfl⟩;refine go2 ?_;refine MX I9 rfl rfl rfl rfl rfl (bc.there bc.here) (Da y4) ?_;refine aR ?_;refine aK.akw aO.here ah ?_;rintro g cap Jz akC NA akD V8;cases akC;have iO:=List.getElem?_set_self (l:=cs) (i:=off+1) (a:=Value.slice (some ⟨g,0,none⟩) u.args.length FF) (List.getElem?_eq_some_iff.1 y4).1;refine aR ?_;refine aI (p9 I9 rfl (Has.there Has.here) (V2 iO)) ?_;rw[aj];refine aX ?_;refine aI (IB underlying37 oq rfl rfl e0 rfl) ?_;have NX:dh (some ⟨g,0,none⟩) (i*2)=.pointer (some ⟨g,i*2,none⟩):=by simp[dh,add_plain]
 rw[NX];refine a_ ?_;refine aK.V0 (aO.there aO.here) ?_;rintro A4 y6 akE;refine aR ?_;have qm:=Fl u.args bj i e0;rw[←V8,List.getElem?_take_of_lt ah,List.getElem?_take_of_lt ah]at qm;refine cV (p.length-(k+1)) [(5,.pointer (some ⟨b5,0,none⟩)),(6,.pointer (some ⟨c1,0,none⟩)),(10,.pointer (some ⟨dk,0,none⟩)),(11,.pointer (some ⟨g,i*2,none⟩)),(24,.slice y1 p.length e),(25,.int .i64 p.length),(26,.int .i64 ((k+1:Nat):Int))] ah ⟨k+1,g,i*2,Jz,u.args[i],(bj i).1,(bj i).2,rfl,av,rfl,aa.le_trans bO (aa.le_trans sq y6),rfl,qm.1,qm.2,(C7 i e0).mono (aa.le_trans sq y6),?_,?_⟩ ⟨rfl,rfl,rfl,rfl,rfl,rfl,rfl,trivial⟩;rw[fb,aj,Oq,y5];exact akx e0;rw[fb,aj];exact y3.step hole (aa.le_trans sq y6) y5 rfl akE V6 Oc NA tr V8 (akB.mono (aa.le_trans sq y6)) e0;have bV:k=p.length:=by simp at bq;omega
 subst bV;rw[List.take_length]at y5 hole;refine b_ ?_;refine MX fc rfl rfl rfl rfl rfl bc.here (V1 V6 y4) ?_;refine aK.V0 aO.here ?_;rintro nN mf akF;obtain⟨v0,v1,qB,k8⟩:=hole nN w wd kC mf akF (hw.mono (aa.le_trans nc (aa.le_trans bO mf)));obtain⟨oi,ou,af,_⟩:=k8.shape;simp at af;obtain⟨rfl,rfl⟩:=af;refine a8 ?_;refine aI (EM (ad:=some ⟨dk,0,none⟩) (m:=0) fc ((V4 (cs:= [_,_]) qB 2).at 0 fun j v au=>by simpa using au) rfl rfl rfl) ?_;refine a_ ?_;refine bn ?_;exact⟨⟨_,by rw[ao];rfl,by rw[ao];exact k8⟩,rfl⟩;have kt:(cO t p).isSome=false:=by simpa using ao
 rw[kt];refine cT ?_;refine bn ?_;exact⟨⟨_,by rw[kt];rfl,by rw[kt];exact sn _⟩,rfl⟩
end
theorem cF.tC{I:aa}{ad:Option Addr}{n c:Nat}{xs:List Value}{ts:List T}(aD:n=ts.length)(aq:Cells I ad xs)(an:cF I xs ts)(hle:n≤c)(al:n≤4398046511104):ed I (.slice ad n c) ts:=by
 subst aD;exact ba.args (cF.rep (h:=0) aq an (by unfold dZ;omega) hle al)
section
attribute [local irreducible] aK bf bJ
def eB(l:List (Nat×T)):List Int:=l.foldl (fun acc x=>if 0≤-1-x.2.head∧-1-x.2.head∉acc then acc++ [-1-x.2.head]else acc) []
theorem FG(l:List (Nat×T))(x:Nat×T):eB (l++ [x])=if 0≤-1-x.2.head∧-1-x.2.head∉eB l then eB l++ [-1-x.2.head]else eB l:=by simp[eB]
theorem JB(l:List (Nat×T)):(eB l).length≤l.length:=by
 have key:∀(l:List (Nat×T)) (acc:List Int),(l.foldl (fun acc x=>if 0≤-1-x.2.head∧-1-x.2.head∉acc then acc++ [-1-x.2.head]else acc) acc).length≤acc.length+l.length:=fun l=>by
  induction l with
  |nil=>intro acc;simp
  |cons x r aY=>intro acc;rw[List.foldl_cons];split;have:=aY (acc++ [-1-x.2.head]);simp at this⊢;omega;have:=aY acc;simp at this⊢;omega
 have:=key l [];simpa[eB]using this
theorem akG(l:List (Nat×T)):(∀x∈l,dZ x.2.head)→∀n∈eB l,dZ n:=by
 have key:∀(l:List (Nat×T)) (acc:List Int),(∀x∈l,dZ x.2.head)→(∀n∈acc,dZ n)→∀n∈l.foldl (fun acc x=>if 0≤-1-x.2.head∧-1-x.2.head∉acc then acc++ [-1-x.2.head]else acc) acc,dZ n:=fun l=>by
  induction l with
  |nil=>intro acc _ h;simpa using h
  |cons x r aY=>
   intro acc aA h;rw[List.foldl_cons];refine aY _ (fun y aw=>aA y (List.mem_cons_of_mem _ aw)) ?_;split;intro n aD;rcases List.mem_append.1 aD with aD|aD
   exact h n aD;rw[List.mem_singleton]at aD;have:=aA x (List.mem_cons_self ..);unfold dZ at*;omega;exact h
 intro h;exact key l [] h (fun n aD=>by cases aD)
theorem JC{I:aa}{v:Value}{t:T}(ax:ba I v t)(g_:t.size≤1000000000):
 aS Tryz.prog 180 [v] I [] (fun v ai δ'=>bY ai v (eB (dd 1 t))∧δ'= []):=by
 obtain⟨ad,c,rfl,ib⟩:=ax.shape;refine a1 func180 ntmps180 fun aG=> ?_;refine go2 ?_;refine bw fun e2=> ?_;refine a_ ?_;refine bh fun b3=> ?_;refine aZ ?_;refine bN rfl VO ?_;rintro so jt _ jJ ⟨b8,rfl,rfl⟩;refine aR ?_;refine bJ.view ((View.gh 3 1).trans (View.perm (List.perm_append_comm (l₁:= [_]) (l₂:= [_,_,_])))) ?_;refine IN (δb:= [_,_]) (B:=fun l ai δ'=>(∀x∈l,dZ x.2.head)∧∃(cX:Option Addr) (dH:Nat),δ'= [.box b3 45 [.slice cX (eB l).length dH],f_ cX dH (eB l)]) rfl rfl U3 rfl (VQ (ax.mono jJ) g_) (List.Perm.cons _ (List.Perm.cons _ (List.Perm.swap _ _ _))) ⟨by simp,none,0,rfl⟩ (by rintro _ _ _ ⟨_,_,rfl,_⟩;rfl) (by rintro l en dV _ hle h;exact h) ?_ ?_;rintro l r hp pre x post dV _ _ e1 hI af k6 ⟨gw,cX,dH,rfl⟩ ⟨fW,eK,rfl,pA⟩;obtain⟨_,_,fJ,A5⟩:=pA.shape;have dr:=congrArg List.length af;simp only[xA,List.length_append,List.length_cons]at dr;have FH:=JB pre;have y7:∀y∈pre++ [x],dZ y.2.head:=by intro y aw;rcases List.mem_append.1 aw with aw|aw;(exact gw y aw);(rw[List.mem_singleton]at aw;subst aw;exact A5)
 have akH:=A5;unfold dZ at akH;refine aX ?_;refine bh fun b5=> ?_;refine go2 ?_;refine yP e1 (bc.there bc.here) ?_;refine a_ ?_;refine aI (gG rfl rfl rfl ah) ?_;refine aZ ?_;by_cases aB:0≤-1-x.2.head;refine a8 ?_;refine cZ ?_;refine eo rfl (Oe ah) (df.one (aO.there (aO.there (aO.there aO.here)))) ?_;rintro tD sr _ wo ⟨rfl,rfl⟩;by_cases hm:-1-x.2.head∈eB pre;rw[show decide (-1-x.2.head∈eB pre)=true by simpa using hm];refine aP ?_;refine bf.view ((View.drop (aO.there aO.here)).trans (View.perm (List.perm_append_comm (l₁:= [_]) (l₂:= [_,_])))) ?_;refine oc bc.here e1 hI ⟨rfl,_,rfl,y7,cX,dH,?_⟩;rw[FG,if_neg (fun bK=>bK.2 hm)];rfl;rw[show decide (-1-x.2.head∈eB pre)=false by simpa using hm];refine bg ?_;refine c_ fun wq=> ?_;refine gl fun a25 Db=> ?_;refine aR ?_;refine bf.view ((View.drop aO.here).trans ((View.drop (aO.there aO.here)).trans (View.perm (List.perm_append_comm (l₁:= [_]) (l₂:= [_,_]))))) ?_;refine oc bc.here e1 hI ⟨rfl,_,rfl,y7,a25,Db,?_⟩;rw[FG,if_pos ⟨aB,hm⟩];simp[f_,cat,c9];refine bW ?_;refine bf.view (View.drop aO.here) ?_;refine oc bc.here e1 hI ⟨rfl,_,rfl,y7,cX,dH,?_⟩;rw[FG,if_neg (fun bK=>aB bK.1)];rintro gR wi _ tu ⟨gw,cX,dH,rfl⟩;refine a_ ?_;refine aK.dO (aO.there (aO.there (aO.there aO.here))) ?_;rintro rq Oi Oj me mc eV iT ep;cases mc;have FH:=JB (dd 1 t);rw[xA]at FH;refine a8 ?_;refine dv (rs:= [.tmp 2]) rfl (List.Perm.refl _) (.cons (.tmp rfl) .nil) (List.nil_sublist _) ?_;exact⟨bY.of rfl eV ah ep (akG _ gw),rfl⟩
def d_(x:Nat×T):Bool:=(decide (x.2.head<0)&&decide (0<x.2.args.length))||decide (x.2.head< -256)||decide (1023<x.2.head)||decide (8<x.2.args.length)
def c2(t:T):Int:=if 400<t.size then 2 else if 40<pz t then 7 else if(dd 1 t).any d_ then 1 else 0
theorem wu{I:aa}{v:Value}{t:T}(ax:ba I v t)(g_:t.size≤1000000000):
 aS Tryz.prog 112 [v] I [] (fun v ai δ'=>v=.int .i64 (c2 t)∧δ'= []):=by
 obtain⟨ad,c,rfl,ib⟩:=ax.shape;refine a1 func112 ntmps112 fun aG=> ?_;refine go2 ?_;refine bw fun e2=> ?_;refine a_ ?_;refine bh fun b3=> ?_;refine bh fun b4=> ?_;refine bh fun b5=> ?_;refine br ?_;refine bN rfl VO ?_;rintro v9 tB _ lF ⟨hH,rfl,rfl⟩;refine aR ?_;refine IN (δb:= [_,_,_]) (B:=fun l ai δ'=>δ'= [.box b5 4 [.bool (l.any d_)],.box b4 3 [.int .i64 (h5 l)],.box b3 3 [.int .i64 l.length]]) rfl rfl U3 rfl (VQ (ax.mono lF) g_) (List.Perm.refl _) rfl (by rintro _ _ _ ⟨_,_,rfl,_⟩;rfl) (by rintro l en dV _ hle rfl;rfl) ?_ ?_;rintro l r hp pre x post dV _ _ e1 hI af k6 rfl ⟨fW,eK,rfl,pA⟩;have dr:=congrArg List.length af;simp only[xA,List.length_append,List.length_cons]at dr;have hlen:((pre++ [x]).length:Int)=(pre.length:Int)+1:=by simp
 have lG:((h5 (pre++ [x]):Nat):Int)=max ((h5 pre:Nat):Int) (x.1:Int):=by rw[akf];omega
 have iV:(pre++ [x]).any d_=(pre.any d_||d_ x):=by simp
 refine aZ ?_;refine bh fun dp=> ?_;refine go2 ?_;refine yP e1 (bc.there bc.here) ?_;refine go2 ?_;refine eU [0,2,4,6,8,11,13] (two 2 [.box b3 3 [.int .i64 pre.length]] [.box b4 3 [.int .i64 (h5 pre)]]) (xg (List.Sublist.cons _ (List.Sublist.cons _ (List.Sublist.cons _ (List.Sublist.cons _ (List.Sublist.refl _))))) (List.Sublist.cons _ (List.Sublist.cons _ (List.Sublist.cons _ (List.Sublist.cons_cons _ (List.nil_sublist _)))))) ?_;refine a8 ?_;refine dg rfl (IH rfl rfl) ?_;refine aR ?_;refine yL (EV (by kernel_rfl) (aa.le_refl _) (by intro x af;rw[List.mem_singleton]at af;subst af;simp)) ?_;refine aR ?_;refine fU ?_;refine a8 ?_;by_cases hw:pre.any d_=true;rw[hw];refine ajD ?_;refine bf.view (View.drop aO.here) ?_;refine oc bc.here e1 hI ⟨rfl,_,rfl,?_⟩;rw[hlen,lG,iV];refine congrArg (fun q=> [ay.box b5 4 [.bool q],.box b4 3 [.int .i64 (max ((h5 pre:Nat):Int) (x.1:Int))],.box b3 3 [.int .i64 ((pre.length:Int)+1)]]) (?_:_=(pre.any d_||d_ x));clear af lG iV hlen dr ax pA lF k6 e1 hI;rw[show pre.any d_=_ by assumption];simp[d_, *];have th:pre.any d_=false:=by simpa using hw
 rw[th];refine aR ?_;by_cases ab:x.2.head<0;refine a_ ?_;by_cases ae:0<x.2.args.length;refine AT ?_;refine bf.view (View.drop aO.here) ?_;refine oc bc.here e1 hI ⟨rfl,_,rfl,?_⟩;rw[hlen,lG,iV];refine congrArg (fun q=> [ay.box b5 4 [.bool q],.box b4 3 [.int .i64 (max ((h5 pre:Nat):Int) (x.1:Int))],.box b3 3 [.int .i64 ((pre.length:Int)+1)]]) (?_:_=(pre.any d_||d_ x));clear af lG iV hlen dr ax pA lF k6 e1 hI;rw[show pre.any d_=_ by assumption];simp[d_, *];refine aZ ?_;by_cases aF:x.2.head< -256;refine fT ?_;refine bf.view (View.drop aO.here) ?_;refine oc bc.here e1 hI ⟨rfl,_,rfl,?_⟩;rw[hlen,lG,iV];refine congrArg (fun q=> [ay.box b5 4 [.bool q],.box b4 3 [.int .i64 (max ((h5 pre:Nat):Int) (x.1:Int))],.box b3 3 [.int .i64 ((pre.length:Int)+1)]]) (?_:_=(pre.any d_||d_ x));clear af lG iV hlen dr ax pA lF k6 e1 hI;rw[show pre.any d_=_ by assumption];simp[d_, *];refine a_ ?_;by_cases bb:1023<x.2.head;refine bA ?_;refine bf.view (View.drop aO.here) ?_;refine oc bc.here e1 hI ⟨rfl,_,rfl,?_⟩;rw[hlen,lG,iV];refine congrArg (fun q=> [ay.box b5 4 [.bool q],.box b4 3 [.int .i64 (max ((h5 pre:Nat):Int) (x.1:Int))],.box b3 3 [.int .i64 ((pre.length:Int)+1)]]) (?_:_=(pre.any d_||d_ x));clear af lG iV hlen dr ax pA lF k6 e1 hI;rw[show pre.any d_=_ by assumption];simp[d_, *];refine aZ ?_;by_cases eX:8<x.2.args.length;refine a_ ?_;refine bf.view (View.drop aO.here) ?_;refine oc bc.here e1 hI ⟨rfl,_,rfl,?_⟩;rw[hlen,lG,iV];refine congrArg (fun q=> [ay.box b5 4 [.bool q],.box b4 3 [.int .i64 (max ((h5 pre:Nat):Int) (x.1:Int))],.box b3 3 [.int .i64 ((pre.length:Int)+1)]]) (?_:_=(pre.any d_||d_ x));clear af lG iV hlen dr ax pA lF k6 e1 hI;rw[show pre.any d_=_ by assumption];simp[d_, *];refine a_ ?_;refine bf.view (View.drop aO.here) ?_;refine oc bc.here e1 hI ⟨rfl,_,rfl,?_⟩;rw[hlen,lG,iV];refine congrArg (fun q=> [ay.box b5 4 [.bool q],.box b4 3 [.int .i64 (max ((h5 pre:Nat):Int) (x.1:Int))],.box b3 3 [.int .i64 ((pre.length:Int)+1)]]) (?_:_=(pre.any d_||d_ x));clear af lG iV hlen dr ax pA lF k6 e1 hI;rw[show pre.any d_=_ by assumption];simp[d_, *];refine bA ?_;by_cases aF:x.2.head< -256;refine fT ?_;refine bf.view (View.drop aO.here) ?_;refine oc bc.here e1 hI ⟨rfl,_,rfl,?_⟩;rw[hlen,lG,iV];refine congrArg (fun q=> [ay.box b5 4 [.bool q],.box b4 3 [.int .i64 (max ((h5 pre:Nat):Int) (x.1:Int))],.box b3 3 [.int .i64 ((pre.length:Int)+1)]]) (?_:_=(pre.any d_||d_ x));clear af lG iV hlen dr ax pA lF k6 e1 hI;rw[show pre.any d_=_ by assumption];simp[d_, *];refine a_ ?_;by_cases bb:1023<x.2.head;refine bA ?_;refine bf.view (View.drop aO.here) ?_;refine oc bc.here e1 hI ⟨rfl,_,rfl,?_⟩;rw[hlen,lG,iV];refine congrArg (fun q=> [ay.box b5 4 [.bool q],.box b4 3 [.int .i64 (max ((h5 pre:Nat):Int) (x.1:Int))],.box b3 3 [.int .i64 ((pre.length:Int)+1)]]) (?_:_=(pre.any d_||d_ x));clear af lG iV hlen dr ax pA lF k6 e1 hI;rw[show pre.any d_=_ by assumption];simp[d_, *];refine aZ ?_;by_cases eX:8<x.2.args.length;refine a_ ?_;refine bf.view (View.drop aO.here) ?_;refine oc bc.here e1 hI ⟨rfl,_,rfl,?_⟩;rw[hlen,lG,iV];refine congrArg (fun q=> [ay.box b5 4 [.bool q],.box b4 3 [.int .i64 (max ((h5 pre:Nat):Int) (x.1:Int))],.box b3 3 [.int .i64 ((pre.length:Int)+1)]]) (?_:_=(pre.any d_||d_ x));clear af lG iV hlen dr ax pA lF k6 e1 hI;rw[show pre.any d_=_ by assumption];simp[d_, *];refine a_ ?_;refine bf.view (View.drop aO.here) ?_;refine oc bc.here e1 hI ⟨rfl,_,rfl,?_⟩;rw[hlen,lG,iV];refine congrArg (fun q=> [ay.box b5 4 [.bool q],.box b4 3 [.int .i64 (max ((h5 pre:Nat):Int) (x.1:Int))],.box b3 3 [.int .i64 ((pre.length:Int)+1)]]) (?_:_=(pre.any d_||d_ x));clear af lG iV hlen dr ax pA lF k6 e1 hI;rw[show pre.any d_=_ by assumption];simp[d_, *];rintro gR wi _ tu rfl;refine aZ ?_;rw[aki,xA];refine aX ?_;by_cases pe:400<t.size;refine cT ?_;refine dv (rs:= [.tmp 2]) rfl (List.Perm.refl _) (.cons (.tmp rfl) .nil) (List.nil_sublist _) ?_;exact⟨by simp[dF,c2, *],rfl⟩;refine bg ?_;by_cases fL:40<pz t;refine cT ?_;refine dv (rs:= [.tmp 2]) rfl (List.Perm.refl _) (.cons (.tmp rfl) .nil) (List.nil_sublist _) ?_;exact⟨by simp[dF,c2, *],rfl⟩;refine aP ?_;by_cases pB:(dd 1 t).any d_=true;rw[pB];refine cT ?_;refine dv (rs:= [.tmp 2]) rfl (List.Perm.refl _) (.cons (.tmp rfl) .nil) (List.nil_sublist _) ?_;exact⟨by simp[dF,c2, *],rfl⟩;rw[show(dd 1 t).any d_=false by simpa using pB];refine dn ?_;refine dv (rs:= [.tmp 2]) rfl (List.Perm.refl _) (.cons (.tmp rfl) .nil) (List.nil_sublist _) ?_;exact⟨by simp[dF,c2, *],rfl⟩
theorem cF.take{I:aa}{xs:List Value}{ts:List T}{x:T}(h:cF I xs (ts++ [x])):cF I (xs.take (ts.length*2)) ts:=by
 refine⟨by rw[List.length_take,h.1];simp only[List.length_append,List.length_cons,List.length_nil];omega,fun i aj=> ?_⟩;obtain⟨s,ab,ae,aF⟩:=h.2 i (by simp;omega);have e:(ts++ [x])[i]'(by simp;omega)=ts[i]:=List.getElem_append_left aj;rw[e]at ab ae aF;exact⟨s,by rw[List.getElem?_take_of_lt ah];exact ab,by rw[List.getElem?_take_of_lt ah];exact ae,aF⟩
theorem cF.last{I:aa}{xs:List Value}{ts:List T}{x:T}(h:cF I xs (ts++ [x])):
 ∃s:Option Addr×Nat,kU true 2 (xs.drop (ts.length*2))=some (.agg #[.int .i64 x.head,.slice s.1 x.args.length s.2])∧ba I (.agg #[.int .i64 x.head,.slice s.1 x.args.length s.2]) x:=by
 obtain⟨s,ab,ae,aF⟩:=h.2 ts.length (by simp);have e:(ts++ [x])[ts.length]'(by simp)=x:=by simp
 rw[e]at ab ae aF;refine⟨s,?_,aF⟩;obtain⟨pk,aQ⟩:=List.getElem?_eq_some_iff.1 ab;obtain⟨ql,aT⟩:=List.getElem?_eq_some_iff.1 ae;rw[List.drop_eq_getElem_cons pk,List.drop_eq_getElem_cons ql,aQ,aT];rfl
theorem akI{ls rs:List T}{x y:T}(aA:ls.length=rs.length)(af:x.head=y.head)(aD:x.args.length=y.args.length):(ls++ [x]=rs++ [y])↔(ls++x.args=rs++y.args):=by
 constructor;intro h;have:=List.append_inj h aA;obtain⟨ab,ae⟩:=this;simp at ae;rw[ab,ae];intro h;obtain⟨ab,ae⟩:=List.append_inj h aA;obtain⟨a,fm⟩:=x;obtain⟨b,b2⟩:=y;simp only[T.head,T.args]at af ae;rw[ab,af,ae]
theorem u4{I:aa}{v w:Value}{t u:T}(ax:ba I v t)(hw:ba I w u)(JD:t.size≤1000000000)(V9:u.size≤1000000000):
 aS Tryz.prog 77 [v,w] I [] (fun v ai δ'=>v=.bool (decide (t=u))∧δ'= []):=by
 obtain⟨ju,iW,rfl,_⟩:=ax.shape;obtain⟨c3,cK,rfl,_⟩:=hw.shape;refine a1 func77 ntmps77 fun aG=> ?_;refine go2 ?_;refine bw fun b2=> ?_;refine bw fun b3=> ?_;refine aR ?_;refine mG (fun aL ai δ'=>∃cG ie:Nat,aL= [(2,.pointer (some ⟨b2,0,none⟩)),(3,.pointer (some ⟨b3,0,none⟩)),(5,.slice (some ⟨cG,0,none⟩) 1 1),(6,.slice (some ⟨ie,0,none⟩) 1 1)]∧I=ai∧δ'= [.row (.slice (some ⟨cG,0,none⟩) 1 1) 41 2 1 [.int .i64 t.head,.slice ju t.args.length iW],.row (.slice (some ⟨ie,0,none⟩) 1 1) 41 2 1 [.int .i64 u.head,.slice c3 u.args.length cK]]) ?_ ?_;refine tk (.ct 0 (.ct 2 (.two 1 3 (.ct 4 (.cA 3 (.cA 5 .done))) (.cA 1 (.cA 4 (.cA 5 .done)))))) (fun _=> [.box b3 41 [.int .i64 u.head,.slice c3 u.args.length cK],.box b2 41 [.int .i64 t.head,.slice ju t.args.length iW]]) mixed (by kernel_rfl) (by kernel_rfl) (fun _=>(List.Sublist.refl _)) ?_;refine go2 ?_;refine na ?_ ?_;refine c_ fun cG=> ?_;refine aX ?_;refine jY rfl (kY aa.ag (fun _=>(by intro x af;simp only[List.mem_cons,List.not_mem_nil,or_false]at af;rcases af with rfl|rfl<;>simp[c9]))) ?_;refine go2 ?_;refine c_ fun ie=> ?_;refine aX ?_;refine jY rfl (kY aa.ag (fun _=>(by intro x af;simp only[List.mem_cons,List.not_mem_nil,or_false]at af;rcases af with rfl|rfl<;>simp[c9]))) ?_;refine aR ?_;refine dB ?_;refine aX ?_;refine bf.view ((View.perm (List.Perm.swap _ _ _)).trans (View.sub (List.Sublist.cons_cons _ (List.Sublist.cons_cons _ (List.nil_sublist _))))) ?_;exact q6 _ ⟨cG,ie,rfl,rfl,rfl⟩ ⟨rfl,rfl,rfl,rfl,trivial⟩;refine c_ fun ie=> ?_;refine aX ?_;refine jY rfl (kY aa.ag (fun _=>(by intro x af;simp only[List.mem_cons,List.not_mem_nil,or_false]at af;rcases af with rfl|rfl<;>simp[c9]))) ?_;refine aX ?_;refine c_ fun cG=> ?_;refine aX ?_;refine dB ?_;refine aR ?_;refine dB ?_;refine aR ?_;refine dB ?_;refine aX ?_;refine bf.view (View.sub (List.Sublist.cons_cons _ (List.Sublist.cons_cons _ (List.nil_sublist _)))) ?_;exact q6 _ ⟨cG,ie,rfl,rfl,rfl⟩ ⟨rfl,rfl,rfl,rfl,trivial⟩;rintro _ _ _ ⟨cG,ie,rfl,rfl,rfl⟩;refine go2 ?_;refine ek (fun m aL ai δ'=>∃(ls rs:List T) (la ra:Option Addr) (lc rc:Nat) (xs ys:List Value),m=bG ls∧ls.length=rs.length∧aL= [(5,.slice la ls.length lc),(6,.slice ra ls.length rc)]∧I.le ai∧δ'= [.row (.slice la ls.length lc) 41 2 ls.length xs,.row (.slice ra ls.length rc) 41 2 ls.length ys]∧cF ai xs ls∧cF ai ys rs∧bG ls≤t.size∧(t=u↔ls=rs)) (bG [t]) [(5,.slice (some ⟨cG,0,none⟩) 1 1),(6,.slice (some ⟨ie,0,none⟩) 1 1)] ⟨[t],[u],_,_,_,_,_,_,rfl,rfl,rfl,aa.le_refl _,rfl,cF.one ax,cF.one hw,by simp[bG],by simp⟩ ⟨rfl,rfl,trivial⟩ ?_;rintro m _ I0 _ ⟨ls,rs,la,ra,lc,rc,xs,ys,rfl,iT,rfl,bO,rfl,ht,vY,bD,nd⟩;refine bg ?_;refine bF rfl (fun aV=> ?_) (fun aV=> ?_);rcases List.eq_nil_or_concat ls with rfl|⟨dI,x,rfl⟩
 simp at aV;rcases List.eq_nil_or_concat rs with rfl|⟨lH,y,rfl⟩
 simp at iT;rw[List.concat_eq_append]at*;rw[List.concat_eq_append]at*;have hlen:(dI++ [x]).length=dI.length+1:=by simp
 have kD:dI.length=lH.length:=by simpa using iT
 rw[hlen];obtain⟨⟨fW,eK⟩,y8,e9⟩:=ht.last;obtain⟨⟨e3,ff⟩,u5,dJ⟩:=vY.last;rw[←kD]at u5;have xD:=ht.take;have tE:=vY.take;rw[←kD]at tE;dsimp only at y8 u5 e9 dJ;have V_:=xv dI;have Wa:=xv x.args;have FI:x.size=1+bG x.args:=by cases x;simp[T.size,T.args]
 have j9:=ot dI [x];have JE:=ot dI x.args;simp only[bG,Nat.add_zero]at j9;refine a_ ?_;refine aK.gK Has.here ah (fun bo eR=> ?_);refine aK.gK (Has.there Has.here) ah (fun eJ eV=> ?_);refine go2 ?_;refine aI (gG rfl rfl rfl ah) ?_;rw[show((dI.length+1:Nat):Int)-1=(dI.length:Nat)by omega];refine aR ?_;refine mG (fun aL ai δ'=>∃b8 hH:Nat,aL= [(5,.slice la (dI.length+1) lc),(6,.slice ra (dI.length+1) rc),(7,.int .i64 (dI.length:Nat)),(8,.pointer (some ⟨b8,0,none⟩)),(9,.pointer (some ⟨hH,0,none⟩))]∧I0=ai∧δ'= [.box b8 41 [.int .i64 x.head,.slice fW x.args.length eK],.box hH 41 [.int .i64 y.head,.slice e3 y.args.length ff],.row (.slice la (dI.length+1) lc) 41 2 (dI.length+1) xs,.row (.slice ra (dI.length+1) rc) 41 2 (dI.length+1) ys]) ?_ ?_;refine tk (.ct 0 (.ct 1 (.ct 2 (.ct 3 (.ct 4 (.ct 5 (.ct 6 (.ct 7 (.two 8 9 (.cA 9 (.cA 10 (.cA 11 .done))) (.cA 8 (.cA 10 (.cA 11 .done)))))))))))) (fun _=>_) mixed (by kernel_rfl) (by kernel_rfl) (fun _=>(List.Sublist.refl _)) ?_;refine aR ?_;refine dg rfl (gH fc rfl Has.here bo y8) ?_;refine aR ?_;refine dg rfl (gH fc rfl (Has.there Has.here) eJ u5) ?_;refine na ?_ ?_;refine bh fun b8=> ?_;refine aR ?_;refine bh fun hH=> ?_;refine br ?_;refine fU ?_;refine aX ?_;refine bf.view (View.perm (List.Perm.swap _ _ _)) ?_;exact q6 _ ⟨b8,hH,rfl,rfl,rfl⟩ ⟨rfl,rfl,rfl,rfl,rfl,trivial⟩;refine bh fun hH=> ?_;refine aR ?_;refine bh fun b8=> ?_;refine br ?_;refine fU ?_;refine aX ?_;exact q6 _ ⟨b8,hH,rfl,rfl,rfl⟩ ⟨rfl,rfl,rfl,rfl,rfl,trivial⟩;rintro _ _ _ ⟨b8,hH,rfl,rfl,rfl⟩;refine aX ?_;refine g5 [0,2,4,6,8,10,13,15] ?_;refine go2 ?_;refine dg rfl (m7 underlying37 oq rfl rfl ah) ?_;refine go2 ?_;refine dg rfl (m7 underlying37 oq rfl rfl ah) ?_;refine aP ?_;refine dB ?_;refine a_ ?_;refine aK.view ((View.short _ (bc.there (bc.there bc.here)) (Nat.le_succ _)).trans (View.short _ (bc.there (bc.there (bc.there bc.here))) (Nat.le_succ _))) ?_;refine a8 ?_;by_cases bK:x.head≠y.head;refine xq ?_;refine bn ?_;exact⟨Ve fun e=>bK (by have:=nd.1 e;have:=(List.append_inj this kD).2;simp at this;rw[this]),rfl⟩;refine bg ?_;by_cases aD:x.args.length≠y.args.length;refine fT ?_;refine bn ?_;exact⟨Ve fun e=>aD (by have:=nd.1 e;have:=(List.append_inj this kD).2;simp at this;rw[this]),rfl⟩;refine aP ?_;refine eU [0,2,4,8,10,12,7,15,17,19] (fun _=> [.box b8 41 [.int .i64 x.head,.slice fW x.args.length eK],.box hH 41 [.int .i64 y.head,.slice e3 y.args.length ff]]) (fun _=>(List.Sublist.cons_cons _ (List.Sublist.cons_cons _ (List.nil_sublist _)))) ?_;refine aP ?_;obtain⟨_,_,_,_,Wb,Wc,FJ,FK⟩:=e9.open;obtain⟨_,_,_,_,Wd,We,FL,FM⟩:=dJ.open;obtain⟨y9,FN⟩:=cF.of FJ FK;obtain⟨mg,FO⟩:=cF.of FL FM
 have FP:x.head=y.head:=by omega
 have mN:x.args.length=y.args.length:=by omega
 refine mL rfl rfl (Src.m8 y9) (wc _ _) (yY _ _) (fun JF JG=> ?_);refine aR ?_;refine mL rfl rfl (Src.m8 mg) (wc _ _) (yY _ _) (fun Wf Wg=> ?_);refine br ?_;refine dB ?_;refine go2 ?_;refine bf.view ((View.drop aO.here).trans (View.drop aO.here)) ?_;rw[←mN];have fi:dI.length+x.args.length=(dI++x.args).length:=by simp
 rw[fi];refine cV (bG (dI++x.args)) [(5,.slice JF (dI++x.args).length JG),(6,.slice Wf (dI++x.args).length Wg)] ah ⟨dI++x.args,lH++y.args,JF,Wf,JG,Wg,_,_,rfl,by simp;omega,rfl,bO,rfl,xD.app FN,tE.app FO,by omega,nd.trans (akI kD FP mN)⟩ ⟨rfl,rfl,trivial⟩;have iB:ls= []:=by simpa using aV
 subst iB;have e1:rs= []:=List.eq_nil_of_length_eq_zero (by simpa using iT.symm);refine bA ?_;refine bn ?_;exact⟨ajK (nd.2 e1.symm),rfl⟩
end
def Ot(Q:Exit→Act→World→Prop):Exit→Act→World→Prop
  |.goto _,_,_=>False
  |e,a,w=>Q e a w
theorem Dc{P:Program}{b:Frame}{a:Act}{k:List Item}{cs:List Frame}{w:World}{c:Code}:step P (lone (b.atR a (.code (.scope c)::k)) cs w)=.next (lone (b.atR a (.code c:: .inScope c::k)) cs w):=
  step_lone_go (by simp[stepG,stepG.exec,Frame.atR])
theorem akJ{P:Program}{b:Frame}{a:Act}{k:List Item}{cs:List Frame}{w:World}{c:Code}:step P (lone (b.atR a (.inScope c::k)) cs w)=.next (lone (b.atR a k) cs w):=
  step_lone_go (by simp[stepG,stepG.exec,Frame.atR])
theorem akK{F:Fence}{n:Nat}{P:Program}{c:Code}{Q:Exit→Act→World→Prop}{a:Act}{w:World}(h:c.wpIn F n P (Ot Q) a w):(Code.scope c).wpIn F n P Q a w:=by
 intro b k cs CW al an;have aB:(lone (b.atR a (.code (.scope c)::k)) cs w).fenced P F:=fenced_calm al an rfl;obtain⟨e,re,rf,aC,qi⟩:=h b (.inScope c::k) cs CW al an
 cases e with
 |normal=>exact⟨.normal,re,rf,aC,.head aB Dc (StepsIn.trans qi (.one (fenced_calm al an rfl) akJ))⟩
 |exit id=>
   have af:exitTo id (.inScope c::k)=exitTo id k:=by simp[exitTo]
   exact⟨.exit id,re,rf,aC,fun cB hk=>.head aB Dc (qi.1 cB (by rw[af];exact hk)),
     fun lI hk=>let⟨k₁,ab,ae⟩:=qi.2 lI (by rw[af];exact hk);⟨k₁,ab,.head aB Dc ae⟩⟩
 |goto l=>exact aC.elim
 |ret=>exact⟨_,re,rf,aC,.of_steps (.one aB Dc) qi⟩
 |panic h3=>exact⟨_,re,rf,aC,.of_steps (.one aB Dc) qi⟩
 |outgrown=>exact⟨_,re,rf,aC,.of_steps (.one aB Dc) qi⟩
theorem Lg.Wh{C:Ctx}{Q:Exit→Act→World→Prop}{σ:Env}{ds:List dN}{I:aa}{δ:List ay}{c:Code}(h:bJ C c (Ot Q) σ ds I δ):bJ C (.scope c) Q σ ds I δ:=
  fun a w he ao ar=>akK (h a w he ao ar)
theorem Lg.JH{C:Ctx}{Q:Exit→Act→World→Prop}{σ:Env}{ds:List dN}{I:aa}{δ:List ay}{e:Exit}(cu:∀l,e≠ .goto l)(h:bf C Q e σ ds I δ):bf C (Ot Q) e σ ds I δ:=by
 intro a w he ao ar
 cases e with
 |goto l=>exact absurd rfl (cu l)
 |normal=>exact h a w he ao ar
 |exit id=>exact h a w he ao ar
 |ret=>exact h a w he ao ar
 |panic h3=>exact h a w he ao ar
 |outgrown=>exact h a w he ao ar
theorem wv(t:T):t.size=1+bG t.args:=by cases t;simp[T.size,T.args]
section
attribute [local irreducible] aK bf bJ
def qC(p:aE→Bool):List aE→Int
  | []=> -1
  |s::r=>if p s then 0 else if qC p r<0 then-1 else qC p r+1
theorem Wi(p:aE→Bool):∀gs:List aE,-1≤qC p gs∧qC p gs<gs.length
  | []=>by simp[qC]
  |s::r=>by have:=Wi p r;simp only[qC,List.length_cons];split<;>(try split)<;>omega
theorem Wj(p:aE→Bool):∀gs:List aE,gs.any p=false→qC p gs= -1
  | [],_=>rfl
  |s::r,h=>by simp only[List.any_cons,Bool.or_eq_false_iff]at h;simp[qC,h.1,Wj p r h.2]
theorem Wk(p:aE→Bool):∀(gs:List aE) (k:Nat) (h:k<gs.length),(gs.take k).any p=false→p gs[k]=true→qC p gs=k
  |s::r,0,_,_,hk=>by simp at hk;simp[qC,hk]
  |s::r,k+1,h,az,hk=>by simp only[List.take_succ_cons,List.any_cons,Bool.or_eq_false_iff]at az;have:=Wk p r k (by simpa using h) az.2 (by simpa using hk);simp only[qC,az.1,Bool.false_eq_true,if_false,this];rw[if_neg ah];omega
theorem Wl(p:aE→Bool):∀gs:List aE,0≤qC p gs↔gs.any p=true
  | []=>by simp[qC]
  |s::r=>by have ab:=Wl p r;have ae:=Wi p r;simp only[qC,List.any_cons,Bool.or_eq_true,←ab];by_cases h:p s=true;simp[h];simp only[h,Bool.false_eq_true,if_false,false_or];split<;>omega
theorem akL{p:aE→Bool}{gs:List aE}{k:Nat}(h:k<gs.length)(az:(gs.take k).any p=false)(hk:p gs[k]=false):(gs.take (k+1)).any p=false:=by
 rw[List.take_succ_eq_append_getElem h,List.any_append,az];simp[hk]
theorem akM{I:aa}{v b1:Value}{gs:List aE}{δf:List ay}{p:aE→Bool}(ax:cP I v gs)(a7:∀J s,I.le J→cR Tryz.prog b1 [s.v] J δf (fun v _ δ'=>v=.bool (p s)∧δ'=δf)):
 aS Tryz.prog 39 [v,b1] I δf (fun v _ δ'=>v=.int .i64 (qC p gs)∧δ'=δf):=by
 obtain⟨ad,c,rfl⟩:=ax.shape;obtain⟨_,aq,al,aW,cn⟩:=ax.open;refine a1 func39 ntmps39 fun aG=> ?_;refine dn ?_;refine ek (fun m aL ai δ'=>∃k:Nat,m=gs.length-k∧k≤gs.length∧aL= [(0,.slice ad gs.length c),(1,b1),(7,.int .i64 gs.length),(8,.int .i64 k)]∧I.le ai∧δ'=δf∧(gs.take k).any p=false) gs.length [(0,.slice ad gs.length c),(1,b1),(7,.int .i64 gs.length),(8,.int .i64 (0:Nat))] ⟨0,rfl,Nat.zero_le _,rfl,aa.le_refl _,rfl,rfl⟩ ⟨rfl,rfl,rfl,rfl,trivial⟩ ?_;rintro m _ I0 _ ⟨k,rfl,hk,rfl,bO,rfl,az⟩;refine aZ ?_;refine bF rfl (fun aV=> ?_) (fun aV=> ?_);have av:k<gs.length:=by simpa using aV
 have db:=(aW k av).isSome;refine fT ?_;refine aI (cC ((aW k av).mono bO)) ?_;refine e8 rfl rfl rfl ((a7 _ gs[k] bO)) df.all ?_;rintro mO jK _ jf ⟨rfl,rfl⟩;rw[List.append_nil];refine go2 ?_;refine bF rfl (fun bq=> ?_) (fun bq=> ?_);refine bW ?_;refine dY ?_;exact⟨by rw[Wk p gs k av az bq];rfl,rfl⟩;refine aP ?_;refine cV (gs.length-(k+1)) [(0,.slice ad gs.length c),(1,b1),(7,.int .i64 gs.length),(8,.int .i64 (k+1:Nat))] ah ⟨k+1,rfl,av,rfl,aa.le_trans bO jf,rfl,akL av az bq⟩ ⟨rfl,rfl,rfl,rfl,trivial⟩;have bV:k=gs.length:=by simp at aV;omega
 subst bV;rw[List.take_length]at az;refine bA ?_;refine dY ?_;exact⟨by rw[Wj p gs az];rfl,rfl⟩
theorem akN{I:aa}{v b1:Value}{gs:List aE}{δf:List ay}{p:aE→Bool}(ax:cP I v gs)(a7:∀J s,I.le J→cR Tryz.prog b1 [s.v] J δf (fun v _ δ'=>v=.bool (p s)∧δ'=δf)):
 aS Tryz.prog 20 [v,b1] I δf (fun v _ δ'=>v=.bool (gs.any p)∧δ'=δf):=by
 refine a1 func20 ntmps20 fun aG=> ?_;refine br ?_;refine hr rfl (akM ax a7) ?_;rintro mM je _ kA ⟨rfl,rfl⟩;rw[List.append_nil];refine a_ ?_;refine dY ?_;exact⟨xu (by have:=Wl p gs;cases h:gs.any p<;>simp_all),rfl⟩
theorem akO{I:aa}{b:Nat}{x s:aE}:
 aS Tryz.prog 21 [s.v,.pointer (some ⟨b,0,none⟩)] I [.box b 66 x.cs] (fun v _ δ'=>v=.bool (xz s.name x.name)∧δ'= [.box b 66 x.cs]):=by
 refine a1 func21 ntmps21 fun aG=> ?_;refine go2 ?_;refine bw fun b2=> ?_;refine br ?_;refine aI (MV rfl rfl rfl) ?_;refine a8 ?_;refine dv (rs:= [.tmp 3]) rfl (List.Perm.refl _) (.cons (.tmp rfl) .nil) (List.sublist_cons_self _ _) ?_;exact⟨rfl,rfl⟩
def A6(gs:List aE):Bool:=decide (gs.length≤300)&&gs.all fun s=>decide (s.name.size≤100)
theorem Wm{I:aa}{v:Value}{gs:List aE}(ax:cP I v gs):
 aS Tryz.prog 9 [v] I [] (fun v _ δ'=>v=.bool (A6 gs)∧δ'= []):=by
 obtain⟨ad,c,rfl⟩:=ax.shape;obtain⟨_,aq,al,aW,cn⟩:=ax.open;refine a1 func9 ntmps9 fun aG=> ?_;refine bW ?_;refine ek (fun m aL ai δ'=>∃k:Nat,m=gs.length-k∧k≤gs.length∧aL= [(0,.slice ad gs.length c),(3,.int .i64 k)]∧ai=I∧δ'= []∧(gs.take k).all (fun s=>decide (s.name.size≤100))=true) gs.length [(0,.slice ad gs.length c),(3,.int .i64 (0:Nat))] ⟨0,rfl,Nat.zero_le _,rfl,rfl,rfl,rfl⟩ ⟨rfl,rfl,trivial⟩ ?_;rintro m _ _ _ ⟨k,rfl,hk,rfl,rfl,rfl,az⟩;refine aZ ?_;by_cases iC:k<gs.length;have db:=(aW k iC).isSome;refine a8 ?_;by_cases oA:gs.length≤300;refine gk ?_;refine aI (cC (aW k iC)) ?_;refine aI (TN underlying9 rfl) ?_;refine aR ?_;refine bF rfl (fun bq=> ?_) (fun bq=> ?_);have xE:100<gs[k].name.size:=by have h:=bq;simp at h;omega
 refine bA ?_;refine bn ?_;exact⟨xu (by symm;rw[A6,Bool.and_eq_false_iff];right;rw[List.all_eq_false];exact⟨gs[k],List.getElem_mem _,by simp;omega⟩),rfl⟩;have xE:¬100<gs[k].name.size:=by have h:=bq;simp at h;omega
 refine bg ?_;refine cV (gs.length-(k+1)) [(0,.slice ad gs.length c),(3,.int .i64 (k+1:Nat))] ah ⟨k+1,rfl,iC,rfl,rfl,rfl,?_⟩ ⟨rfl,rfl,trivial⟩;rw[List.take_succ_eq_append_getElem iC,List.all_append,az];simp;omega;refine ic ?_;refine bn ?_;exact⟨xu (by simp[A6,oA]),rfl⟩;refine iR ?_;by_cases mP:gs.length≤300;refine a_ ?_;refine bn ?_;have bV:k=gs.length:=by omega
 rw[bV,List.take_length]at az;exact⟨xu (by simp only[A6,az];simp[mP]),rfl⟩;refine a_ ?_;refine bn ?_;exact⟨xu (by simp[A6,mP]),rfl⟩
def pC:aE:=⟨⟨#[36,116,114,117,101]⟩,0,1,true⟩
def oB(pre:List aE)(x:aE):Bool:=xz x.name ⟨#[]⟩||(decide (64<x.name.size)||((pre.any fun s=>xz s.name x.name)||(decide (x.cX<0)||(decide (8<x.cX)||(decide (x.wt<1)||decide (1000<x.wt))))))
def FQ:List aE→List aE→Bool
  |_,[]=>true
  |pre,x::r=> !oB pre x&&FQ (pre++ [x]) r
def mh(gs:List aE):Bool:=match gs with
  | []=>false
  |x::r=>decide ((x::r).length≤256)&&(qs x pC&&FQ [] (x::r))
def j_(gs:List aE):Int:=if mh gs=true then 0 else 1
theorem Ou:∀(pre gs:List aE),FQ pre gs=true↔∀i (h:i<gs.length),oB (pre++gs.take i) gs[i]=false
  |pre,[]=>by simp[FQ]
  |pre,x::r=>by
   simp only[FQ,Bool.and_eq_true,Bool.not_eq_true',Ou (pre++ [x]) r];constructor;rintro⟨ab,ae⟩ i aj
   cases i with
   |zero=>simpa using ab
   |succ i=>have:=ae i (by simpa using aj);simpa using this
   intro h;have aB:oB pre x=false:=by have:=h 0 (by simp);simp only[List.take_zero,List.append_nil,List.getElem_cons_zero]at this;exact this
   refine⟨aB,fun i aj=> ?_⟩;have:=h (i+1) (by simpa using aj);simpa using this
theorem Dd{gs:List aE}(h:mh gs=true):1≤gs.length∧gs.length≤256:=by
 cases gs with
 |nil=>simp[mh]at h
 |cons x r=>simp only[mh,Bool.and_eq_true,decide_eq_true_eq]at h;exact⟨by simp,h.1⟩
theorem Wn{gs:List aE}(h:mh gs=true)(i:Nat)(aj:i<gs.length):oB (gs.take i) gs[i]=false:=by
 cases gs with
 |nil=>simp at aj
 |cons x r=>simp only[mh,Bool.and_eq_true]at h;have:=(Ou [] (x::r)).1 h.2.2 i aj;simpa using this
theorem akP{gs:List aE}(aB:0<gs.length)(ab:gs.length≤256)(ae:qs (gs[0]'aB) pC=true)(aF:∀i (h:i<gs.length),oB (gs.take i) gs[i]=false):mh gs=true:=by
 cases gs with
 |nil=>simp at aB
 |cons x r=>simp only[mh,Bool.and_eq_true,decide_eq_true_eq];exact⟨ab,by simpa using ae,(Ou [] (x::r)).2 (fun i aj=>by simpa using aF i aj)⟩
theorem A7{gs:List aE}(i:Nat)(aj:i<gs.length)(h:oB (gs.take i) gs[i]=true):j_ gs=1:=by
 unfold j_;rw[if_neg];intro an;rw[Wn an i aj]at h;cases h
theorem akQ{gs:List aE}(aB:0<gs.length)(h:¬qs (gs[0]'aB) pC=true):j_ gs=1:=by
 unfold j_;rw[if_neg];intro an
 cases gs with
 |nil=>simp at aB
 |cons x r=>simp only[mh,Bool.and_eq_true]at an;exact h (by simpa using an.2.1)
theorem Wo{gs:List aE}(h:gs.length<1∨256<gs.length):j_ gs=1:=by
 unfold j_;rw[if_neg];intro an;have:=Dd an;omega
theorem akR{gs:List aE}(aB:0<gs.length)(ab:gs.length≤256)(ae:qs (gs[0]'aB) pC=true)(aF:∀i (h:i<gs.length),oB (gs.take i) gs[i]=false):j_ gs=0:=by
 unfold j_;rw[if_pos (akP aB ab ae aF)]
theorem JI{I:aa}{v:Value}{gs:List aE}(ax:cP I v gs):
 aS Tryz.prog 10 [v] I [] (fun v _ δ'=>v=.int .i64 (j_ gs)∧δ'= []):=by
 obtain⟨ad,c,rfl⟩:=ax.shape;obtain⟨_,aq,al,aW,cn⟩:=ax.open;refine a1 func10 ntmps10 fun aG=> ?_;refine b_ ?_;by_cases nf:gs.length<1;refine xp ?_;refine bn ?_;exact⟨by rw[Wo (.inl nf)];rfl,rfl⟩;refine a8 ?_;by_cases hT:256<gs.length;refine ic ?_;refine bn ?_;exact⟨by rw[Wo (.inr hT)];rfl,rfl⟩;refine a8 ?_;have aB:0<gs.length:=by omega
 have uW:ad.isSome=true:=(aW 0 aB).isSome;refine aX ?_;refine cZ ?_;refine aI (EM (m:=0) UL (by have:=aW 0 aB;simpa using this) rfl rfl rfl) ?_;refine aX ?_;by_cases kE:qs (gs[0]'aB) pC=true;refine cZ ?_;refine aI (VF (a:=gs[0]'aB) (b:=pC) (z:=false) N9 rfl rfl (by simp[Fw,kE])) ?_;refine gk ?_;refine ek (fun m aL ai δ'=>∃k:Nat,m=gs.length-k∧k≤gs.length∧aL= [(0,.slice ad gs.length c),(21,.slice ad gs.length c),(22,.int .i64 gs.length),(23,.int .i64 k)]∧I.le ai∧δ'= []∧∀i (h:i<gs.length),i<k→oB (gs.take i) gs[i]=false) gs.length [(0,.slice ad gs.length c),(21,.slice ad gs.length c),(22,.int .i64 gs.length),(23,.int .i64 (0:Nat))] ⟨0,rfl,Nat.zero_le _,rfl,aa.le_refl _,rfl,fun i _ h=>by omega⟩ ⟨rfl,rfl,rfl,rfl,trivial⟩ ?_;rintro m _ I0 _ ⟨k,rfl,hk,rfl,bO,rfl,az⟩;refine aZ ?_;refine bF rfl (fun bq=> ?_) (fun bq=> ?_);have av:k<gs.length:=by simpa using bq
 have db:=(aW k av).isSome;refine bg ?_;refine aI (cC ((aW k av).mono bO)) ?_;refine bh fun b4=> ?_;refine bg ?_;refine aI (m7 underlying22 wa rfl rfl ah) ?_;refine aX ?_;refine hr rfl (akN (δf:= [.box b4 66 gs[k].cs]) ((cP.take ax (Nat.le_of_lt av)).mono bO) (fun J s _=>cR.fq (caps:= [_]) aiY akO)) ?_;rintro v32 rr _ ss ⟨rfl,rfl⟩;refine aP ?_;by_cases JJ:xz gs[k].name ⟨#[]⟩=true;refine aI (MV (z:=true) rfl rfl (by simpa[Iz,xz]using JJ)) ?_;refine ajH ?_;refine bn ?_;exact⟨by rw[A7 k av (by unfold oB;rw[JJ];rfl)];rfl,rfl⟩;refine aI (MV (z:=false) rfl rfl (by simpa[Iz,xz]using JJ)) ?_;refine aR ?_;refine cZ ?_;refine aI (TN underlying9 rfl) ?_;by_cases su:64<gs[k].name.size;refine Vc ?_;refine bn ?_;exact⟨by rw[A7 k av (by simp[oB,su])];rfl,rfl⟩;refine aR ?_;by_cases ng:((gs.take k).any fun s=>xz s.name gs[k].name)=true;rw[ng];refine Va ?_;refine bn ?_;exact⟨by rw[A7 k av (by unfold oB;rw[ng];simp)];rfl,rfl⟩;have Wp:((gs.take k).any fun s=>xz s.name gs[k].name)=false:=by simpa using ng
 rw[Wp];refine a_ ?_;by_cases JK:gs[k].cX<0;refine ajE ?_;refine bn ?_;exact⟨by rw[A7 k av (by simp[oB,JK])];rfl,rfl⟩;refine a_ ?_;by_cases JL:8<gs[k].cX;refine NO ?_;refine bn ?_;exact⟨by rw[A7 k av (by simp[oB,JL])];rfl,rfl⟩;refine a_ ?_;by_cases Ov:gs[k].wt<1;refine xo ?_;refine bn ?_;exact⟨by rw[A7 k av (by simp[oB,Ov])];rfl,rfl⟩;refine a_ ?_;by_cases Wq:1000<gs[k].wt;refine fT ?_;refine bn ?_;exact⟨by rw[A7 k av (by simp[oB,Wq])];rfl,rfl⟩;refine bW ?_;refine bf.view View.nil ?_;refine cV (gs.length-(k+1)) [(0,.slice ad gs.length c),(21,.slice ad gs.length c),(22,.int .i64 gs.length),(23,.int .i64 (k+1:Nat))] ah ⟨k+1,rfl,av,rfl,aa.ag,rfl,?_⟩ ⟨rfl,rfl,rfl,rfl,trivial⟩;intro i h aj;rcases Nat.lt_or_ge i k with oC|oC
 exact az i h oC;have Ow:i=k:=by omega
 subst Ow;have akS:xz gs[i].name ⟨#[]⟩=false:=by simpa using JJ
 unfold oB;rw[akS,Wp];simp;omega;have bV:k=gs.length:=by simp at bq;omega
 refine bA ?_;refine bn ?_;exact⟨by rw[akR aB ah kE (fun i h=>az i h ah)];rfl,rfl⟩;refine cZ ?_;refine aI (VF (a:=gs[0]'aB) (b:=pC) (z:=true) N9 rfl rfl (by simp[Fw,kE])) ?_;refine bA ?_;refine bn ?_;exact⟨by rw[akQ aB kE];rfl,rfl⟩
theorem cR.A8{P:Program}{f:FuncId}{firsts args:List Value}{I:aa}{δ:List ay}{R:Value→aa→List ay→Prop}(az:eb P f=true)(h:aS P f (firsts++args) I δ R):
 cR P (.func (.func f) firsts.toArray #[]) args I δ R:=by
 intro w ao;refine⟨{target:=.fn (.func f) #[],args:=(firsts++args).toArray},by simp[Deferred.ofValue],.inl ⟨f,(firsts++args).toArray,?_,h w ao⟩⟩;simp only[invoke];rw[Aq az];simp
abbrev bx:=Int×T
inductive hh(I:aa):Value→List bx→Prop
  | mk (ad:Option Addr) (c:Nat) (bj:Nat→Option Addr×Nat) (bs:List bx) (aq:bs.length≤c) (al:bs.length≤4398046511104)
      (aW:∀i (h:i<bs.length),At I ad (i*3) [.int .i64 bs[i].1,.int .i64 bs[i].2.head,.slice (bj i).1 bs[i].2.args.length (bj i).2]) (an:∀i (h:i<bs.length),dZ bs[i].1)
      (bT:∀i (h:i<bs.length),ba I (.agg #[.int .i64 bs[i].2.head,.slice (bj i).1 bs[i].2.args.length (bj i).2]) bs[i].2):hh I (.slice ad bs.length c) bs
theorem hh.mono{I J:aa}{v:Value}{bs:List bx}(h:hh I v bs)(aA:I.le J):hh J v bs:=by
 obtain⟨ad,c,bj,bs,aq,al,aW,an,bT⟩:=h;exact⟨ad,c,bj,bs,aq,al,fun i h=>(aW i h).mono aA,an,fun i h=>(bT i h).mono aA⟩
theorem hh.shape{I:aa}{v:Value}{bs:List bx}(h:hh I v bs):∃ad c,v=.slice ad bs.length c:=by
 obtain⟨ad,c,bj,bs,_,_,_,_,_⟩:=h;exact⟨ad,c,rfl⟩
theorem hh.open{I:aa}{ad:Option Addr}{n c:Nat}{bs:List bx}(h:hh I (.slice ad n c) bs):n=bs.length∧bs.length≤c∧bs.length≤4398046511104∧(∀i (h:i<bs.length),dZ bs[i].1)∧∃bj:Nat→Option Addr×Nat,
 (∀i (h:i<bs.length),At I ad (i*3) [.int .i64 bs[i].1,.int .i64 bs[i].2.head,.slice (bj i).1 bs[i].2.args.length (bj i).2])∧
 (∀i (h:i<bs.length),ba I (.agg #[.int .i64 bs[i].2.head,.slice (bj i).1 bs[i].2.args.length (bj i).2]) bs[i].2):=by
 generalize e:Value.slice ad n c=v at h;obtain⟨qn,cJ,bj,bs,aq,al,aW,an,bT⟩:=h;cases e;exact⟨rfl,aq,al,an,bj,aW,bT⟩
def cd:List bx→Int→Option T
  | [],_=>none
  | (v,t)::r,x=>if v=x then some t else cd r x
def g6(I:aa)(xs:bU)(bs:List bx):Prop:=∀v,(cd bs v=none→dG xs v=none)∧∀t,cd bs v=some t→∃u,dG xs v=some u∧ba I u t
theorem g6.mono{I J:aa}{xs:bU}{bs:List bx}(h:g6 I xs bs)(aA:I.le J):g6 J xs bs:=
  fun v=>⟨(h v).1,fun t ar=>let⟨u,ab,ae⟩:=(h v).2 t ar;⟨u,ab,ae.mono aA⟩⟩
theorem g6.nil(I:aa):g6 I [] []:=fun v=>⟨fun _=>rfl,fun t ar=>by simp[cd]at ar⟩
theorem g6.put{I:aa}{xs:bU}{bs:List bx}{v:Int}{t:T}{u:Value}(h:g6 I xs bs)(hu:ba I u t):g6 I (gi xs v u) ((v,t)::bs):=fun x=>by rw[vZ];simp only[cd];by_cases e:v=x;rw[if_pos e,if_pos e];exact⟨fun h=>(by cases h),fun t' ar=>(by cases ar;exact⟨u,rfl,hu⟩)⟩;rw[if_neg e,if_neg e];exact h x
def nh(bs:List bx)(t:T):T:=(cd bs (-1-t.head)).getD t
def akT(bs:List bx)(bj:Nat→Option Addr×Nat)(_:aa)(i:Nat)(vs:List Value):Prop:=
  ∃aj:i<bs.length,vs= [.int .i64 i,.agg #[.int .i64 bs[i].1,.int .i64 bs[i].2.head,.slice (bj i).1 bs[i].2.args.length (bj i).2]]
theorem akU {I:aa} {bs:List bx} {ad:Option Addr} {c b:Nat} {bj:Nat→Option Addr×Nat} (al:bs.length≤4398046511104)
 (aW:∀i (h:i<bs.length),At I ad (i*3) [.int .i64 bs[i].1,.int .i64 bs[i].2.head,.slice (bj i).1 bs[i].2.args.length (bj i).2]):
 Iter Tryz.prog 269 [.pointer (some ⟨b,0,none⟩)] I [.box b 202 [.slice ad bs.length c]] (akT bs bj) (List.range bs.length).reverse:=by
 intro fs J δ C5 aB aw;refine a1 func269 ntmps269 fun aG=> ?_;refine a8 ?_;refine aI (gG rfl rfl rfl ah) ?_;refine a8 ?_;refine ek (fun m aL ai δ'=>∃(k:Nat) (gA:List ay),m=bs.length-k∧k≤bs.length∧aL= [(0,fs),(1,.pointer (some ⟨b,0,none⟩)),(3,.int .i64 ((bs.length:Int)-1-k))]∧I.le ai∧δ'=.box b 202 [.slice ad bs.length c]::gA∧J ((List.range bs.length).reverse.take k) ai gA) bs.length [(0,fs),(1,.pointer (some ⟨b,0,none⟩)),(3,.int .i64 ((bs.length:Int)-1))] ⟨0,δ,rfl,Nat.zero_le _,by simp,aa.le_refl _,rfl,aB⟩ ⟨rfl,rfl,rfl,trivial⟩ ?_;rintro m _ I0 _ ⟨k,gA,rfl,hk,rfl,bO,rfl,cj⟩;refine aP ?_;refine bF rfl (fun aV=> ?_) (fun aV=> ?_);have aC:0≤(bs.length:Int)-1-k:=by simpa using aV
 have av:k<bs.length:=by omega
 obtain⟨j,au⟩:∃j:Nat,j=bs.length-1-k:=⟨_,rfl⟩
 have Fx:(bs.length:Int)-1-k=(j:Nat):=by omega
 rw[Fx];have iA:j<bs.length:=by omega
 have db:=(aW j iA).isSome;have af:=VM bs.length k av;rw[←au]at af;have hG:=VN bs.length k av;rw[←au]at hG;refine bA ?_;refine aI (cC ((aW j iA).mono bO)) ?_;refine e8 rfl rfl rfl ((aw _ j _ _ _ _ af bO cj ⟨iA,rfl⟩)) (List.perm_append_comm (l₁:= [_])) ?_;rintro u0 ox Oa nc ⟨rfl,Fy⟩;refine aK.view (View.perm (List.perm_append_comm (l₂:= [_]))) ?_;rw[←hG]at Fy;refine br ?_;refine aI (gG rfl rfl rfl ah) ?_;refine go2 ?_;refine cV (bs.length-(k+1)) [(0,fs),(1,.pointer (some ⟨b,0,none⟩)),(3,.int .i64 ((j:Int)-1))] ah ⟨k+1,Oa,rfl,av,?_,aa.le_trans bO nc,rfl,Fy⟩ ⟨rfl,rfl,rfl,trivial⟩;rw[show(j:Int)-1=(bs.length:Int)-1-((k+1:Nat):Int)by omega];have aC:¬0≤(bs.length:Int)-1-k:=by simpa using aV
 have bV:k=bs.length:=by omega
 have cE:(List.range bs.length).reverse.take k=(List.range bs.length).reverse:=List.take_of_length_le (by simp;omega);rw[cE]at cj;refine a8 ?_;refine pb (rs:= []) rfl (List.Perm.refl _) .nil (List.Sublist.refl _) ⟨gA,cj,rfl⟩
theorem akV{I:aa}{s:Value}:
 aS Tryz.prog 254 [s] I [] (fun v ai δ'=>∃b,v=.func (.func 269) #[] #[.pointer (some ⟨b,0,none⟩)]∧δ'= [.box b 202 (c9 s)]):=by
 refine a1 func254 ntmps254 fun aG=> ?_;refine go2 ?_;refine bw fun e2=> ?_;refine b_ ?_;refine dY ?_;exact⟨e2,rfl,rfl⟩
theorem akW{bs:List bx}{pre post:List Nat}{x:Nat}(af:(List.range bs.length).reverse=pre++x::post):∃h:x<bs.length,bs.drop (bs.length-pre.length)=bs.drop (x+1)∧bs.drop (bs.length-(pre++ [x]).length)=bs[x]::bs.drop (x+1):=by
 have aA:pre.length<bs.length:=by have:=congrArg List.length af;simp at this;omega
 have ab:=congrArg (fun l=>l[pre.length]?) af;simp only[List.getElem?_append_right (Nat.le_refl _),Nat.sub_self,List.getElem?_cons_zero]at ab;rw[List.getElem?_reverse (by simpa using aA),List.getElem?_range (by simp;omega)]at ab;simp at ab;have iw:x<bs.length:=by omega
 refine⟨iw,by congr 1;omega,?_⟩;rw[←List.drop_eq_getElem_cons iw];congr 1;simp;omega
theorem akX{I:aa}{v:Value}{bs:List bx}(ax:hh I v bs):
 aS Tryz.prog 234 [v] I [] (fun v ai δ'=>∃b xs,v=.map (some b)∧δ'= [.map b xs]∧g6 ai xs bs):=by
 obtain⟨ad,c,rfl⟩:=ax.shape;obtain⟨_,aq,al,an,bj,aW,bT⟩:=ax.open;refine a1 func234 ntmps234 fun aG=> ?_;refine aP ?_;refine tm rfl (fun c1=> ?_);refine bh fun b3=> ?_;refine aP ?_;refine bN rfl akV ?_;rintro so jt _ jJ ⟨b8,rfl,rfl⟩;refine aR ?_;refine IN (δb:= [_,_]) (B:=fun l ai δ'=>∃xs,δ'= [.box b3 330 [.map (some c1)],.map c1 xs]∧g6 ai xs (bs.drop (bs.length-l.length))) rfl rfl ajh rfl (akU al (fun i h=>(aW i h).mono jJ)) (List.Perm.refl _) ⟨[],rfl,by simp;exact g6.nil _⟩ (by rintro _ _ _ ⟨_,rfl⟩;rfl) (by rintro l en dV _ hle ⟨xs,rfl,h⟩;exact⟨xs,rfl,h.mono hle⟩) ?_ ?_;rintro l r hp pre x post dV _ _ e1 hI af k6 ⟨xs,rfl,cc⟩ ⟨iw,rfl⟩;obtain⟨_,y0,CL⟩:=akW af;rw[y0]at cc;refine aX ?_;refine bh fun b5=> ?_;refine go2 ?_;refine yP e1 (bc.there bc.here) ?_;refine aP ?_;refine sg underlying330 underlying3 rfl rfl rfl rfl (by repeat (first|exact bc.here|apply bc.there)) ?_;refine go2 ?_;refine bf.view (View.drop aO.here) ?_;refine oc bc.here e1 hI ⟨rfl,_,rfl,_,rfl,?_⟩;rw[CL];exact cc.put ((bT x iw).mono aa.ag);rintro gR wi _ tu ⟨xs,rfl,cc⟩;refine br ?_;refine dv (rs:= [.tmp 2]) rfl (List.Perm.refl _) (.cons (.tmp rfl) .nil) (List.Sublist.cons _ (List.Sublist.cons _ (List.Sublist.cons_cons _ (List.nil_sublist _)))) ?_;exact⟨c1,xs,rfl,rfl,by simpa using cc⟩
theorem akY{I:aa}{b:Nat}{xs:bU}{bs:List bx}{v:Value}{t:T}(ax:ba I v t)(cc:g6 I xs bs):
 aS Tryz.prog 235 [.map (some b),v] I [.map b xs] (fun v ai δ'=>ba ai v (nh bs t)∧δ'= [.map b xs]):=by
 obtain⟨a0,bu,rfl,ib⟩:=ax.shape;unfold dZ at ib;refine a1 func235 ntmps235 fun aG=> ?_;refine go2 ?_;refine bw fun b3=> ?_;refine bh fun b4=> ?_;refine bg ?_;refine aI (gG rfl rfl rfl ah) ?_;by_cases k9:(cd bs (-1-t.head)).isSome=true;obtain⟨u,hu⟩:=Option.isSome_iff_exists.1 k9;obtain⟨JM,aM,ru⟩:=(cc (-1-t.head)).2 u hu;obtain⟨c3,cK,rfl,_⟩:=ru.shape;refine aI (jr (v:=.agg #[.int .i64 u.head,.slice c3 u.args.length cK]) (g:=true) underlying330 underlying3 z41 rfl rfl cW (by rw[aM];rfl) (by rw[aM];rfl)) ?_;refine aR ?_;refine bh fun b5=> ?_;refine iR ?_;refine dv (rs:= [.cell 4 41]) rfl (List.Perm.refl _) (.cons (.cell rfl fc cW rfl) .nil) (List.Sublist.cons _ (List.Sublist.cons _ (List.Sublist.cons _ (List.Sublist.refl _)))) ?_;exact⟨by rw[nh,hu];exact ru,rfl⟩;have hu:cd bs (-1-t.head)=none:=by simpa using k9
 have aM:=(cc (-1-t.head)).1 hu;refine aI (jr (v:=.agg #[.int .i64 0,.slice none 0 0]) (g:=false) underlying330 underlying3 z41 rfl rfl cW (by rw[aM];rfl) (by rw[aM];rfl)) ?_;refine aR ?_;refine bh fun b5=> ?_;refine ic ?_;refine dv (rs:= [.cell 4 41]) rfl (List.Perm.refl _) (.cons (.cell rfl fc cW rfl) .nil) (List.Sublist.cons _ (List.Sublist.cons _ (List.Sublist.cons _ (List.Sublist.refl _)))) ?_;exact⟨by rw[nh,hu];exact ax,rfl⟩
end
theorem Wr:∀(l:List T) (k:Nat) (h:k<l.length),pz l[k]≤qv l
  |t::r,0,_=>by simp only[qv,List.getElem_cons_zero];omega
  |t::r,k+1,h=>by have:=Wr r k (by simpa using h);simp[qv];omega
mutual
theorem Ox:∀(d e:Nat) (t:T),(dd d t).any d_=(dd e t).any d_
  |d,e,.mk h ts=>by simp only[dd,List.any_cons];rw[Ws (d+1) (e+1) ts];rfl
theorem Ws:∀(d e:Nat) (ts:List T),(jI d ts).any d_=(jI e ts).any d_
  |_,_,[]=>rfl
  |d,e,t::r=>by simp only[jI,List.any_append];rw[Ox d e t,Ws d e r]
end
theorem Wt:∀(d:Nat) (l:List T) (k:Nat) (h:k<l.length),(jI d l).any d_=false→(dd d l[k]).any d_=false
  |d,t::r,0,_,h=>by simp only[jI,List.any_append,Bool.or_eq_false_iff]at h;exact h.1
  |d,t::r,k+1,hk,h=>by simp only[jI,List.any_append,Bool.or_eq_false_iff]at h;exact Wt d r k (by simpa using hk) h.2
theorem Wu{h:Int}{ts:List T}(aq:c2 (.mk h ts)=0)(k:Nat)(hk:k<ts.length):c2 ts[k]=0:=by
 have ab:=pt ts k hk;have ae:=Wr ts k hk;have bD:(T.mk h ts).size=1+bG ts:=by simp[T.size]
 have lG:pz (T.mk h ts)=1+qv ts:=by simp[pz]
 unfold c2 at aq;rw[bD,lG]at aq;by_cases dj:400<1+bG ts;rw[if_pos dj]at aq;omega;rw[if_neg dj]at aq;by_cases cY:40<1+qv ts;rw[if_pos cY]at aq;omega;rw[if_neg cY]at aq;by_cases l7:(dd 1 (.mk h ts)).any d_=true;rw[if_pos l7]at aq;omega;have AI:(jI 2 ts).any d_=false:=by simp only[dd,List.any_cons,Bool.or_eq_true,not_or]at l7;simpa using l7.2
 have Nn:=Wt 2 ts k hk AI;rw[Ox 2 1]at Nn;unfold c2;rw[if_neg ah,if_neg ah,Nn];rfl
section
attribute [local irreducible] aK bf bJ
mutual
def iD(f:T→T):T→T
  |.mk h us=>if h<0 then f (.mk h us)else .mk h (gL f us)
def gL(f:T→T):List T→List T
  | []=> []
  |t::r=>iD f t::gL f r
end
theorem De(f:T→T):∀us:List T,gL f us=us.map (iD f)
  | []=>rfl
  |t::r=>by simp[gL,De f r]
theorem Wv(f:T→T)(us:List T):(gL f us).length=us.length:=by rw[De];simp
theorem akZ(f:T→T)(us:List T)(k:Nat)(h:k<us.length):gL f (us.take (k+1))=gL f (us.take k)++ [iD f us[k]]:=by
 rw[De,De,List.take_succ_eq_append_getElem h,List.map_append];rfl
theorem Ww{b1:Value}{δf:List ay}{f:T→T}{I0:aa}(a7:∀J v t,I0.le J→ba J v t→cR Tryz.prog b1 [v] J δf (fun jb ak0 δ'=>ba ak0 jb (f t)∧δ'=δf)):
 ∀(n:Nat) (t:T),t.size≤n→∀(I:aa) (v:Value),I0.le I→ba I v t→
 aS Tryz.prog 213 [v,b1] I δf (fun v ai δ'=>ba ai v (iD f t)∧δ'=δf):=by
 intro n
 induction n with
 |zero=>intro t ar;have:=t.size_pos;omega
 |succ n aY=>
  intro t ar I v iq ax;obtain⟨h,ts⟩:=t;have qb:=ax;obtain⟨ad,c,bj,rfl,an,aq,al,aW,bT⟩:=ax.elim;have bD:(T.mk h ts).size=1+bG ts:=by simp[T.size]
  refine a1 func213 ntmps213 fun aG=> ?_;refine go2 ?_;refine bw fun b2=> ?_;refine bh fun b4=> ?_;refine aP ?_;by_cases kF:h<0;refine bg ?_;refine e8 rfl rfl rfl ((a7 _ _ _ iq qb)) (List.perm_append_comm (l₁:= [_,_])) ?_;rintro sv mi _ oD ⟨Wx,rfl⟩;obtain⟨Wy,Wz,rfl,_⟩:=Wx.shape;refine aK.view (View.perm (List.perm_append_comm (l₂:= [_,_]))) ?_;refine a_ ?_;refine dv (rs:= [.cell 4 41]) rfl (List.Perm.refl _) (.cons (.cell rfl fc cW rfl) .nil) (List.Sublist.cons _ (List.Sublist.cons _ (List.Sublist.refl _))) ?_;exact⟨by simp only[iD];rw[if_pos kF];exact Wx,rfl⟩;refine bA ?_;refine bh fun b5=> ?_;refine cT ?_;refine bJ.view (View.gh 41 2) ?_;refine ek (fun m aL ai δ'=>∃(k:Nat) (cX:Option Addr) (dH:Nat) (xs:List Value),m=ts.length-k∧k≤ts.length∧aL= [(1,b1),(4,.pointer (some ⟨b4,0,none⟩)),(5,.pointer (some ⟨b5,0,none⟩)),(18,.slice ad ts.length c),(19,.int .i64 ts.length),(20,.int .i64 k)]∧I.le ai∧δ'=.row (.slice cX k dH) 41 2 k xs:: .box b5 41 [.int .i64 h,.slice cX k dH]:: .box b4 41 [.int .i64 0,.slice none 0 0]:: .box b2 41 [.int .i64 h,.slice ad ts.length c]::δf∧cF ai xs (gL f (ts.take k))) ts.length [(1,b1),(4,.pointer (some ⟨b4,0,none⟩)),(5,.pointer (some ⟨b5,0,none⟩)),(18,.slice ad ts.length c),(19,.int .i64 ts.length),(20,.int .i64 (0:Nat))] ⟨0,none,0,[],rfl,Nat.zero_le _,rfl,aa.le_refl _,rfl,cF.nil _⟩ ⟨rfl,rfl,rfl,rfl,rfl,rfl,trivial⟩ ?_;rintro m _ en _ ⟨k,cX,dH,xs,rfl,hk,rfl,lJ,rfl,az⟩;refine aZ ?_;refine bF rfl (fun bq=> ?_) (fun bq=> ?_);have av:k<ts.length:=by simpa using bq
  have db:=(aW k av).isSome;have hm:=pt ts k av;refine aP ?_;refine aI (cC ((aW k av).mono lJ)) ?_;refine bh fun dp=> ?_;refine aR ?_;refine eU [0,2,4,6,9,11,13,14,17] (fun _=>.box dp 41 [.int .i64 ts[k].head,.slice (bj k).1 ts[k].args.length (bj k).2]:: .box b5 41 [.int .i64 h,.slice cX k dH]:: .box b4 41 [.int .i64 0,.slice none 0 0]:: .box b2 41 [.int .i64 h,.slice ad ts.length c]::δf) (fun _=>(List.Sublist.cons_cons _ (List.Sublist.cons _ (List.Sublist.refl _)))) ?_;refine a_ ?_;refine eo rfl (aY ts[k] ah _ _ (aa.le_trans iq lJ) ((bT k av).mono lJ)) (List.perm_append_comm (l₁:= [_,_,_,_,_])) ?_;rintro wx pD _ qD ⟨y_,rfl⟩;obtain⟨ak1,ak2,rfl,_⟩:=y_.shape;refine aK.view (View.perm (List.perm_append_comm (l₂:= [_,_,_,_,_]))) ?_;refine aX ?_;refine jY rfl (kY aa.ag (fun _=>(by intro x af;simp only[List.mem_cons]at af⊢;rcases af with h|h|h|h|h<;>simp[h,c9]))) ?_;refine aX ?_;refine c_ fun Df=> ?_;refine aX ?_;refine jY rfl (kY aa.ag (fun _=>(by intro x af;simp only[List.mem_cons]at af⊢;rcases af with h|h|h|h|h<;>simp[h,c9]))) ?_;refine aX ?_;refine gl fun za zb=> ?_;refine aX ?_;refine jY rfl (kY aa.ag (fun _=>(by intro x af;simp only[List.mem_cons]at af⊢;rcases af with h|h|h|h|h<;>simp[h,c9]))) ?_;refine a8 ?_;refine fU ?_;refine aP ?_;refine bf.view ((View.drop aO.here).trans (View.drop aO.here)) ?_;refine cV (ts.length-(k+1)) [(1,b1),(4,.pointer (some ⟨b4,0,none⟩)),(5,.pointer (some ⟨b5,0,none⟩)),(18,.slice ad ts.length c),(19,.int .i64 ts.length),(20,.int .i64 ((k+1:Nat):Int))] ah ⟨k+1,za,zb,xs++ [.int .i64 (iD f ts[k]).head,.slice ak1 (iD f ts[k]).args.length ak2],rfl,av,rfl,aa.le_trans lJ qD,rfl,?_⟩ ⟨rfl,rfl,rfl,rfl,rfl,rfl,trivial⟩;rw[akZ f ts k av];exact(az.mono qD).app (cF.one y_);have bV:k=ts.length:=by simp at bq;omega
  subst bV;rw[List.take_length]at az;refine aP ?_;refine aK.dO aO.here ?_;rintro A9 WA WB wy mc eV iT ep;cases mc;refine a_ ?_;refine dv (rs:= [.cell 4 41]) rfl (List.Perm.refl _) (.cons (.cell rfl fc cW rfl) .nil) (List.Sublist.cons _ (List.Sublist.cons _ (List.Sublist.cons _ (List.Sublist.refl _)))) ?_;exact⟨by simp only[iD];rw[if_neg kF];have aA:=Wv f ts;have:=cF.rep (h:=h) ep (az.mono wy) an (by rw[aA];exact eV) (by rw[aA];exact al);rw[aA]at this;exact this,rfl⟩
mutual
theorem Oy(f:T→T)(m:Nat)(hm:1≤m)(a7:∀t,t.head<0→(f t).size≤m*t.size):∀t:T,(iD f t).size≤m*t.size
  |.mk h us=>by simp only[iD];split;exact a7 _ (by assumption);have:=WC f m hm a7 us;simp only[T.size,Nat.mul_add];omega
theorem WC(f:T→T)(m:Nat)(hm:1≤m)(a7:∀t,t.head<0→(f t).size≤m*t.size):∀us:List T,bG (gL f us)≤m*bG us
  | []=>by simp[gL,bG]
  |t::r=>by have ab:=Oy f m hm a7 t;have ae:=WC f m hm a7 r;simp only[gL,bG,Nat.mul_add];omega
end
theorem Oz:∀{bs:List bx} {v:Int} {t:T},cd bs v=some t→∃b∈bs,b.1=v∧b.2=t
  | [],v,t,h=>by simp[cd]at h
  | (w,u)::r,v,t,h=>by simp only[cd]at h;split at h;cases h;exact⟨(w,u),List.mem_cons_self ..,by assumption,rfl⟩;obtain⟨b,al,ab⟩:=Oz h;exact⟨b,List.mem_cons_of_mem _ al,ab⟩
theorem ak3{bs:List bx}{m:Nat}(hm:1≤m)(al:∀b∈bs,b.2.size≤m)(t:T):(nh bs t).size≤m*t.size:=by
 have az:=t.size_pos;unfold nh
 cases h:cd bs (-1-t.head)with
 |none=>
   show t.size≤_
   calc t.size=1*t.size:=(Nat.one_mul _).symm
     _≤m*t.size:=Nat.mul_le_mul_right _ hm
 |some u=>
  obtain⟨b,ak4,_,rfl⟩:=Oz h;have:=al b ak4;show b.2.size≤_
  calc b.2.size≤m*1:=by omega
    _≤m*t.size:=Nat.mul_le_mul_left _ az
def fF(bs:List bx)(t:T):T:=iD (nh bs) t
theorem ak5{bs:List bx}{m:Nat}(hm:1≤m)(al:∀b∈bs,b.2.size≤m)(t:T):(fF bs t).size≤m*t.size:=Oy _ m hm (fun t _=>ak3 hm al t) t
def A_(last:Int)(b:bx):Bool:=decide (b.1≤last)||(decide (255<b.1)||(decide (c2 b.2≠0)||decide (b.2.head= -1-b.1)))
def zc(bs:List bx):Prop:=∀i (h:i<bs.length),A_ (if i=0 then-1 else(bs.getD (i-1) (0,jd)).1) bs[i]=false
theorem ak6{I:aa}{v:Value}{bs:List bx}(ax:hh I v bs)(g_:∀b∈bs,b.2.size≤1000000000):
 aS Tryz.prog 233 [v] I [] (fun v ai δ'=>(∃e:Int,v=.int .i64 e∧(e=0∧zc bs∨e=1∧¬zc bs))∧δ'= []):=by
 obtain⟨ad,c,rfl⟩:=ax.shape;obtain⟨_,aq,al,an,bj,aW,bT⟩:=ax.open;refine a1 func233 ntmps233 fun aG=> ?_;refine ic ?_;refine ek (fun m aL ai δ'=>∃(k:Nat) (last:Int),m=bs.length-k∧k≤bs.length∧aL= [(3,.int .i64 last),(6,.slice ad bs.length c),(7,.int .i64 bs.length),(8,.int .i64 k)]∧I.le ai∧δ'= []∧last=(if k=0 then-1 else(bs.getD (k-1) (0,jd)).1)∧∀i (h:i<bs.length),i<k→A_ (if i=0 then-1 else(bs.getD (i-1) (0,jd)).1) bs[i]=false) bs.length [(3,.int .i64 (-1)),(6,.slice ad bs.length c),(7,.int .i64 bs.length),(8,.int .i64 (0:Nat))] ⟨0,-1,rfl,Nat.zero_le _,rfl,aa.le_refl _,rfl,rfl,fun i _ h=>by omega⟩ ⟨rfl,rfl,rfl,rfl,trivial⟩ ?_;rintro m _ I0 _ ⟨k,last,rfl,hk,rfl,bO,rfl,FR,az⟩;refine aZ ?_;refine bF rfl (fun aV=> ?_) (fun aV=> ?_);have av:k<bs.length:=by simpa using aV
 have db:=(aW k av).isSome;have u6:=an k av;unfold dZ at u6;refine aP ?_;refine aI (cC ((aW k av).mono bO)) ?_;refine bh fun b5=> ?_;refine br ?_;by_cases lK:bs[k].1≤last;refine Va ?_;refine bn ?_;exact⟨⟨1,rfl,.inr ⟨rfl,fun h=>by have:=h k av;rw[←FR]at this;simp[A_,lK]at this⟩⟩,rfl⟩;refine a8 ?_;by_cases kE:255<bs[k].1;refine ajF ?_;refine bn ?_;exact⟨⟨1,rfl,.inr ⟨rfl,fun h=>by have:=h k av;rw[←FR]at this;simp[A_,kE]at this⟩⟩,rfl⟩;refine a_ ?_;refine cZ ?_;refine bN rfl (wu ((bT k av).mono bO) (g_ _ (List.getElem_mem _))) ?_;rintro oE mQ _ lL ⟨rfl,rfl⟩;by_cases pE:c2 bs[k].2≠0;refine NO ?_;refine bn ?_;exact⟨⟨1,rfl,.inr ⟨rfl,fun h=>by have:=h k av;rw[←FR]at this;simp[A_,pE]at this⟩⟩,rfl⟩;refine bg ?_
 first
   | (refine CC rfl rfl ?_
      refine CD (gG rfl rfl rfl ah) rfl ?_)
   | (refine Iv rfl rfl (by simp[undef]) rfl ?_)
 by_cases rv:bs[k].2.head= -1-bs[k].1;refine fx ?_;refine bn ?_;exact⟨⟨1,rfl,.inr ⟨rfl,fun h=>by have:=h k av;rw[←FR]at this;simp[A_,rv]at this⟩⟩,rfl⟩;refine iR ?_;refine bf.view (View.drop aO.here) ?_;refine cV (bs.length-(k+1)) [(3,.int .i64 bs[k].1),(6,.slice ad bs.length c),(7,.int .i64 bs.length),(8,.int .i64 (k+1:Nat))] ah ⟨k+1,bs[k].1,rfl,av,rfl,aa.ag,rfl,by simp[List.getElem?_eq_getElem av],?_⟩ ⟨rfl,rfl,rfl,rfl,trivial⟩;intro i h aj;rcases Nat.lt_or_ge i k with oC|oC
 exact az i h oC;have Ow:i=k:=by omega
 subst Ow;rw[←FR];simp[A_,pE,rv];omega;have bV:k=bs.length:=by simp at aV;omega
 refine bA ?_;refine bn ?_;exact⟨⟨0,rfl,.inl ⟨rfl,fun i h=>az i h ah⟩⟩,rfl⟩
theorem WD{I:aa}{v:Value}{t:T}(ax:ba I v t)(g_:t.size≤1000000000):
 aS Tryz.prog 212 [v] I [] (fun v ai δ'=>(∃u,v=.tuple #[u,.int .i64 (c2 t)]∧ba ai u (if c2 t=0 then t else jd))∧δ'= []):=by
 obtain⟨a0,bu,rfl,ib⟩:=ax.shape;refine a1 func212 ntmps212 fun aG=> ?_;refine go2 ?_;refine bw fun e2=> ?_;refine bh fun b2=> ?_;refine aP ?_;refine bN rfl (wu ax g_) ?_;rintro v6 wk _ tw ⟨rfl,rfl⟩;refine aZ ?_;by_cases nf:c2 t≠0;refine dn ?_;refine bn ?_;exact⟨⟨_,rfl,by rw[if_neg nf];exact sn _⟩,rfl⟩;refine dn ?_;refine bn ?_;have WE:c2 t=0:=by simpa using nf
 exact⟨⟨_,by rw[WE];rfl,by rw[if_pos WE];exact ax.mono tw⟩,rfl⟩
mutual
def hi:Bool→T→List (Bool×T)
  |b,.mk h us=>(b,.mk h us)::ey us
def ey:List T→List (Bool×T)
  | []=> []
  |t::r=>hi false t++ey r
end
mutual
theorem JN:∀(b:Bool) (t:T),(hi b t).length=t.size
  |b,.mk h us=>by simp[hi,T.size,tF us];omega
theorem tF:∀ts:List T,(ey ts).length=bG ts
  | []=>rfl
  |t::r=>by simp[ey,bG,JN false t,tF r]
end
theorem gU(b:Bool)(t:T):hi b t=(b,t)::ey t.args:=by cases t;rfl
theorem Ba:∀a b:List T,ey (a++b)=ey a++ey b
  | [],b=>rfl
  |t::r,b=>by simp[ey,Ba r b]
theorem JO(l:List T)(k:Nat)(h:k<l.length):ey (l.take (k+1))=ey (l.take k)++hi false l[k]:=by
 rw[List.take_succ_eq_append_getElem h,Ba];simp[ey]
theorem WG {FT:Value} (J:List (Bool×T)→aa→List ay→Prop) (hm:∀l en dV δ,en.le dV→J l en δ→J l dV δ)
 (ak7:∀pre x I v δ,pre.length≤1000000000→ba I v x.2→J pre I δ→cR Tryz.prog FT [v,.bool x.1] I δ (fun _ ai δ'=>J (pre++ [x]) ai δ')):
 ∀(n:Nat) (t:T),t.size≤n→∀(top:Bool) (pre:List (Bool×T)) (I:aa) (v:Value) (δ:List ay),pre.length+t.size≤1000000000→ba I v t→J pre I δ→
 aS Tryz.prog 139 [v,.bool top,FT] I δ (fun _ ai δ'=>J (pre++hi top t) ai δ'):=by
 intro n
 induction n with
 |zero=>intro t h;have:=t.size_pos;omega
 |succ n aY=>
  intro t aD top pre I v δ g_ ax cj;obtain⟨a0,bu,rfl,ib⟩:=ax.shape;obtain⟨_,_,_,aq,al,bj,aW,bT⟩:=ax.open;have bD:=wv t;have qB:J (pre++hi top t) I δ→True:=fun _=>trivial;refine a1 func139 ntmps139 fun aG=> ?_;refine go2 ?_;refine bw fun b3=> ?_;refine aP ?_;refine e8 rfl rfl rfl ((ak7 pre (top,t) _ _ _ ah ax cj)) (List.perm_append_comm (l₁:= [_])) ?_;rintro v11 ry ak8 qE ak9;refine aK.view (View.perm (List.perm_append_comm (l₂:= [_]))) ?_;refine bA ?_;refine ek (fun m aL ai δ'=>∃(k:Nat) (gA:List ay),m=t.args.length-k∧k≤t.args.length∧aL= [(2,FT),(13,.slice a0 t.args.length bu),(14,.int .i64 t.args.length),(15,.int .i64 k)]∧I.le ai∧δ'=.box b3 41 [.int .i64 t.head,.slice a0 t.args.length bu]::gA∧J (pre++(top,t)::ey (t.args.take k)) ai gA) t.args.length [(2,FT),(13,.slice a0 t.args.length bu),(14,.int .i64 t.args.length),(15,.int .i64 (0:Nat))] ⟨0,ak8,rfl,Nat.zero_le _,rfl,qE,rfl,ak9⟩ ⟨rfl,rfl,rfl,rfl,trivial⟩ ?_;rintro m _ I0 _ ⟨k,gA,rfl,hk,rfl,bO,rfl,fz⟩;refine aZ ?_;refine bF rfl (fun aV=> ?_) (fun aV=> ?_);have av:k<t.args.length:=by simpa using aV
  have db:=(aW k av).isSome;have JP:=pt t.args k av
  have hlen:(pre++(top,t)::ey (t.args.take k)).length+t.args[k].size≤1000000000:=by
   have ab:=congrArg List.length (JO t.args k av);have ae:bG (t.args.take (k+1))≤bG t.args:=by have aF:=congrArg List.length (Ba (t.args.take (k+1)) (t.args.drop (k+1)));rw[List.take_append_drop,List.length_append,tF,tF,tF]at aF;omega
   rw[List.length_append,tF,tF,JN]at ab;rw[List.length_append,List.length_cons,tF];omega
  refine aP ?_;refine aI (cC ((aW k av).mono bO)) ?_;refine bh fun dp=> ?_;refine aZ ?_;refine eo rfl (aY t.args[k] ah false _ _ _ _ hlen ((bT k av).mono bO) fz) (List.perm_append_comm (l₁:= [_,_])) ?_;rintro u7 u9 ak_ rz WH;refine aK.view (View.perm (List.perm_append_comm (l₂:= [_,_]))) ?_;rw[List.append_assoc,List.cons_append,←JO t.args k av]at WH;refine aP ?_;refine bf.view (View.drop aO.here) ?_;refine cV (t.args.length-(k+1)) [(2,FT),(13,.slice a0 t.args.length bu),(14,.int .i64 t.args.length),(15,.int .i64 (k+1:Nat))] ah ⟨k+1,ak_,rfl,av,rfl,aa.le_trans bO rz,rfl,WH⟩ ⟨rfl,rfl,rfl,rfl,trivial⟩;have bV:k=t.args.length:=by simp at aV;omega
  refine a8 ?_;rw[bV,List.take_length,←gU]at fz;exact pb (rs:= []) rfl (List.Perm.refl _) .nil (List.sublist_cons_self _ _) fz
def rA:Value→Int
  |.int _ n=>n
  |_=>0
def tG(m:bU)(k:Int):Int:=rA ((dG m k).getD (.int .i64 0))
def mj(l:List Int):bU:=l.foldl (fun m h=>gi m h (.int .i64 (tG m h+1))) []
theorem JQ(l:List Int)(h:Int):mj (l++ [h])=gi (mj l) h (.int .i64 (tG (mj l) h+1)):=by simp[mj]
theorem FU{α:Type}{P:List α→Prop}(aB:P [])(ab:∀l x,P l→P (l++ [x]))(l:List α):P l:=by
 have:∀m:List α,P m.reverse:=fun m=>by
  induction m with
  |nil=>exact aB
  |cons x m aY=>rw[List.reverse_cons];exact ab _ _ aY
 simpa using this l.reverse
theorem OA(l:List Int):∀k,dG (mj l) k=if l.count k=0 then none else some (.int .i64 (l.count k)):=by
 induction l using FU with
 |aB=>intro k;rfl
 |ab l x aY=>
  intro k;rw[JQ,vZ];have af:tG (mj l) x=l.count x:=by unfold tG;rw[aY x];split;rename_i h;simp[h,rA];simp[rA]
  by_cases h:x=k;subst h;rw[if_pos rfl,af];simp[List.count_append];rw[if_neg h,aY k];have:(l++ [x]).count k=l.count k:=by simp[List.count_append,List.count_singleton,h]
  rw[this]
theorem ala(l:List Int)(k:Int):tG (mj l) k=l.count k:=by
 unfold tG;rw[OA];split;rename_i h;simp[h,rA];simp[rA]
theorem alb(l:List Int)(k:Int):(dG (mj l) k).getD (.int .i64 0)=.int .i64 (l.count k):=by
 rw[OA];split;rename_i h;simp[h];simp
theorem alc(l:List Int):((mj l).map (·.1)).Nodup:=by
 induction l using FU with
 |aB=>simp[mj]
 |ab l x aY=>rw[JQ];exact IQ aY
theorem ald{l:List Int}{p:Int×Value}(h:p∈mj l):p.2=.int .i64 (l.count p.1)∧0<l.count p.1:=by
 have:=(AH (alc l) (k:=p.1) (v:=p.2)).1 h;rw[OA]at this;split at this;cases this;rename_i aB;exact⟨(Option.some.inj this).symm,by omega⟩
def qF(w:Int→Int)(m:bU):Int:=(m.map fun p=>w p.1*rA p.2).sum
theorem ale(w:Int→Int)(m:bU)(k:Int):qF w (gi m k (.int .i64 (tG m k+1)))=qF w m+w k:=by
 induction m with
 |nil=>simp[gi,qF,tG,dG,rA]
 |cons p r aY=>
  obtain⟨cB,z⟩:=p;by_cases h:cB=k;subst h;simp only[gi,if_true,qF,List.map_cons,List.sum_cons,tG,dG,Option.getD_some,rA];rw[Int.mul_add,Int.mul_one];omega;have aq:tG ((cB,z)::r) k=tG r k:=by simp[tG,dG,h]
  simp only[gi,if_neg h,qF,List.map_cons,List.sum_cons,aq];have:=aY;unfold qF at this;rw[this];omega
theorem alf(w:Int→Int)(l:List Int):qF w (mj l)=(l.map w).sum:=by
 induction l using FU with
 |aB=>rfl
 |ab l x aY=>rw[JQ,ale,aY];simp
theorem alg(w:Int→Int)(l q:bU)(k:Int)(v:Value):qF w (l++(k,v)::q)=qF w (l++q)+w k*rA v:=by
 simp[qF];omega
theorem alh{I:aa}{b3 m:Nat}{l:List Int}{v:Value}{t:T}{x:Bool}(ax:ba I v t)(aA:l.length≤1000000000):
 aS Tryz.prog 141 [v,.bool x,.pointer (some ⟨b3,0,none⟩)] I [.box b3 102 [.map (some m)],.map m (mj l)] (fun _ _ δ'=>δ'= [.box b3 102 [.map (some m)],.map m (mj (l++ [t.head]))]):=by
 obtain⟨a0,bu,rfl,ib⟩:=ax.shape;have eR:l.count t.head≤l.length:=List.count_le_length;refine a1 func141 ntmps141 fun aG=> ?_;refine go2 ?_;refine bw fun b3=> ?_;refine aZ ?_;refine aI (E3 underlying102 underlying3 z3 rfl rfl (Has.there (Has.there Has.here)) (alb l t.head)) ?_;refine aX ?_;refine sg underlying102 underlying3 rfl rfl rfl rfl (by repeat (first|exact bc.here|apply bc.there)) ?_;refine aX ?_;exact pb (rs:= []) rfl (List.Perm.refl _) .nil (List.sublist_cons_self _ _) (by rw[JQ,ala])
def cq(t:T):List Int:=(hi true t).map (·.2.head)
theorem ali(t:T):(cq t).length=t.size:=by simp[cq,JN]
theorem alj{I:aa}{v:Value}{t:T}(ax:ba I v t)(g_:t.size≤1000000000):
 aS Tryz.prog 109 [v] I [] (fun v _ δ'=>∃b,v=.map (some b)∧δ'= [.map b (mj (cq t))]):=by
 obtain⟨a0,bu,rfl,ib⟩:=ax.shape;refine a1 func109 ntmps109 fun aG=> ?_;refine go2 ?_;refine bw fun e2=> ?_;refine a_ ?_;refine tm rfl (fun b4=> ?_);refine bh fun b3=> ?_;refine aP ?_;refine eo rfl (WG (fun l _ δ'=>δ'= [.box b3 102 [.map (some b4)],.map b4 (mj (l.map (·.2.head)))]) (fun l _ _ δ _ h=>h) (fun pre x J v δ az pA aH=>by subst aH;refine cR.fq (caps:= [_]) ai7 ((alh pA (by rw[List.length_map];exact az)).mono fun _ _ _ _ h=> ?_);rw[h,List.map_append];rfl) t.size t (Nat.le_refl _) true [] _ _ _ (by simpa using g_) ax rfl) (List.Perm.refl _) ?_;rintro mM je _ kA rfl;refine br ?_;refine dv (rs:= [.tmp 2]) rfl (List.Perm.refl _) (.cons (.tmp rfl) .nil) (List.Sublist.cons _ (List.Sublist.cons_cons _ (List.nil_sublist _))) ?_;exact⟨b4,rfl,rfl⟩
def Bb(gs:List aE)(h:Int):Int:=(gs[h.toNat]?.map aE.cX).getD 0
def wz(gs:List aE)(h:Int):Bool:=(gs[h.toNat]?.map aE.jH).getD false
def hU(gs:List aE)(x:Bool×T):Bool:=decide (0≤x.2.head)&&(decide ((gs.length:Int)≤x.2.head)||decide ((x.2.args.length:Int)≠Bb gs x.2.head))
def jg(gs:List aE)(x:Bool×T):Bool:=decide (0≤x.2.head)&&(!(hU gs x)&&(wz gs x.2.head&& !x.1))
def FV(gs:List aE)(b8 dp b3 b2:Nat)(cs gc:List Value)(l:List (Bool×T)):List ay:=
  [.box b8 4 [.bool (l.any (jg gs))],.box dp 4 [.bool (l.any (hU gs))],.box b3 41 cs,.box b2 22 gc]
theorem WI{α:Type}(p:α→Bool)(l:List α)(x:α):(l++ [x]).any p=(l.any p||p x):=by simp
theorem JR{gs:List aE}{h:Int}(aB:0≤h)(aA:h<gs.length):Bb gs h=(gs[h.toNat]'(by omega)).cX:=by
 have:h.toNat<gs.length:=by omega
 simp[Bb,this]
theorem Dg{gs:List aE}{h:Int}(aB:0≤h)(aA:h<gs.length):wz gs h=(gs[h.toNat]'(by omega)).jH:=by
 have:h.toNat<gs.length:=by omega
 simp[wz,this]
theorem alk{I:aa}{gs:List aE}{b8 dp b3 b2 c:Nat}{ad:Option Addr}{cs:List Value}{pre:List (Bool×T)}{v:Value}{x:Bool×T}(ax:ba I v x.2)(aM:cP I (.slice ad gs.length c) gs):
 aS Tryz.prog 140 [v,.bool x.1,.pointer (some ⟨b2,0,none⟩),.pointer (some ⟨dp,0,none⟩),.pointer (some ⟨b8,0,none⟩)] I (FV gs b8 dp b3 b2 cs [.slice ad gs.length c] pre) (fun _ _ δ'=>δ'=FV gs b8 dp b3 b2 cs [.slice ad gs.length c] (pre++ [x])):=by
 obtain⟨top,t⟩:=x;obtain⟨a0,bu,rfl,ib⟩:=ax.shape;obtain⟨_,aq,al,aW,cn⟩:=aM.open;have hu:∀b,hU gs (top,t)=b→(pre++ [(top,t)]).any (hU gs)=(pre.any (hU gs)||b):=fun b al=>by rw[WI,al]
 have af:∀b,jg gs (top,t)=b→(pre++ [(top,t)]).any (jg gs)=(pre.any (jg gs)||b):=fun b al=>by rw[WI,al]
 simp only at ib;unfold FV;refine a1 func140 ntmps140 fun aG=> ?_;refine go2 ?_;refine bw fun b5=> ?_;refine aP ?_;by_cases xF:t.head<0;refine aP ?_;have aD:¬0≤t.head:=by omega
 have aQ:hU gs (top,t)=false:=by simp[hU,aD]
 have aT:jg gs (top,t)=false:=by simp[jg,aD]
 exact pb (rs:= []) rfl (List.Perm.refl _) .nil (List.sublist_cons_self _ _) (by rw[hu _ aQ,af _ aT];simp);refine aZ ?_;refine g5 [0,2,4,6,8,10,12,14,16,18,20,22,24,26,28,30,32,35] ?_;refine a8 ?_;by_cases jh:(gs.length:Int)≤t.head;refine xq ?_;have aQ:hU gs (top,t)=true:=by simp[hU,jh];omega
 have aT:jg gs (top,t)=false:=by simp[jg,aQ]
 exact pb (rs:= []) rfl (List.Perm.refl _) .nil (List.sublist_cons_self _ _) (by rw[hu _ aQ,af _ aT];simp);have aB:0≤t.head:=by omega
 have av:t.head.toNat<gs.length:=by omega
 have db:=(aW _ av).isSome;have kx:t.head<gs.length:=by omega
 refine bg ?_;refine pr rfl rfl rfl (tn underlying22 wa rfl rfl) ?_;refine aX ?_;refine pr rfl rfl rfl (q7 l8 (aW _ av) rfl rfl rfl) ?_;by_cases ka:(t.args.length:Int)≠(gs[t.head.toNat]'av).cX;refine cT ?_;have aQ:hU gs (top,t)=true:=by simp[hU,JR aB kx,aB,ka]
 have aT:jg gs (top,t)=false:=by simp[jg,aQ]
 exact pb (rs:= []) rfl (List.Perm.refl _) .nil (List.sublist_cons_self _ _) (by rw[hu _ aQ,af _ aT];simp);refine dn ?_;refine aI (tn underlying22 wa rfl rfl) ?_;refine aX ?_;refine aI (q7 k0 (aW _ av) rfl rfl rfl) ?_;skip;by_cases u_:(gs[t.head.toNat]'av).jH=true;rw[u_];refine go2 ?_;by_cases wA:top=true;subst wA;refine bg ?_;have aQ:hU gs (true,t)=false:=by simp[hU,JR aB kx];omega
 have aT:jg gs (true,t)=false:=by simp[jg,aQ]
 exact pb (rs:= []) rfl (List.Perm.refl _) .nil (List.sublist_cons_self _ _) (by rw[hu _ aQ,af _ aT];simp);have alm:top=false:=by simpa using wA
 subst alm;refine b_ ?_;have aQ:hU gs (false,t)=false:=by simp[hU,JR aB kx];omega
 have aT:jg gs (false,t)=true:=by simp[jg,aQ,Dg aB kx,u_,aB]
 exact pb (rs:= []) rfl (List.Perm.refl _) .nil (List.sublist_cons_self _ _) (by rw[hu _ aQ,af _ aT];simp);have WJ:(gs[t.head.toNat]'av).jH=false:=by simpa using u_
 rw[WJ];refine b_ ?_;have aQ:hU gs (top,t)=false:=by simp[hU,JR aB kx];omega
 have aT:jg gs (top,t)=false:=by simp[jg,aQ,Dg aB kx,WJ]
 exact pb (rs:= []) rfl (List.Perm.refl _) .nil (List.sublist_cons_self _ _) (by rw[hu _ aQ,af _ aT];simp)
def sw(gs:List aE)(t:T):Bool:=(hi true t).any (hU gs)
def xG(gs:List aE)(t:T):Bool:=(hi true t).any (jg gs)
def fX(gs:List aE)(t:T):Int:=if j_ gs≠0 then j_ gs else if c2 t≠0 then c2 t else if sw gs t=true then 1 else if xG gs t=true then 10 else 0
theorem JS{I:aa}{vg v:Value}{gs:List aE}{t:T}(aM:cP I vg gs)(ax:ba I v t)(g_:t.size≤1000000000):
 aS Tryz.prog 107 [vg,v] I [] (fun v _ δ'=>v=.int .i64 (fX gs t)∧δ'= []):=by
 obtain⟨ad,c,rfl⟩:=aM.shape;obtain⟨a0,bu,rfl,ib⟩:=ax.shape;refine a1 func107 ntmps107 fun aG=> ?_;refine go2 ?_;refine bw fun b2=> ?_;refine bw fun b3=> ?_;refine aP ?_;refine bN rfl (JI aM) ?_;rintro v10 j4 _ kB ⟨rfl,rfl⟩;refine aZ ?_;by_cases hT:j_ gs≠0;refine bW ?_;refine bn ?_;exact⟨by simp[dF,fX,hT],rfl⟩;refine b_ ?_;refine bN rfl (wu (ax.mono aa.ag) g_) ?_;rintro wB mR _ sx ⟨rfl,rfl⟩;refine aZ ?_;by_cases nO:c2 t≠0;refine bW ?_;refine bn ?_;exact⟨by simp only[dF,fX];rw[if_neg hT,if_pos nO],rfl⟩;refine bg ?_;refine bh fun dp=> ?_;refine bh fun b8=> ?_;refine bg ?_;refine hr rfl (WG (fun l ai δ'=>cP ai (.slice ad gs.length c) gs∧δ'=FV gs b8 dp b3 b2 [.int .i64 t.head,.slice a0 t.args.length bu] [.slice ad gs.length c] l) (fun l _ _ δ hle h=>⟨h.1.mono hle,h.2⟩) (fun pre x J v δ az pA aH=>by obtain⟨y0,aH⟩:=aH;subst aH;exact cR.mono (cR.fq (caps:= [_,_,_]) ai6 (alk pA y0)) (fun _ _ _ hle h=>⟨y0.mono hle,h⟩)) t.size t (Nat.le_refl _) true [] _ _ _ (by simpa using g_) (ax.mono aa.ag) ⟨aM.mono aa.ag,rfl⟩) ?_;rintro u7 u9 _ rz ⟨_,rfl⟩;rw[List.append_nil,List.nil_append];unfold FV;refine aP ?_;by_cases pF:sw gs t=true;rw[show(hi true t).any (hU gs)=true from pF];refine bW ?_;refine bn ?_;exact⟨by simp only[dF,fX];rw[if_neg hT,if_neg nO,if_pos pF],rfl⟩;rw[show(hi true t).any (hU gs)=false by simpa[sw]using pF];refine aP ?_;by_cases mP:xG gs t=true;rw[show(hi true t).any (jg gs)=true from mP];refine bW ?_;refine bn ?_;exact⟨by simp only[dF,fX];rw[if_neg hT,if_neg nO,if_neg pF,if_pos mP],rfl⟩;rw[show(hi true t).any (jg gs)=false by simpa[xG]using mP];refine cT ?_;refine bn ?_;exact⟨by simp only[dF,fX];rw[if_neg hT,if_neg nO,if_neg pF,if_neg mP],rfl⟩
end
end Go.Proofs.YtciibkomnoicdaaGreat
