/- Own texts: a small program logic, plain facts, walks through the program's functions. No condition. -/
import Derived.Test.YtciibkomnoicdaaGreatZ12
set_option maxRecDepth 10000
set_option maxHeartbeats 4000000
set_option linter.unusedVariables false
set_option linter.unusedSimpArgs false
set_option linter.unnecessarySimpa false
set_option linter.unusedSectionVars false
namespace Go.Proofs.YtciibkomnoicdaaGreat
open Go Lg Tryz
section
attribute [local irreducible] aK bf bJ
def encI(_:aa)(x:Int)(vs:List Value):Prop:=vs= [.int .i64 x]
def aq2(dP pre:List Int)(x:Int):Prop:=∃post,(pre++x::post).Perm dP
theorem abc{I:aa}{b mb:Nat}{xs:bU}:AD Tryz.prog 263 [.pointer (some ⟨b,0,none⟩)] I [.box b 199 [.map (some mb)],.map mb xs] encI (aq2 (xs.map (·.1))) (fun l=>l.Perm (xs.map (·.1))):=by
 intro fs J δ C5 aB aw;refine a1 func263 ntmps263 fun aG=> ?_;refine aR ?_;refine aK.IU (δ':=fun es dC=>.box b 199 [.map (some mb)]:: .obj mb (.map es dC)::δ) (fun _ _=>bc.there bc.here) ?_;intro es dC fZ;refine IV underlying199 rfl (Has.there Has.here) fZ rfl (fun Lv Bd=> ?_);refine aR ?_;refine ek (fun m aL ai δ'=>∃(pre:List Int) (left:bU) (seen:Array Nat) (gA:List ay),m=left.length∧aL= [(0,fs),(5,.pointer (some ⟨Lv,0,none⟩))]∧I.le ai∧δ'=.obj Lv (.mapIter (some mb) dC seen dC):: .box b 199 [.map (some mb)]:: .obj mb (.map es dC)::gA∧uU es dC dC seen dC xs left∧(pre++left.map (·.1)).Perm (xs.map (·.1))∧J pre ai gA) xs.length [(0,fs),(5,.pointer (some ⟨Lv,0,none⟩))] ⟨[],xs,_,δ,rfl,rfl,aa.le_refl _,rfl,Bd,List.Perm.refl _,aB⟩ ⟨rfl,rfl,trivial⟩ ?_;rintro m _ I0 _ ⟨pre,left,seen,gA,rfl,rfl,bO,rfl,eu,abd,cj⟩;refine go2 ?_;by_cases iB:left= [];refine IW iB eu rfl (Has.there (Has.there Has.here)) (fun _=>bc.here) rfl ?_;refine br ?_;exact lA rfl (⟨pre,gA,by subst iB;simpa using abd,cj,rfl⟩) (hw:=((View.drop aO.here).trans (View.Np fZ (bc.there bc.here))));refine IX iB eu rfl (Has.there (Has.there Has.here)) (fun _=>bc.here) rfl (fun l k u q iQ aA pG wD=> ?_);subst aA;have F3:(pre++k::((l++q).map (·.1))).Perm (xs.map (·.1)):=by refine List.Perm.trans ?_ abd;simp only[List.map_append,List.map_cons];exact List.Perm.append_left _ List.perm_middle.symm
 refine b_ ?_;refine aI (IY pG rfl wD (Has.there (Has.there Has.here)) Has.here) ?_;refine bg ?_;refine e8 rfl rfl rfl ((aw pre k _ _ _ ⟨_,F3⟩ bO cj rfl)) (List.perm_append_comm (l₁:= [_,_,_])) ?_;rintro wC nN aq3 mf ⟨rfl,aq4⟩;refine aK.view (View.perm (List.perm_append_comm (l₂:= [_,_,_]))) ?_;refine aZ ?_;refine cV (l++q).length [(0,fs),(5,.pointer (some ⟨Lv,0,none⟩))] (by simp) ⟨pre++ [k],l++q,iQ,aq3,rfl,rfl,aa.le_trans bO mf,rfl,pG,by rw[List.append_assoc];exact F3,aq4⟩ ⟨rfl,rfl,trivial⟩
theorem abe{I:aa}{mb:Nat}:aS Tryz.prog 249 [.map (some mb)] I [] (fun r _ δ'=>∃b,r=.func (.func 263) #[] #[.pointer (some ⟨b,0,none⟩)]∧δ'= [.box b 199 [.map (some mb)]]):=by
 refine a1 func249 ntmps249 fun aG=> ?_;refine go2 ?_;refine bw fun e2=> ?_;refine b_ ?_;exact b0 rfl rfl (⟨_,rfl,rfl⟩)
theorem aq5{I:aa}{f:FuncId}{caps:List Value}{δi:List ay}{St:List Int→Int→Prop}{Fin:List Int→Prop}(az:eb Tryz.prog f=true)(sf:AD Tryz.prog f caps I δi encI St Fin)(ha:∀pre x,St pre x→pre.length≤1000000):
 aS Tryz.prog 277 [.slice none 0 0,.func (.func f) #[] caps.toArray] I δi (fun v _ δ'=>∃l A c,Fin l∧v=.slice A l.length c∧δ'=f_ A c l::δi):=by
 refine a1 func277 ntmps277 fun aG=> ?_;refine go2 ?_;refine bw fun b2=> ?_;refine b_ ?_;refine bJ.view ((View.gh 3 1).trans (View.perm (List.perm_append_comm (l₁:= [_,_]) (l₂:=δi)))) ?_;refine Nk (δb:= [_,_]) (B:=fun l ai δ'=>∃(cX:Option Addr) (dH:Nat),δ'= [f_ cX dH l,.box b2 45 [.slice cX l.length dH]]) rfl rfl az rfl sf (by rw[←List.append_nil (δi++_)];exact List.Perm.refl _) ⟨none,0,rfl⟩ (by rintro _ _ _ rfl;rfl) (by rintro l en dV _ hle h;exact h) ?_ ?_;rintro l r hp pre x dV _ _ e1 hI ch k6 ⟨cX,dH,rfl⟩ rfl;have dr:=ha _ _ ch;refine aR ?_;refine yP e1 bc.here ?_;refine a8 ?_;refine c_ fun dk=> ?_;refine gl fun QB QC=> ?_;refine aR ?_;refine bf.view ((View.drop aO.here)) ?_;refine oc bc.here e1 hI ⟨rfl,_,rfl,QB,QC,?_⟩;simp[f_,cat,c9];rintro gR l wi _ tu pj ⟨cX,dH,rfl⟩;refine bf.view (View.perm (List.Perm.cons _ ((List.Perm.of_eq (List.append_nil _)).trans List.perm_append_comm))) ?_;refine br ?_;exact dv (rs:= [.tmp 4]) rfl (List.Perm.refl _) (.cons (.tmp rfl) .nil) (List.Sublist.cons_cons _ (List.Sublist.cons _ (List.Sublist.refl _))) ⟨l,cX,dH,pj,rfl,rfl⟩
theorem aq6{I:aa}{f:FuncId}{caps:List Value}{δi:List ay}{St:List Int→Int→Prop}{Fin:List Int→Prop}(az:eb Tryz.prog f=true)(sf:AD Tryz.prog f caps I δi encI St Fin)(ha:∀pre x,St pre x→pre.length≤1000000):
 aS Tryz.prog 262 [.func (.func f) #[] caps.toArray] I δi (fun v _ δ'=>∃l A c,Fin l∧v=.slice A l.length c∧δ'=f_ A c l::δi):=by
 refine a1 func262 ntmps262 fun aG=> ?_;refine bg ?_;refine hr rfl (aq5 az sf ha) ?_;rintro v4 Kl _ Km ⟨l,A,c,aA,rfl,rfl⟩;rw[List.append_nil];refine a8 ?_;exact b0 rfl rfl (⟨l,A,c,aA,rfl,rfl⟩) (hw:=v7)
theorem abf{I:aa}{f:FuncId}{caps:List Value}{δi:List ay}{St:List Int→Int→Prop}{Fin:List Int→Prop}(az:eb Tryz.prog f=true)(sf:AD Tryz.prog f caps I δi encI St Fin)(ha:∀pre x,St pre x→pre.length≤1000000)(BS:∀l,Fin l→l.length≤1000000000):
 aS Tryz.prog 248 [.func (.func f) #[] caps.toArray] I δi (fun v _ δ'=>∃l k A c,Fin l∧k.Perm l∧v=.slice A k.length c∧δ'=f_ A c k::δi):=by
 refine a1 func248 ntmps248 fun aG=> ?_;refine bg ?_;refine hr rfl (aq6 az sf ha) ?_;rintro v5 Zq _ Zr ⟨l,A,c,aA,rfl,rfl⟩;rw[List.append_nil];refine aZ ?_;refine eo rfl (Q8 (BS l aA)) (df.one aO.here) ?_;rintro mM je _ kA ⟨k,rfl,hk,rfl⟩;refine br ?_;exact b0 rfl rfl (⟨l,k,A,c,aA,hk,by rw[hk.length_eq];rfl,rfl⟩) (hw:=v7)
end
theorem Lg.aK.mapKeys{C:Ctx}{Q:Exit→Act→World→Prop}{σ:Env}{ds:List dN}{I:aa}{δ:List ay}{ops:Array Oper}{rest:List Oper}{b:Nat}{xs:bU}(aH:Has δ (.map b xs))(h:(xs.map (·.1)).Nodup→aK C ops Q rest σ ds I δ):aK C ops Q rest σ ds I δ:=by
 intro a w he ao ar;obtain⟨_,_,_,hm⟩:=ao.dQ _ aH.mem;exact h hm.keys a w he ao ar
theorem g6.keys{I:aa}{xs:bU}{bs:List bx}(h:g6 I xs bs)(ha:∀v u,cd bs v=some u→0≤v∧v≤255){v:Int}(ax:v∈xs.map (·.1)):(0≤v∧v<(256:Nat))∧∃u,cd bs v=some u:=by
 cases e:cd bs v with
 |none=>exact absurd ax (AG.1 ((h v).1 e))
 |some u=>exact⟨by have:=ha v u e;omega,u,rfl⟩
def zP(bs:List bx)(N:Nat)(v:Int):bx:=(v,bI (ea bs N) ((cd bs v).getD (h6 v)))
theorem abg{bs:List bx}{N:Nat}:∀{dP:List Int},(∀v∈dP,∃u,cd bs v=some u)→∀v,cd (dP.map (zP bs N)) v=if v∈dP then(cd bs v).map fun u=>bI (ea bs N) u else none
  | [],_,v=>by simp[cd]
  |k::dP,h,v=>by obtain⟨u,hu⟩:=h k (List.mem_cons_self ..);rw[List.map_cons];show cd ((k,_)::_) v=_;rw[oO,abg fun w hw=>h w (List.mem_cons_of_mem _ hw)];by_cases e:k=v;subst e;simp[hu];rw[if_neg e];simp only[List.mem_cons,Ne.symm e,false_or]
theorem aq7{I:aa}{sb mb:Nat}{xs:bU}{a b:List T}{bs:List bx}{N:Nat}(cc:g6 I xs bs)(cM:h8 a b bs [])(dM:hN bs N):
 aS Tryz.prog 230 [.pointer (some ⟨sb,0,none⟩)] I (kk sb mb xs) (fun v ai δ'=>(∃u e,v=.tuple #[u,.int .i64 e]∧((e≠0∧u=.slice none 0 0)∨(e=0∧∃out,hh ai u out∧Hc bs N out∧∀r∈out,r.2.size≤400)))∧δ'=kk sb mb xs):=by
 have ha:∀v u,cd bs v=some u→0≤v∧v≤255:=fun v u e=>⟨(cM.gT v u e).1,(cM.gT v u e).2.1⟩
 have xc:∀v u,cd bs v=some u→hM u:=fun v u e=>BL _ (cM.gT v u e).2.2;refine a1 func230 ntmps230 fun aG=> ?_;refine cT ?_;refine bh fun b5=> ?_;refine br ?_;refine a6 rfl (abe (mb:=mb)) ?_;rintro sv mi _ oD ⟨lU,rfl,rfl⟩;refine aK.mapKeys (b:=mb) (xs:=xs) cW (fun eY=> ?_);have iy:=BF 256 _ eY fun v ax=>(cc.keys ha ax).1;refine a6 rfl (abf U7 (abc (b:=lU) (mb:=mb) (xs:=xs)) (fun pre x ⟨post,h⟩=>by have:=h.length_eq;simp at this iy;omega) (fun l h=>by rw[h.length_eq];omega)) ?_;rintro w0 pL _ rG ⟨l,dP,A,c,aA,JP,rfl,rfl⟩;have q_:=JP.trans aA;have Q9:dP.length≤256:=by rw[q_.length_eq];exact iy
 have gw:∀v∈dP,(0≤v∧v<(256:Nat))∧∃u,cd bs v=some u:=fun v ax=>cc.keys ha (q_.mem_iff.1 ax);refine a_ ?_;refine bJ.view ((View.gh 354 3).trans (hS (δ':=f_ A c dP::KN none 0 0 []::mY b5 346 none [] (kk sb mb xs)))) ?_;refine fD (fun m aL ai δ'=>∃(j:Nat) (mv:Option Addr) (co:Nat) (rs:List Value) (o:Option Nat) (ms:bU),m=dP.length-j∧aL= [(0,.pointer (some ⟨sb,0,none⟩)),(4,.slice mv j co),(5,.pointer (some ⟨b5,0,none⟩)),(14,.slice A dP.length c),(15,.int .i64 dP.length),(16,.int .i64 j)]∧pL.le ai∧δ'=f_ A c dP::KN mv co j rs::mY b5 346 o ms (kk sb mb xs)∧j≤dP.length∧bd PQ ai rs ((dP.take j).map (zP bs N))∧jm nt (DY bs N) ms∧∀r∈(dP.take j).map (zP bs N),r.2.size≤400) ⟨0,none,0,[],none,[],rfl,rfl,aa.ag,rfl,Nat.zero_le _,bd.nil,jm.nil,fun r an=>by simp at an⟩ ⟨rfl,rfl,rfl,rfl,rfl,rfl,trivial⟩ ?_;rintro m _ e6 _ ⟨j,mv,co,rs,o,ms,rfl,rfl,fz,rfl,au,bm,hk,bD⟩;refine aZ ?_;refine bF rfl (fun aV=> ?_) (fun aV=> ?_);have av:j<dP.length:=by simpa using aV
 obtain⟨⟨qb,N4⟩,u,hu⟩:=gw dP[j] (List.getElem_mem av);obtain⟨JM,Lw,ru⟩:=((cc.mono (show I.le e6 from aa.ag)) dP[j]).2 u hu;refine aZ ?_;refine aK.gK Has.here ah (fun bo eR=> ?_);refine aX ?_;refine aI (gH l8 rfl Has.here bo (u1 (cs:=dP.map (Value.int .i64)) (o:=j*1) (x:=.int .i64 dP[j]) (by simp[av]))) ?_;refine aP ?_;refine aI (gG (c:= -1-dP[j]) rfl rfl rfl ah) ?_;refine aX ?_;refine eo rfl (aqW dM N (h6 dP[j]).size (h6 dP[j]) (dM.term _) (Nat.le_refl _) _ _ o ms (ba.mk _ (h6 dP[j]) (by show dZ (-1-dP[j]);unfold dZ;omega) (ed.nil _)) (cc.mono aa.ag) hk) (List.perm_append_comm (l₁:= [_,_])) ?_;rintro oE mQ _ lL ⟨p,rfl,⟨qV,tJ,aqX⟩,gx,gm,hk2,_,rfl⟩;refine aK.view (View.perm (List.perm_append_comm (l₂:= [_,_]))) ?_;refine bh fun b8=> ?_;refine aP ?_;refine aI (qh (i:=0) underlying201 rj rfl rfl (by decide)) ?_;refine aX ?_;by_cases D0:400<p.1;refine ic ?_;exact rm rfl rfl rfl (⟨⟨_,_,rfl,.inl ⟨by decide,rfl⟩⟩,rfl⟩);refine aP ?_;refine aI (qh (i:=1) underlying201 rj rfl rfl (by decide)) ?_;refine aX ?_;by_cases hJ:40<p.2;refine ic ?_;exact rm rfl rfl rfl (⟨⟨_,_,rfl,.inl ⟨by decide,rfl⟩⟩,rfl⟩);have mn:(bI (ea bs N) u).size≤400:=by rw[aa_ dM qb hu]at qV;unfold nu at qV;omega
 have abh:zP bs N dP[j]=(dP[j],bI (ea bs N) u):=by unfold zP;rw[hu];rfl
 obtain⟨c3,cK,rfl,_⟩:=ru.shape;refine fx ?_;refine aI (E3 (v:=.agg #[.int .i64 u.head,.slice c3 u.args.length cK]) underlying199 underlying3 z41 rfl rfl cW (by rw[Lw];rfl)) ?_;refine a6 rfl (aqY (mb:=mb) dM xc _ u (Nat.le_refl _) (xc _ _ hu) _ _ (ru.mono aa.ag) (cc.mono aa.ag)) ?_;rintro Ka Kb _ Gd ⟨abi,rfl⟩;obtain⟨gC,gD,rfl,_⟩:=abi.shape;refine aX ?_;refine c_ fun aq8=> ?_;refine gl fun zQ zR=> ?_;refine bg ?_;refine ec ⟨j+1,zQ,zR,_,gx,gm,rfl,rfl,aa.ag,rfl,av,by rw[List.take_succ_eq_append_getElem av,List.map_append];exact(bm.mono aa.ag).app (by rw[List.map_singleton,abh];exact bd.single ⟨by show dZ dP[j];unfold dZ;omega,_,_,rfl,abi.mono aa.ag⟩),hk2,by rw[List.take_succ_eq_append_getElem av,List.map_append];intro r an;rcases List.mem_append.1 an with an|an;(exact bD r an);(rw[List.map_singleton,List.mem_singleton,abh]at an;subst an;exact mn)⟩ ⟨rfl,rfl,rfl,rfl,rfl,rfl,trivial⟩;have bV:j=dP.length:=by simp at aV;omega
 refine aP ?_;subst bV;rw[List.take_length]at bm bD;have oS:(dP.map (zP bs N)).length=dP.length:=List.length_map ..
 have vX:Hc bs N (dP.map (zP bs N)):=fun v=>by
  rw[abg fun w hw=>(gw w hw).2];by_cases q:v∈dP;rw[if_pos q];rw[if_neg q]
  have:cd bs v=none:=by
   cases e:cd bs v with
   |none=>rfl
   |some u=>
    obtain⟨z,a2,_⟩:=(cc v).2 u e;have ab:v∈xs.map (·.1):=Classical.byContradiction fun h=>by rw[AG.2 h]at a2;cases a2
    exact absurd (q_.mem_iff.2 ab) q
  rw[this];rfl
 refine aK.dO (aO.there aO.here) ?_;rintro vl Lx Ly sO mc eV iT ep;cases mc;refine aZ ?_;exact rm rfl rfl rfl (⟨⟨_,_,rfl,.inr ⟨rfl,dP.map (zP bs N),by have:=(bm.mono sO).PR ep (by rw[oS];exact eV) (by rw[oS];omega);rw[oS]at this;exact this,vX,bD⟩⟩,rfl⟩)
section
attribute [local irreducible] aK bf bJ
theorem hh.nil(I:aa):hh I (.slice none 0 0) []:=bd.PR (bs:= []) bd.nil (fun j v au=>by simp at au) (Nat.le_refl _) (by simp)
theorem ed.one{I:aa}{t:T}{a:Option Addr}{c:Nat}{A:Option Addr}{k:Nat}(h:ba I (.agg #[.int .i64 t.head,.slice a t.args.length c]) t)(aq:Cells I A [.int .i64 t.head,.slice a t.args.length c])(hk:1≤k):ed I (.slice A 1 k) [t]:=
  bd.tC (ts:= [t]) (bd.single (E:=sH) ⟨_,_,rfl,h⟩) aq hk (by simp)
theorem aq9{I:aa}{bz cN:Value}{a b:T}(bk:ed I bz [a])(al:ed I cN [b])(gZ:a.size≤1000000)(sW:b.size≤1000000):
 aS Tryz.prog 207 [bz,cN] I [] (fun v ai δ'=>(∃u is e bs,v=.tuple #[u,.bool is,.int .i64 e]∧hh ai u bs∧lj a b bs is e)∧δ'= []):=by
 have hw:∀{x:T},x.size≤1000000→∀J u t,I.le J→ba J u t→t∈[x]→cR Tryz.prog (.func (.func 228) #[] #[]) [u] J [] (fun v _ δ'=>v=.bool (c5 t)∧δ'= []):=fun{x} af J u t cj hu ar=>by rw[List.mem_singleton]at ar;subst ar;obtain⟨c3,cK,rfl,_⟩:=hu.shape;refine aS.tc (args:= [_]) (by kernel_rfl) ?_;refine a1 func228 ntmps228 fun aG=> ?_;refine go2 ?_;refine bw fun e2=> ?_;refine aZ ?_;refine a6 rfl (wu hu ah) ?_;rintro v4 Kl _ Km ⟨rfl,rfl⟩;refine aI (kV (z:=c5 t) rfl rfl rfl) ?_;refine a8 ?_;exact b0 rfl rfl (⟨rfl,rfl⟩)
 obtain⟨rE,ac,rfl⟩:=bk.shape;obtain⟨dU,ke,rfl⟩:=al.shape;refine a1 func207 ntmps207 fun aG=> ?_;refine ic ?_;refine aI (Nv rfl rfl rfl (by simp)) ?_;refine aR ?_;refine cZ ?_;refine a6 rfl (Dk (p:=c5) bk (hw gZ)) ?_;rintro tD sr _ wo ⟨rfl,rfl⟩;by_cases hO:c5 a=true;rw[show[a].any c5=true by simp[hO]];refine iR ?_;exact k2 rfl rfl rfl rfl (⟨⟨_,_,_,[],rfl,hh.nil _,lj.none (fun h=>absurd h (by decide))⟩,rfl⟩);rw[show[a].any c5=false by simp[hO]];have bH:c2 a=0:=by simpa[c5]using hO
 refine a8 ?_;refine cZ ?_;refine a6 rfl (Dk (p:=c5) (al.mono aa.ag) (fun J u t cj=>hw sW J u t (aa.le_trans (show I.le sr from aa.ag) cj))) ?_;rintro oE mQ _ lL ⟨rfl,rfl⟩;by_cases pE:c5 b=true;rw[show[b].any c5=true by simp[pE]];refine cT ?_;exact k2 rfl rfl rfl rfl (⟨⟨_,_,_,[],rfl,hh.nil _,lj.none (fun h=>absurd h (by decide))⟩,rfl⟩);rw[show[b].any c5=false by simp[pE]];have ga:c2 b=0:=by simpa[c5]using pE
 refine bg ?_;refine tm rfl (fun w3=> ?_);refine aX ?_;refine bw fun qI=> ?_;refine br ?_;refine a6 rfl (aqz (sb:=qI) (mb:=w3) (bk.mono aa.ag) (al.mono aa.ag) bH ga) ?_;rintro v32 rr _ ss ⟨q,xs,rfl,rfl,iu,od⟩;by_cases aC:q=true;subst aC;obtain⟨bs,N,cc,cM,dM⟩:=od rfl;refine br ?_;refine a6 rfl (aq7 cc cM dM) ?_;rintro v36 QH _ aal ⟨⟨u,e,rfl,he⟩,rfl⟩;refine bA ?_;by_cases qQ:e=0;refine bg ?_
 exact k2 rfl rfl rfl rfl (by
  rcases he with⟨h,_⟩|⟨_,out,ab,ae,aF⟩
  exact absurd qQ h;subst qQ;exact⟨⟨_,_,_,out,rfl,ab,cM.ap8 dM ae (fun r an=>by have:=aF r an;omega)⟩,rfl⟩)
 refine bg ?_
 exact k2 rfl rfl rfl rfl (by
  rcases he with⟨h,rfl⟩|⟨h,_⟩
  exact⟨⟨_,_,_,[],rfl,hh.nil _,lj.none (fun h=>absurd h qQ)⟩,rfl⟩;exact absurd h qQ)
 simp only[Bool.not_eq_true]at aC;subst aC;refine cT ?_;exact k2 rfl rfl rfl rfl (⟨⟨_,_,_,[],rfl,hh.nil _,lj.none (fun _=>iu rfl)⟩,rfl⟩)
theorem Q_{I:aa}{bz cN:Value}{a b:T}(bk:ba I bz a)(al:ba I cN b)(gZ:a.size≤1000000)(sW:b.size≤1000000):
 aS Tryz.prog 169 [bz,cN] I [] (fun v ai δ'=>(∃u is e bs,v=.tuple #[u,.bool is,.int .i64 e]∧hh ai u bs∧lj a b bs is e)∧δ'= []):=by
 obtain⟨rE,ac,rfl,_⟩:=bk.shape;obtain⟨dU,ke,rfl,_⟩:=al.shape;refine a1 func169 ntmps169 fun aG=> ?_;refine go2 ?_;refine bw fun b2=> ?_;refine bw fun b3=> ?_;refine bg ?_;refine c_ fun b8=> ?_;refine aX ?_;refine c_ fun dk=> ?_;refine aK.dO (aO.there aO.here) ?_;rintro jt FB FC jJ Hl zp Dn Bs;cases Hl;refine aK.dO aO.here ?_;rintro j4 Gr Gs kB xC Pb XX Gt;cases xC;refine a6 rfl (aq9 (ed.one (bk.mono aa.ag) (Bs.mono aa.ag) (Nat.le_refl _)) (ed.one (al.mono aa.ag) Gt (Nat.le_refl _)) gZ sW) ?_;rintro v11 ry _ qE ⟨⟨u,is,e,bs,rfl,ab,ae⟩,rfl⟩;refine br ?_;exact k2 rfl rfl rfl rfl (⟨⟨u,is,e,bs,rfl,ab,ae⟩,rfl⟩)
def D1(ls rs:List T)(bs:List bx):Prop:=(∀x∈ls,c2 x=0)∧(∀y∈rs,c2 y=0)∧∀v u,cd bs v=some u→(0≤v∧v≤255)∧c2 u=0
theorem D1.gT{ls rs:List T}{bs:List bx}(h:D1 ls rs bs):∀v u,cd bs v=some u→(0≤v∧v≤255)∧c2 u=0:=h.2.2
theorem aq_{I:aa}{mb:Nat}{bz cN:Value}{p t:T}(bk:ed I bz [p])(al:ed I cN [t])(pW:c2 p=0)(abj:c2 t=0):
 aS Tryz.prog 271 [bz,cN,.map (some mb)] I [.map mb []] (fun v ai δ'=>∃q xs,v=.bool q∧δ'= [.map mb xs]∧(q=true→∃bs,g6 ai xs bs∧D1 [] [] bs∧∀θ,Ext θ bs→bI θ p=t)):=by
 obtain⟨dh,fO,fW,bM,aqu,nk,ara,Ra⟩:=bk.zm;subst bM;obtain⟨ju,iW,Pk,bM,CN,F6,arb,Rb⟩:=al.zm;subst bM;refine a1 func271 ntmps271 fun aG=> ?_;refine bg ?_;refine a6 rfl (FA (xs:=fW) (n:=1) (I:=I) ara (by rw[Ra.length];rfl) Ra.kd ah) ?_;rintro mO jK _ jf ⟨rO,rP,rfl,rfl⟩;refine aX ?_;refine a6 rfl (FA (xs:=Pk) (n:=1) (I:=jK) (arb.mono jf) (by rw[Rb.length];rfl) Rb.kd ah) ?_;rintro yd oy _ qw ⟨Bp,Bq,rfl,rfl⟩;refine aZ ?_;refine fD (fun m aL ai δ'=>∃(ls rs:List T) (la ra:Option Addr) (lc rc:Nat) (us vs:List Value) (ms:bU) (bs:List bx),m=bG ls∧aL= [(2,.map (some mb)),(7,.slice la ls.length lc),(8,.slice ra ls.length rc)]∧oy.le ai∧δ'= [wZ la ls.length lc us,wZ ra ls.length rc vs,.map mb ms]∧ls.length=rs.length∧cF ai us ls∧cF ai vs rs∧bG ls≤p.size∧bG rs≤t.size∧g6 ai ms bs∧D1 ls rs bs∧∀θ,Ext θ bs→tZ θ ls rs→bI θ p=t) ⟨[p],[t],_,_,_,_,_,_,[],[],rfl,rfl,aa.ag,rfl,rfl,(Ra.mono (show I.le oy from aa.ag)).OZ,(Rb.mono (show I.le oy from aa.ag)).OZ,by simp[bG],by simp[bG],g6.nil _,⟨by simpa using pW,by simpa using abj,fun v u h=>by simp[cd]at h⟩,fun θ _ h=>((zB (xs:= []) (ys:= []) rfl).1 h).2⟩ ⟨rfl,rfl,rfl,trivial⟩ ?_;rintro m _ e6 _ ⟨ls,rs,la,ra,lc,rc,us,vs,ms,bs,rfl,rfl,fz,rfl,iT,ht,vY,anX,anY,mW,l6,himp⟩;refine bg ?_;refine bF rfl (fun aV=> ?_) (fun aV=> ?_);rcases List.eq_nil_or_concat ls with rfl|⟨dI,x,rfl⟩
 simp at aV;rcases List.eq_nil_or_concat rs with rfl|⟨lH,y,rfl⟩
 simp at iT;rw[List.concat_eq_append]at*;rw[List.concat_eq_append]at*;have hlen:(dI++ [x]).length=dI.length+1:=by simp
 have kD:dI.length=lH.length:=by simpa using iT
 rw[hlen];obtain⟨⟨Rc,eK⟩,y8,e9⟩:=ht.last;obtain⟨⟨e3,ff⟩,u5,dJ⟩:=vY.last;rw[←kD]at u5;have xD:=ht.take;have tE:=vY.take;rw[←kD]at tE;dsimp only at y8 u5 e9 dJ;have V_:=xv dI;have Wa:=xv x.args;have FI:x.size=1+bG x.args:=by cases x;simp[T.size,T.args]
 have Pc:y.size=1+bG y.args:=by cases y;simp[T.size,T.args]
 have j9:=ot dI [x];have JE:=ot dI x.args;have PZ:=ot lH [y];have anZ:=ot lH y.args;simp only[bG,Nat.add_zero]at j9 PZ;have P0:=Bn e9;unfold dZ at P0;have zO:=l6.1 x (by simp);have yb:=l6.2.1 y (by simp);have abk:=gV zO;have abl:=gV yb;have Lz:D1 dI lH bs:=⟨fun z a2=>l6.1 z (List.mem_append_left _ a2),fun z a2=>l6.2.1 z (List.mem_append_left _ a2),l6.gT⟩
 have aza:=gV pW;have zS:=gV abj;refine a_ ?_;refine aK.gK Has.here ah (fun bo eR=> ?_);refine aK.gK (Has.there Has.here) ah (fun eJ eV=> ?_);refine go2 ?_;refine aI (gG (c:=(dI.length:Nat)) rfl rfl ah ah) ?_;refine aR ?_;refine mG (fun aL ai δ'=>∃(dk cG:Nat),aL= [(2,.map (some mb)),(7,.slice la (dI.length+1) lc),(8,.slice ra (dI.length+1) rc),(9,.int .i64 (dI.length:Nat)),(10,.pointer (some ⟨dk,0,none⟩)),(11,.pointer (some ⟨cG,0,none⟩))]∧e6=ai∧δ'=.box dk 41 [.int .i64 x.head,.slice Rc x.args.length eK]:: .box cG 41 [.int .i64 y.head,.slice e3 y.args.length ff]:: [wZ la (dI.length+1) lc us,wZ ra (dI.length+1) rc vs,.map mb ms]) ?_ ?_;refine tk (.ct 0 (.ct 1 (.ct 2 (.ct 3 (.ct 4 (.ct 5 (.ct 6 (.ct 7 (.two 8 9 (.cA 9 (.cA 10 (.cA 11 .done))) (.cA 8 (.cA 10 (.cA 11 .done)))))))))))) (fun _=>_) mixed (by kernel_rfl) (by kernel_rfl) (fun _=>fQ) ?_;refine aR ?_;refine dg rfl (gH fc rfl Has.here bo y8) ?_;refine aR ?_;refine dg rfl (gH fc rfl (Has.there Has.here) eJ u5) ?_;refine na ?_ ?_;refine bh fun dk=> ?_;refine aR ?_;refine bh fun cG=> ?_;refine br ?_;refine fU ?_;refine aX ?_;refine fS ⟨dk,cG,rfl,rfl,rfl⟩ ⟨rfl,rfl,rfl,rfl,rfl,rfl,trivial⟩;refine bh fun cG=> ?_;refine aR ?_;refine bh fun dk=> ?_;refine br ?_;refine fU ?_;refine aX ?_;refine fS ⟨dk,cG,rfl,rfl,rfl⟩ ⟨rfl,rfl,rfl,rfl,rfl,rfl,trivial⟩;rintro _ _ _ ⟨dk,cG,rfl,rfl,rfl⟩;refine aX ?_;refine eU [0,2,4,6,8,10,13,15] (fun _=> [.box dk 41 [.int .i64 x.head,.slice Rc x.args.length eK]]) (fun _=>fQ) ?_;refine go2 ?_;refine dg rfl (m7 underlying37 oq rfl rfl ah) ?_;refine go2 ?_;refine dg rfl (m7 underlying37 oq rfl rfl ah) ?_;refine aP ?_;refine dB ?_;refine a_ ?_;refine aK.view ((View.short _ (bc.there (bc.there bc.here)) (Nat.le_succ _)).trans (View.short _ (bc.there (bc.there (bc.there bc.here))) (Nat.le_succ _))) ?_;refine go2 ?_;refine aI (gG (c:= -1-x.head) rfl rfl rfl ah) ?_;refine aZ ?_;by_cases kF:0≤-1-x.head;have DI:x.head<0:=by omega
 have A5:=KZ zO x.head (by rw[←T.eta x,ji];exact List.mem_cons_self ..);have iv:∀{b'},(cd bs (-1-x.head)=none∨cd bs (-1-x.head)=some y)→b'=(-1-x.head,y)::bs→D1 dI lH b'∧∀θ,Ext θ b'→tZ θ dI lH→bI θ p=t:=fun{b'} bQ al=>by subst al;refine⟨⟨Lz.1,Lz.2.1,fun v u h=> ?_⟩,fun θ ab ae=> ?_⟩;rw[oO]at h;split at h;cases h;exact⟨by omega,yb⟩;exact l6.gT v u h;have aF:=(PT bQ).1 ab;exact himp θ aF.1 ((zB kD).2 ⟨ae,by rw[wX DI];exact aF.2⟩)
 refine bg ?_;by_cases k9:(cd bs (-1-x.head)).isSome=true;obtain⟨u,hu⟩:=Option.isSome_iff_exists.1 k9;obtain⟨JM,aM,ru⟩:=(mW (-1-x.head)).2 u hu;obtain⟨c3,cK,rfl,_⟩:=ru.shape;have azb:=gV (l6.gT _ _ hu).2;refine aI (jr (v:=.agg #[.int .i64 u.head,.slice c3 u.args.length cK]) (g:=true) underlying199 underlying3 z41 rfl rfl cW (by rw[aM];rfl) (by rw[aM];rfl)) ?_;refine aR ?_;refine bh fun ie=> ?_;refine bA ?_;refine cZ ?_;refine a6 rfl (u4 ru dJ ah ah) ?_;rintro G0 G1 _ K4 ⟨rfl,rfl⟩;by_cases rn:u=y;rw[decide_eq_true rn];refine bW ?_;refine sg underlying199 underlying3 rfl rfl rfl rfl (by repeat (first|exact bc.here|apply bc.there)) ?_;refine a_ ?_;obtain⟨du,dy⟩:=iv (.inr (by rw[hu,rn])) rfl;refine ec ⟨dI,lH,la,ra,lc,rc,_,_,_,(-1-x.head,y)::bs,rfl,rfl,aa.ag,rfl,kD,xD.mono aa.ag,tE.mono aa.ag,by omega,by omega,(mW.put dJ).mono aa.ag,du,dy⟩ ⟨rfl,rfl,rfl,trivial⟩;rw[decide_eq_false rn];refine fx ?_;exact b0 rfl rfl (⟨false,_,rfl,rfl,fun h=>(by cases h)⟩);have hu:cd bs (-1-x.head)=none:=by simpa using k9
 have aM:=(mW (-1-x.head)).1 hu;refine aI (jr (v:=.agg #[.int .i64 0,.slice none 0 0]) (g:=false) underlying199 underlying3 z41 rfl rfl cW (by rw[aM];rfl) (by rw[aM];rfl)) ?_;refine aR ?_;refine bh fun ie=> ?_;refine xq ?_;refine sg underlying199 underlying3 rfl rfl rfl rfl (by repeat (first|exact bc.here|apply bc.there)) ?_;refine a_ ?_;obtain⟨du,dy⟩:=iv (.inl hu) rfl;refine ec ⟨dI,lH,la,ra,lc,rc,_,_,_,(-1-x.head,y)::bs,rfl,rfl,aa.ag,rfl,kD,xD.mono aa.ag,tE.mono aa.ag,by omega,by omega,(mW.put dJ).mono aa.ag,du,dy⟩ ⟨rfl,rfl,rfl,trivial⟩;have GJ:¬x.head<0:=by omega
 refine cT ?_;by_cases bK:x.head≠y.head;refine xq ?_;exact b0 rfl rfl (⟨false,_,rfl,rfl,fun h=>(by cases h)⟩);refine bg ?_;by_cases aD:x.args.length≠y.args.length;refine fT ?_;exact b0 rfl rfl (⟨false,_,rfl,rfl,fun h=>(by cases h)⟩);refine aP ?_;refine eU [0,2,4,8,10,12,7,15,17,19] (fun _=> [.box dk 41 [.int .i64 x.head,.slice Rc x.args.length eK],.box cG 41 [.int .i64 y.head,.slice e3 y.args.length ff]]) (fun _=>fQ) ?_;obtain⟨_,_,_,_,Wb,Wc,FJ,FK⟩:=e9.open;obtain⟨_,_,_,_,Wd,We,FL,FM⟩:=dJ.open;obtain⟨y9,FN⟩:=cF.of FJ FK;obtain⟨mg,FO⟩:=cF.of FL FM
 have FP:x.head=y.head:=Classical.not_not.1 bK;have mN:x.args.length=y.args.length:=Classical.not_not.1 aD;refine aP ?_;refine mL rfl rfl (Src.m8 y9) (wc _ _) (yY _ _) (fun arc ard=> ?_);refine aR ?_;refine mL rfl rfl (Src.m8 mg) (wc _ _) (yY _ _) (fun are arf=> ?_);refine br ?_;refine dB ?_;refine go2 ?_;rw[←mN];have fi:dI.length+x.args.length=(dI++x.args).length:=by simp
 have fw:(dI++x.args).length=(lH++y.args).length:=by simp;omega
 rw[fi];refine ec ⟨dI++x.args,lH++y.args,arc,are,ard,arf,_,_,ms,bs,rfl,rfl,aa.ag,rfl,fw,xD.app FN,tE.app FO,by omega,by omega,mW,⟨fun z a2=>(List.mem_append.1 a2).elim (Lz.1 z) (Lo zO z),fun z a2=>(List.mem_append.1 a2).elim (Lz.2.1 z) (Lo yb z),l6.gT⟩,fun θ ab ae=>himp θ ab ((zB kD).2 ⟨((PV kD mN).1 ae).1,(YS GJ FP mN).2 ((PV kD mN).1 ae).2⟩)⟩ ⟨rfl,rfl,rfl,trivial⟩;have iB:ls= []:=by simpa using aV
 subst iB;have e1:rs= []:=List.eq_nil_of_length_eq_zero (by simpa using iT.symm);subst e1;refine bA ?_;exact b0 rfl rfl (⟨true,ms,rfl,rfl,fun _=>⟨bs,mW,l6,fun θ h=>himp θ h (PU θ)⟩⟩)
theorem Lg.arh{C:Ctx}{σ:Env}{ds:List dN}{I:aa}{δ:List ay}{t:TypeId}{x:Operand}{k:Nat}{u v:Value}(af:bp σ x=some u)(h:∀w,(Instr.field t u k).run C.P w=.ok v w):cz C σ ds I δ (.field t x k) v:=
  fun _ _ _ _ _ a w he _=>by simp only[execOp,he.cr af,Sem.run_bind,h,Result.andThen];rfl
def BT(bs:List bx)(v:Int):bx:=(v,(cd bs v).getD (h6 v))
def BU(bs:List bx)(v:Int):Bool:=decide ((BT bs v).2.head≠-1-v)
theorem abm{bs:List bx}:∀(dP:List Int) (v:Int),cd (dP.map (BT bs)) v=if v∈dP then some ((cd bs v).getD (h6 v))else none
  | [],v=>by simp[cd]
  |k::dP,v=>by rw[List.map_cons];show cd ((k,_)::_) v=_;rw[oO,abm dP v];by_cases e:k=v;subst e;simp;rw[if_neg e];simp only[List.mem_cons,Ne.symm e,false_or]
theorem ari{bs:List bx}{dP:List Int}(gw:∀v u,cd bs v=some u→v∈dP∧hM u∧0≤v):Ext (hX ((dP.filter (BU bs)).map (BT bs))) bs:=fun v u hu=>by unfold hX;obtain⟨ab,ae,aF⟩:=gw v u hu;rw[abm];by_cases q:BU bs v=true;rw[if_pos (List.mem_filter.2 ⟨ab,q⟩),hu];rfl;rw[if_neg (fun h=>q (List.mem_filter.1 h).2)];unfold BU BT at q;rw[hu]at q;simp at q;show DM v=u;rw[←T.eta u,q,ae.leaf ah];rfl
theorem arj{I:aa}{bz cN:Value}{a b:T}(bk:ed I bz [a])(al:ed I cN [b])(gZ:a.size≤1000000)(sW:b.size≤1000000):
 aS Tryz.prog 257 [bz,cN] I [] (fun v ai δ'=>(∃u is e bs,v=.tuple #[u,.bool is,.int .i64 e]∧hh ai u bs∧(∀r∈bs,r.2.size≤400)∧(is=true→e=0∧bI (hX bs) a=b))∧δ'= []):=by
 obtain⟨rE,ac,rfl⟩:=bk.shape;obtain⟨dU,ke,rfl⟩:=al.shape;refine a1 func257 ntmps257 fun aG=> ?_;refine dn ?_;refine aI (Nv rfl rfl rfl (by simp)) ?_;refine go2 ?_;refine cZ ?_;refine a6 rfl (Pa bk (by intro t ar;rw[List.mem_singleton]at ar;subst ar;omega)) ?_;rintro yd oy _ qw ⟨rfl,rfl⟩;by_cases hO:c5 a=true;rw[show[a].any c5=true by simp[hO]];refine fx ?_;exact k2 rfl rfl rfl rfl (⟨⟨_,_,_,[],rfl,hh.nil _,fun r an=>(by cases an),fun h=>(by cases h)⟩,rfl⟩);rw[show[a].any c5=false by simp[hO]];have bH:c2 a=0:=by simpa[c5]using hO
 refine aR ?_;refine cZ ?_;refine a6 rfl (Pa (al.mono aa.ag) (by intro t ar;rw[List.mem_singleton]at ar;subst ar;omega)) ?_;rintro v22 nm _ rH ⟨rfl,rfl⟩;by_cases pE:c5 b=true;rw[show[b].any c5=true by simp[pE]];refine cT ?_;exact k2 rfl rfl rfl rfl (⟨⟨_,_,_,[],rfl,hh.nil _,fun r an=>(by cases an),fun h=>(by cases h)⟩,rfl⟩);rw[show[b].any c5=false by simp[pE]];have ga:c2 b=0:=by simpa[c5]using pE
 refine bg ?_;refine tm rfl (fun wq=> ?_);refine br ?_;refine a6 rfl (aq_ (mb:=wq) (bk.mono aa.ag) (al.mono aa.ag) bH ga) ?_;rintro wx pD _ qD ⟨q,xs,rfl,rfl,od⟩;by_cases aC:q=true;subst aC;obtain⟨bs,cc,l6,bt⟩:=od rfl;have ha:∀v u,cd bs v=some u→0≤v∧v≤255:=fun v u e=>(l6.gT v u e).1;refine gk ?_;refine a6 rfl (abe (mb:=wq)) ?_;rintro xJ xK _ xL ⟨lU,rfl,rfl⟩;refine aK.mapKeys (b:=wq) (xs:=xs) cW (fun eY=> ?_);have iy:=BF 256 _ eY fun v ax=>(cc.keys ha ax).1;refine a6 rfl (abf U7 (abc (b:=lU) (mb:=wq) (xs:=xs)) (fun pre x ⟨post,h⟩=>by have:=h.length_eq;simp at this iy;omega) (fun l h=>by rw[h.length_eq];omega)) ?_;rintro v32 rr _ ss ⟨l,dP,A,c,aA,JP,rfl,rfl⟩;have q_:=JP.trans aA;have Q9:dP.length≤256:=by rw[q_.length_eq];exact iy
 have gw:∀v∈dP,(0≤v∧v<(256:Nat))∧∃u,cd bs v=some u:=fun v ax=>cc.keys ha (q_.mem_iff.1 ax);refine a_ ?_;refine bJ.view ((View.gh 354 3).trans (hS (δ':=f_ A c dP::KN none 0 0 []:: [.map wq xs]))) ?_;refine fD (fun m aL ai δ'=>∃(j:Nat) (mv:Option Addr) (co:Nat) (rs:List Value) (os:List bx),m=dP.length-j∧aL= [(7,.map (some wq)),(8,.slice mv os.length co),(32,.slice A dP.length c),(33,.int .i64 dP.length),(34,.int .i64 j)]∧rr.le ai∧δ'=f_ A c dP::KN mv co os.length rs:: [.map wq xs]∧j≤dP.length∧os=((dP.take j).filter (BU bs)).map (BT bs)∧os.length≤j∧bd PQ ai rs os∧∀r∈os,r.2.size≤400) ⟨0,none,0,[],[],rfl,rfl,aa.ag,rfl,Nat.zero_le _,by simp,Nat.le_refl _,bd.nil,fun r an=>by simp at an⟩ ⟨rfl,rfl,rfl,rfl,rfl,trivial⟩ ?_;rintro m _ e6 _ ⟨j,mv,co,rs,os,rfl,rfl,fz,rfl,au,CB,azc,bm,bD⟩;refine aZ ?_;refine bF rfl (fun c4=> ?_) (fun c4=> ?_);have av:j<dP.length:=by simpa using c4
 obtain⟨⟨qb,N4⟩,u,hu⟩:=gw dP[j] (List.getElem_mem av);obtain⟨JM,Lw,ru⟩:=((cc.mono (show pD.le e6 from aa.ag)) dP[j]).2 u hu;obtain⟨c3,cK,rfl,_⟩:=ru.shape;have abn:BT bs dP[j]=(dP[j],u):=by unfold BT;rw[hu];rfl
 have fb:(dP.take (j+1)).filter (BU bs)=(dP.take j).filter (BU bs)++(if u.head= -1-dP[j]then[]else[dP[j]]):=by rw[List.take_succ_eq_append_getElem av,List.filter_append];congr 1;unfold BU;simp only[List.filter_cons,abn,List.filter_nil];by_cases q:u.head= -1-dP[j]<;>simp[q]
 refine aZ ?_;refine aK.gK Has.here ah (fun bo eR=> ?_);refine aX ?_;refine aI (gH l8 rfl Has.here bo (u1 (cs:=dP.map (Value.int .i64)) (o:=j*1) (x:=.int .i64 dP[j]) (by simp[av]))) ?_;refine aP ?_;refine aI (E3 (v:=.agg #[.int .i64 u.head,.slice c3 u.args.length cK]) underlying199 underlying3 z41 rfl rfl cW (by rw[Lw];rfl)) ?_;refine aI (arh (v:=.int .i64 u.head) rfl (fun _=>by kernel_rfl)) ?_;refine aX ?_;refine aI (gG (c:= -1-dP[j]) rfl rfl rfl ah) ?_;by_cases LA:u.head= -1-dP[j];refine bA ?_;refine ec ⟨j+1,mv,co,rs,os,rfl,rfl,aa.ag,rfl,av,by rw[fb,if_pos LA,List.append_nil];exact CB,by omega,bm,bD⟩ ⟨rfl,rfl,rfl,rfl,rfl,trivial⟩;refine br ?_;refine aI (E3 (v:=.agg #[.int .i64 u.head,.slice c3 u.args.length cK]) underlying199 underlying3 z41 rfl rfl cW (by rw[Lw];rfl)) ?_;refine aX ?_;refine c_ fun azd=> ?_;refine gl fun abo abp=> ?_;refine bg ?_;have fi:os.length+1=(os++ [(dP[j],u)]).length:=by simp
 rw[fi];refine ec ⟨j+1,abo,abp,_,os++ [(dP[j],u)],rfl,rfl,aa.ag,rfl,av,by rw[fb,if_neg LA,List.map_append,List.map_singleton,abn,CB],by simp;omega,bm.app (bd.single ⟨by show dZ dP[j];unfold dZ;omega,_,_,rfl,ru⟩),by intro r an;rcases List.mem_append.1 an with an|an;(exact bD r an);(rw[List.mem_singleton]at an;subst an;exact gV (l6.gT _ _ hu).2)⟩ ⟨rfl,rfl,rfl,rfl,rfl,trivial⟩;have bV:j=dP.length:=by simp at c4;omega
 refine aP ?_;subst bV;rw[List.take_length]at CB;refine aK.dO (aO.there aO.here) ?_;rintro vl Lx Ly sO mc eV iT ep;cases mc
 have ark:Ext (hX os) bs:=by
  rw[CB];refine ari fun v u hu=>⟨?_,BL _ (l6.gT v u hu).2,(l6.gT v u hu).1.1⟩
  obtain⟨z,a2,_⟩:=(cc v).2 u hu;exact q_.mem_iff.2 (Classical.byContradiction fun h=>by rw[AG.2 h]at a2;cases a2)
 refine aP ?_;exact k2 rfl rfl rfl rfl (⟨⟨_,_,_,os,rfl,(bm.mono sO).PR ep eV ah,bD,fun _=>⟨rfl,bt _ ark⟩⟩,rfl⟩);simp only[Bool.not_eq_true]at aC;subst aC;refine cT ?_;exact k2 rfl rfl rfl rfl (⟨⟨_,_,_,[],rfl,hh.nil _,fun r an=>(by cases an),fun h=>(by cases h)⟩,rfl⟩)
theorem arl{I:aa}{bz cN:Value}{a b:T}(bk:ba I bz a)(al:ba I cN b)(gZ:a.size≤1000000)(sW:b.size≤1000000):
 aS Tryz.prog 242 [bz,cN] I [] (fun v ai δ'=>(∃u is e bs,v=.tuple #[u,.bool is,.int .i64 e]∧hh ai u bs∧(∀r∈bs,r.2.size≤400)∧(is=true→e=0∧bI (hX bs) a=b))∧δ'= []):=by
 obtain⟨rE,ac,rfl,_⟩:=bk.shape;obtain⟨dU,ke,rfl,_⟩:=al.shape;refine a1 func242 ntmps242 fun aG=> ?_;refine go2 ?_;refine bw fun b2=> ?_;refine bw fun b3=> ?_;refine bg ?_;refine c_ fun b8=> ?_;refine aX ?_;refine c_ fun dk=> ?_;refine aK.dO (aO.there aO.here) ?_;rintro jt FB FC jJ Hl zp Dn Bs;cases Hl;refine aK.dO aO.here ?_;rintro j4 Gr Gs kB xC Pb XX Gt;cases xC;refine a6 rfl (arj (ed.one (bk.mono aa.ag) (Bs.mono aa.ag) (Nat.le_refl _)) (ed.one (al.mono aa.ag) Gt (Nat.le_refl _)) gZ sW) ?_;rintro v11 ry _ qE ⟨⟨u,is,e,bs,rfl,ab,ae,aF⟩,rfl⟩;refine br ?_;exact k2 rfl rfl rfl rfl (⟨⟨u,is,e,bs,rfl,ab,ae,aF⟩,rfl⟩)
def ef(c:List ak):Prop:=c.length≤40∧∀x∈c,x.l.size≤400∧x.r.size≤400
section
variable {c d:List ak} {bs:List bx} {gs:List aE}
theorem ef.jx(h:ef c):hK c:=fun x af=>by have:=h.2 x af;omega
theorem ef.BV(h:ef c):∀x∈c,x.l.size≤500∧x.r.size≤500:=fun x af=>by have:=h.2 x af;omega
theorem ef.sub(h:ef c)(ao:d.Sublist c):ef d:=⟨Nat.le_trans ao.length_le h.1,fun x af=>h.2 x (ao.subset af)⟩
theorem abq:∀{c:List ak},(∀x∈c,x.l.size≤400∧x.r.size≤400)→bG (bE c)≤c.length*800
  | [],_=>by simp[bE,bG]
  |x::c,h=>by
   have ab:=h x (List.mem_cons_self ..);have ae:=abq fun y aw=>h y (List.mem_cons_of_mem _ aw);have e:bE (x::c)=x.l::x.r::bE c:=by simp[bE]
   rw[e];simp only[bG,List.length_cons];omega
theorem ef.zT(h:ef c):bG (bE c)≤100000:=by have:=abq h.2;have:=h.1;omega
theorem ef.cw(h:bS gs c=0):ef c:=by
 obtain⟨_,ab,ae⟩:=xQ h;exact⟨by omega,fun x af=>by obtain⟨ij,gx⟩:=ld (ae x af);exact⟨gV ij.cw,gV gx.cw⟩⟩
theorem arn{ys:List ak}(h:iI bs c 0 ys):c.length≤32∧∀x∈ys,KY x:=by
 rcases h with⟨_,h,_⟩|⟨aA,⟨_,_,_,_,_,_,h,_⟩|⟨_,ab,ae⟩⟩
 cases h;exact absurd rfl h;refine⟨aA,fun x af=> ?_⟩;obtain⟨i,aj,rfl⟩:=List.getElem_of_mem af;exact(Qx (ae i ah aj)).2.1
theorem ef.out{ys:List ak}(h:iI bs c 0 ys):ef ys:=by
 obtain⟨ab,ae⟩:=arn h;refine⟨by rw[(vv h).1];omega,fun x af=>⟨gV (ae x af).1,gV (ae x af).2⟩⟩
theorem ef.tidy(h:ef c):ef (eH c):=by
 obtain⟨d,ab,ae⟩:=Lc c [];have:eH c=d:=by unfold eH;rw[ab];rfl
 rw[this];exact h.sub ae
theorem ef.norm(h:ef c):hK (eh c):=aoY (by have:=aoZ c;have:=h.zT;omega)
end
def jR:kH 5 (List ak) where
  R:=fun I d vs=>∃(a:Option Addr) (k:Nat) (i j:Int) (dh:Option Addr) (vx vy:Nat) (dU:Option Addr) (Hm ik:Nat),vs= [.slice a d.length k,.int .i64 i,.int .i64 j,.slice dh vx vy,.slice dU Hm ik]∧cf I (.slice a d.length k) d
  len:=by rintro I a vs ⟨_,_,_,_,_,_,_,_,_,_,rfl,_⟩;rfl
  one:=by rintro I a vs ⟨_,_,_,_,_,_,_,_,_,_,rfl,_⟩ u hu;simp only[List.mem_cons,List.not_mem_nil,or_false]at hu;rcases hu with rfl|rfl|rfl|rfl|rfl<;>rfl
  mono:=by rintro I J a vs aA ⟨eQ,k,i,j,dh,vx,vy,dU,Hm,ik,rfl,h⟩;exact⟨eQ,k,i,j,dh,vx,vy,dU,Hm,ik,rfl,h.mono aA⟩
abbrev zU(A:Option Addr)(c n:Nat)(xs:List Value):ay:=.row (.slice A n c) 204 5 n xs
abbrev BW(mb:Nat)(vg bB:Value)(how:Int)(A:Option Addr)(k n:Nat)(xs:List Value)(lost:Int):List ay:= [.box mb 209 [.slice A n k,.int .i64 lost,vg,bB,.int .i64 how],zU A k n xs]
def Kept(gs:List aE)(bs:List bx)(c:List ak)(ds:List (List ak))(lost:Int)(c0:List (List ak))(eD:Int):Prop:=
  (c0=ds∧eD=lost+1)∨(eD=lost∧∃ws,iI bs c 0 ws∧(bE (eH ws)).any c5=false∧bS gs (eh (eH ws))=0∧c0=ds++ [eh (eH ws)])
theorem zV{I:aa}{mb:Nat}{abr:TypeId}{v a b d:Value}{n:Int}(aB:0≤n)(aD:n≤1000000000):
 aS Tryz.prog 170 [.pointer (some ⟨mb,0,none⟩)] I [.box mb abr [v,.int .i64 n,a,b,d]] (fun r _ δ'=>r=.tuple #[]∧δ'= [.box mb abr [v,.int .i64 (n+1),a,b,d]]):=by
 refine a1 func170 ntmps170 fun aG=> ?_;refine b_ ?_;exact lA rfl (⟨rfl,rfl⟩)
theorem LB {I:aa} {mb:Nat} {vg bB dD cN:Value} {how lost:Int} {A:Option Addr} {k:Nat} {xs:List Value} {gs:List aE} {c:List ak} {bs:List bx} {ds:List (List ak)} {i j:Int} {dh:Option Addr} {vx vy:Nat} {oi:Option Addr} {ou uZ:Nat}
 (aM:cP I vg gs) (aH:cf I dD c) (al:hh I cN bs) (fu:∀b∈bs,b.2.size≤500) (aq:ef c) (aB:0≤lost) (aA:lost≤100000000) (uc:ds.length≤100000000) (an:bd jR I xs ds):
 aS Tryz.prog 172 [.pointer (some ⟨mb,0,none⟩),dD,.agg #[.slice oi ou uZ,.int .i64 i,.int .i64 j,.slice dh vx vy,cN]] I (BW mb vg bB how A k ds.length xs lost) (fun v ai δ'=>∃c7 cB xs' c0 eD,v=.tuple #[]∧Kept gs bs c ds lost c0 eD∧bd jR ai xs' c0∧δ'=BW mb vg bB how c7 cB c0.length xs' eD):=by
 obtain⟨dU,ik,rfl⟩:=al.shape;obtain⟨cU,Re,rfl⟩:=aH.shape;refine a1 func172 ntmps172 fun aG=> ?_;refine go2 ?_;refine bw fun b5=> ?_;refine aP ?_;refine a6 rfl (K_ al aH fu aq.BV) ?_;rintro wC nN _ mf ⟨⟨e,ys,r,rfl,dJ,kS⟩,rfl⟩;refine bA ?_;by_cases jh:e=0;subst jh;have c4:=ef.out kS;refine aZ ?_;refine a6 rfl (Gi dJ c4.jx) ?_;rintro tD sr _ wo ⟨kE,rfl⟩;refine a6 rfl (Gq kE c4.tidy.zT) ?_;rintro v20 vb _ tI ⟨hO,rfl⟩;refine aX ?_;rcases hO with⟨wO,rfl⟩|⟨xO,Gg,Rf,rfl,hO⟩
 refine NP ?_;refine a6 rfl (zV aB ah) ?_;rintro Bk Bl _ Bm ⟨rfl,rfl⟩;refine a8 ?_;exact jG rfl (⟨A,k,xs,ds,lost+1,rfl,.inl ⟨rfl,rfl⟩,an.mono aa.ag,rfl⟩);refine fx ?_;refine cZ ?_;refine a6 rfl (rJ (aM.mono aa.ag) hO c4.tidy.norm) ?_;rintro xJ xK _ xL ⟨rfl,rfl⟩;by_cases hJ:bS gs (eh (eH ys))≠0;refine b_ ?_;refine a6 rfl (zV aB ah) ?_;rintro Bk Bl _ Bm ⟨rfl,rfl⟩;refine a8 ?_;exact jG rfl (⟨A,k,xs,ds,lost+1,rfl,.inl ⟨rfl,rfl⟩,an.mono aa.ag,rfl⟩);have pg:(eh (eH ys)).length=(eH ys).length:=by obtain⟨_,_,e⟩:=dK.shape hO;injection e with _ e;exact e.symm
 refine dn ?_;refine eU [0,2,4,6,8,10,12,15,17,18,20,22,25] (two 9 [.box b5 204 [.slice Gg (eH ys).length Rf,.int .i64 i,.int .i64 j,.slice dh vx vy,.slice dU bs.length ik],.box mb 209 [.slice A ds.length k,.int .i64 lost,vg,bB,.int .i64 how]] []) (xg fQ fQ) ?_;refine bg ?_;refine c_ fun an7=> ?_;refine aX ?_;refine C2 ?_;refine aX ?_;refine gl fun abt abu=> ?_;refine aX ?_;refine C2 ?_;refine aZ ?_;refine xr ?_;refine aX ?_;exact lA rfl (⟨abt,abu,_,ds++ [eh (eH ys)],lost,rfl,.inr ⟨rfl,ys,kS,xO,Classical.not_not.1 hJ,rfl⟩,(an.mono aa.ag).app (bd.single ⟨_,_,_,_,_,_,_,_,_,_,by rw[pg],by rw[pg];exact hO.mono aa.ag⟩),by rw[List.length_append]⟩);refine NP ?_;refine a6 rfl (zV aB ah) ?_;rintro Bk Bl _ Bm ⟨rfl,rfl⟩;refine a8 ?_;exact jG rfl (⟨A,k,xs,ds,lost+1,rfl,.inl ⟨rfl,rfl⟩,an.mono aa.ag,rfl⟩)
end
section
variable {gs:List aE} {w:YF} (bL:anC gs w) {Is:Int→Int}
include bL
end
mutual
theorem abv{gs:List aE}{θ:Int→T}:∀(t:T),b9 gs t→b9 gs (bI θ t)→(t.head<0→cy gs (bI θ t)=false)→∀k∈cq t,k<0→b9 gs (θ (-1-k))∧cy gs (θ (-1-k))=false
  |.mk h us,od,mS,ax,k,hk,aB=>by
   rw[ji]at hk;rw[pR]at mS ax;by_cases q:h<0;rw[if_pos q]at mS ax;have aA:us= []:=od.leaf q;subst aA;rcases List.mem_cons.1 hk with rfl|hk
   exact⟨mS,ax q⟩;simp at hk;rw[if_neg q]at mS;rcases List.mem_cons.1 hk with rfl|hk
   omega;exact abw us (fun i aj=>(od.child i aj).1) (fun i aj=>⟨(mS.child i aj).1,KK mS i aj⟩) k hk aB
theorem abw{gs:List aE}{θ:Int→T}:∀(ts:List T),(∀i (aj:i<ts.length),b9 gs ts[i])→(∀i (aj:i<(fN θ ts).length),b9 gs (fN θ ts)[i]∧cy gs (fN θ ts)[i]=false)→∀k∈ts.flatMap cq,k<0→b9 gs (θ (-1-k))∧cy gs (θ (-1-k))=false
  | [],_,_,k,hk,_=>by simp at hk
  |t::r,od,h,k,hk,aB=>by
   have e:fN θ (t::r)=bI θ t::fN θ r:=rfl;rw[List.flatMap_cons]at hk;rcases List.mem_append.1 hk with hk|hk
   have ab:=h 0 (by rw[e];simp);simp only[e,List.getElem_cons_zero]at ab;have ae:=od 0 (by simp);exact abv t ae ab.1 (fun _=>ab.2) k hk aB;refine abw r (fun i aj=>by have:=od (i+1) (by simpa using aj);simpa using this) (fun i aj=> ?_) k hk aB;have ab:=h (i+1) (by rw[e];simpa using aj);simp only[e,List.getElem_cons_succ]at ab;exact ab
end
theorem abx{gs:List aE}(h:mh gs=true){t:T}(aB:t.head=0):cy gs t=true:=by
 obtain⟨aA,_⟩:=Dd h
 cases gs with
 |nil=>simp at aA
 |cons x r=>
  simp only[mh,Bool.and_eq_true]at h;have gF:x.jH=true:=by have:=h.2.1;unfold qs at this;simp only[Bool.and_eq_true]at this;simp_all[pC]
  unfold cy wz;rw[aB];simp[gF]
theorem aby{gs:List aE}{x:ak}(h:ee gs x=0):(sN x=false→cy gs x.l=false∧cy gs x.r=false)∧(sN x=true→¬x.l.head<0∧¬x.r.head<0):=by
 obtain⟨ab,ae⟩:=ld h;have ao:mT gs x=false:=by unfold ee at h;split at h;rename_i q;exact absurd h q;split at h;rename_i q;exact absurd h q;split at h;cases h;rename_i q;simpa using q
 unfold mT at ao;simp only[Bool.or_eq_false_iff,Bool.and_eq_false_iff,Bool.not_eq_false',decide_eq_false_iff_not,ne_eq,Classical.not_not]at ao;obtain⟨aQ,aT⟩:=ao;have neg:∀{t:T},t.head<0→cy gs t=false:=fun ar=>by unfold cy;rw[decide_eq_false ah];rfl
 constructor;intro hk;unfold sN at hk;rw[Bool.or_eq_false_iff,decide_eq_false_iff_not,decide_eq_false_iff_not]at hk;cases q:cy gs x.l;refine⟨rfl,?_⟩;rcases aT with e|e
 rw[q]at e;cases e;exact e;rcases aQ with e|e
 rw[q]at e;cases e;exact absurd e hk.2;intro hk;unfold sN at hk;rw[Bool.or_eq_true,decide_eq_true_eq,decide_eq_true_eq]at hk
 have aA:cy gs x.l=true:=by
  rcases hk with k|k
  exact abx ab.right k;have:=abx ab.right k;rcases aT with e|e
  exact e;rw[this]at e;cases e
 have an:x.r.head=0:=by
  rcases aQ with e|e
  rw[aA]at e;cases e;exact e
 exact⟨fun q=>(by rw[neg q]at aA;cases aA),by omega⟩
open Classical in
noncomputable def rV(gs:List aE)(γ:Int→G)(θ:Int→T)(v:Int):G:=if 0≤v∧mU gs (inst γ (θ v))then inst γ (θ v)else γ v
theorem LC{gs:List aE}{γ:Int→G}(bl:dw gs γ)(θ:Int→T):dw gs (rV gs γ θ):=fun v=>by unfold rV;split;rename_i h;exact h.2;exact bl v
theorem D2{gs:List aE}{γ:Int→G}(bl:dw gs γ){θ:Int→T}{t:T}(h:b9 gs t)(ae:b9 gs (bI θ t))(ax:t.head<0→cy gs (bI θ t)=false):inst (rV gs γ θ) t=inst γ (bI θ t):=by
 rw[DG];refine xW t fun k hk aB=> ?_;obtain⟨o,q⟩:=abv t h ae ax k hk aB;unfold rV;rw[if_pos ⟨by omega,PL bl _ _ (Nat.le_refl _) o q⟩]
theorem abz{gs:List aE}{γ:Int→G}(bl:dw gs γ){θ:Int→T}{a l:ak}(bk:ee gs a=0)(aA:ee gs l=0)(h:zA θ a l)(n:Bool):fC (aU gs) n (inst (rV gs γ θ) a.l) (inst (rV gs γ θ) a.r)=fC (aU gs) n (inst γ l.l) (inst γ l.r):=by
 obtain⟨hk,h⟩:=h;obtain⟨dW,fm⟩:=ld bk;obtain⟨pk,ql⟩:=ld aA;have tU:=aby bk;have zn:=aby aA
 have ax:∀(x:T),(x=a.l∨x=a.r)→x.head<0→cy gs l.l=false∧cy gs l.r=false:=fun x af aB=>by
  cases q:sN a with
  |true=>
    have:=tU.2 q
    rcases af with rfl|rfl
    · exact absurd aB this.1
    · exact absurd aB this.2
  |false=>exact zn.1 (by rw[←hk];exact q)
 rcases h with⟨aQ,aT⟩|⟨aQ,aT⟩
 rw[D2 bl dW (by rw[aQ];exact pk) (fun aB=>by rw[aQ];exact(ax _ (.inl rfl) aB).1),D2 bl fm (by rw[aT];exact ql) (fun aB=>by rw[aT];exact(ax _ (.inr rfl) aB).2),aQ,aT];rw[D2 bl dW (by rw[aQ];exact ql) (fun aB=>by rw[aQ];exact(ax _ (.inl rfl) aB).2),D2 bl fm (by rw[aT];exact pk) (fun aB=>by rw[aT];exact(ax _ (.inr rfl) aB).1),aQ,aT,xS]
theorem aro{gs:List aE}{γ:Int→G}(bl:dw gs γ){θ:Int→T}{a l:ak}(bk:ee gs a=0)(aA:ee gs l=0)(aD:l.neg=a.neg)(h:zA θ a l):cL (aU gs) (rV gs γ θ) a=cL (aU gs) γ l:=by
 unfold cL;rw[abz bl bk aA h,aD]
theorem Rg{gs:List aE}{γ:Int→G}(bl:dw gs γ){θ:Int→T}{d:List ak}(aH:∀x∈d,ee gs x=0):∀{c:List ak} {gO:List Nat},(∀x∈c,ee gs x=0)→GU θ d c gO→bC (aU gs) (rV gs γ θ) c=gO.map fun j=>cL (aU gs) γ (d.getD j ck)
  | [],[],_,_=>rfl
  |a::r,k::gO,aq,h=>by obtain⟨⟨hk,aD,hm⟩,ae⟩:=h;have aY:=Rg bl aH (fun x af=>aq x (List.mem_cons_of_mem _ af)) ae;unfold bC at aY⊢;rw[List.map_cons,List.map_cons,aY,g8 hk,aro bl (aq _ (List.mem_cons_self ..)) (aH _ (List.getElem_mem hk)) aD hm]
  | [],_::_,_,h=>h.elim
  |_::_,[],_,h=>h.elim
theorem arp{α:Type}[Inhabited α](f:ak→α):∀(d:List ak) (gO:List Nat),gO.Nodup→(∀j∈gO,j<d.length)→∃e,(d.map f).Perm ((gO.map fun j=>f (d.getD j ck))++e):=by
 intro d gO;have aH:∀j,j<d.length→f (d.getD j ck)=((d.map f).getD j default):=fun j au=>by rw[g8 au,List.getD_eq_getElem?_getD,List.getElem?_map,List.getElem?_eq_getElem au];rfl
 intro aD au;have an:(List.range d.length).map (fun j=>f (d.getD j ck))=d.map f:=by refine List.ext_getElem (by simp) fun i ab ae=> ?_;rw[List.getElem_map,List.getElem_map,List.getElem_range,g8 (by simpa using ae)]
 have bT:∃e,(List.range d.length).Perm (gO++e):=by refine⟨(List.range d.length).filter fun j=>decide (j∉gO),?_⟩;refine(List.perm_ext_iff_of_nodup List.nodup_range ?_).2 fun j=> ?_;rw[List.nodup_append];exact⟨aD,List.nodup_range.filter _,fun a bk b al e=>by subst e;have:=(List.mem_filter.1 al).2;simp at this;exact this bk⟩;rw[List.mem_append,List.mem_filter,List.mem_range];constructor;intro h;by_cases q:j∈gO;exact .inl q;exact .inr ⟨h,by simpa using q⟩;rintro(h|h);exact au j h;exact h.1
 obtain⟨e,he⟩:=bT;refine⟨e.map fun j=>f (d.getD j ck),?_⟩;rw[←an,←List.map_append];exact he.map _
theorem arq{gs:List aE}{γ:Int→G}(bl:dw gs γ){c d:List ak}(aq:∀x∈c,ee gs x=0)(aH:∀x∈d,ee gs x=0)(h:Sub c d):∃γ',dw gs γ'∧∃e,(bC (aU gs) γ d).Perm (bC (aU gs) γ' c++e):=by
 obtain⟨θ,gO,ab,ae⟩:=aox.1 h;have:Inhabited e5:=⟨⟨false,.mk 0 [],.mk 0 []⟩⟩
 obtain⟨e,he⟩:=arp (cL (aU gs) γ) d gO ae (KX ab);exact⟨rV gs γ θ,LC bl θ,e,by rw[Rg bl aH aq ab];exact he⟩
theorem abA{gs:List aE}{γ:Int→G}(bl:dw gs γ){c d:List ak}(aq:∀x∈c,ee gs x=0)(aH:∀x∈d,ee gs x=0)(h:Sub c d):eT gs (fun C=>C=c) (bC (aU gs) γ d):=by
 obtain⟨γ',ab,e,he⟩:=arq bl aq aH h;refine eT.of (eT.self (S:=fun C=>C=c) rfl ab) (Yw he) fun E _ ⟨x,af,ar⟩=>⟨x,he.mem_iff.2 (List.mem_append_left _ af),ar⟩
theorem ars{gs:List aE}{c d:List ak}{i k:Nat}(aq:∀x∈c,ee gs x=0)(aH:∀x∈d,ee gs x=0)(h:vq c d i k){E:G→G→Prop}(bt:iG E)(ab:∀γ,dw gs γ→gY E (bC (aU gs) γ c))(ae:∀γ,dw gs γ→gY E (bC (aU gs) γ d)):∀γ,dw gs γ→gY E (bC (aU gs) γ (d.eraseIdx k)):=fun γ bl=>by
 obtain⟨aj,hk,cu,θ,hm,ao⟩:=h;obtain⟨gO,dW,fm,a3⟩:=GV.1 ao
 have xN:∀j∈gO,j≠k:=fun j au q=>by
  have:=a3 j au;subst q;have aA:j<(jl d.length).length:=by unfold jl;simpa using hk
  rw[List.getElem?_set_self aA]at this;cases this
 obtain⟨y,aw,ar⟩:=ae γ bl;rcases List.mem_cons.1 ((vi (w:=aU gs) (γ:=γ) hk).mem_iff.1 aw)with rfl|aw
 obtain⟨z,a2,nH⟩:=ab _ (LC bl θ);rcases List.mem_cons.1 ((vi (w:=aU gs) (γ:=rV gs γ θ) aj).mem_iff.1 a2)with rfl|a2
 exfalso;unfold cL at ar nH;rw[abz bl (aq _ (List.getElem_mem aj)) (aH _ (List.getElem_mem hk)) hm,kJ bt]at nH;rw[kJ bt]at ar;cases dj:c[i].neg<;>cases cY:d[k].neg;exact cu (by rw[dj,cY]);rw[dj]at nH;rw[cY]at ar;simp only[if_true,Bool.false_eq_true,if_false]at ar nH;exact ar nH;rw[dj]at nH;rw[cY]at ar;simp only[if_true,Bool.false_eq_true,if_false]at ar nH;exact nH ar;exact cu (by rw[dj,cY]);rw[Rg bl aH (fun x af=>aq x (List.mem_of_mem_eraseIdx af)) dW]at a2;obtain⟨j,au,rfl⟩:=List.mem_map.1 a2;have iA:=KX dW j au;rw[g8 iA]at nH;exact⟨_,List.mem_map_of_mem (PO iA (xN j au)),nH⟩;exact⟨y,aw,ar⟩
theorem abB{gs:List aE}{d:List ak}{E:G→G→Prop}(bt:iG E){γ:Int→G}(h:(∃x∈d,x.neg=false∧x.l=x.r)∨∃x∈d,∃y∈d,sG x y=true):gY E (bC (aU gs) γ d):=by
 rw[G7];rcases h with⟨x,af,ab,ae⟩|⟨x,af,y,aw,h⟩
 refine⟨x,af,?_⟩;unfold cL;rw[kJ bt,ab,if_neg (by decide),ae];exact bt.rfl _;unfold sG at h;rw[Bool.and_eq_true,Bool.not_eq_true']at h;obtain⟨ab,ae⟩:=h;have cu:x.neg≠y.neg:=fun e=>by rw[e]at ab;simp at ab
 have he:fC (aU gs) y.neg (inst γ x.l) (inst γ x.r)=fC (aU gs) y.neg (inst γ y.l) (inst γ y.r):=by
  rcases Xy.1 ae with⟨aQ,aT⟩|⟨aQ,aT⟩
  rw[aQ,aT];rw[aQ,aT,xS]
 by_cases q:sK E (cL (aU gs) γ x);exact⟨x,af,q⟩;refine⟨y,aw,?_⟩;unfold cL at q⊢;rw[←he,kJ bt];rw[kJ bt]at q;cases dj:x.neg<;>cases cY:y.neg;exact absurd (by rw[dj,cY]) cu;rw[dj]at q;simpa using q;rw[dj]at q;simpa using q;exact absurd (by rw[dj,cY]) cu
def lV(gs:List aE)(rows:List (List ak))(c d:List ak):Prop:=∀γ,dw gs γ→kI (aU gs) (bC (aU gs) γ d) (bC (aU gs) γ c)∧
  ∀E,iG E→(∀R∈rows,∀γ',dw gs γ'→kI (aU gs) (bC (aU gs) γ' R) (bC (aU gs) γ c)→gY E (bC (aU gs) γ' R))→gY E (bC (aU gs) γ d)→gY E (bC (aU gs) γ c)
def mZ(gs:List aE)(rows:List (List ak))(c d:List ak):Prop:=∀E,iG E→(∀R∈rows,∀γ,dw gs γ→gY E (bC (aU gs) γ R))→(∀γ,dw gs γ→gY E (bC (aU gs) γ c))→∀γ,dw gs γ→gY E (bC (aU gs) γ d)
theorem lV.refl(gs:List aE)(rows:List (List ak))(c:List ak):lV gs rows c c:=fun _ _=>⟨.refl _,fun _ _ _ h=>h⟩
theorem mZ.refl(gs:List aE)(rows:List (List ak))(c:List ak):mZ gs rows c c:=fun _ _ _ h=>h
theorem lV.trans{gs:List aE}{rows:List (List ak)}{c d e:List ak}(h:lV gs rows c d)(k:lV gs rows d e):lV gs rows c e:=fun γ bl=>by obtain⟨ab,ae⟩:=h γ bl;obtain⟨c8,b6⟩:=k γ bl;exact⟨c8.trans ab,fun E bt an ar=>ae E bt an (b6 E bt (fun R bL γ' kj aA=>an R bL γ' kj (aA.trans ab)) ar)⟩
theorem mZ.trans{gs:List aE}{rows:List (List ak)}{c d e:List ak}(h:mZ gs rows c d)(k:mZ gs rows d e):mZ gs rows c e:=fun E bt an aq=>k E bt an (h E bt an aq)
theorem lV.tidy(gs:List aE)(rows:List (List ak))(c:List ak):lV gs rows c (eH c):=fun γ _=>⟨Qz c,fun E bt _ h=>(Ld bt c).1 h⟩
theorem mZ.tidy(gs:List aE)(rows:List (List ak))(c:List ak):mZ gs rows c (eH c):=fun E bt _ h γ bl=>(Ld bt c).2 (h γ bl)
theorem lV.part{gs:List aE}{rows:List (List ak)}{c:List ak}(k:Nat):lV gs rows c (c.eraseIdx k):=fun γ _=>by have ao:(c.eraseIdx k).Sublist c:=List.eraseIdx_sublist ..;refine⟨aae ao,fun E _ _ h=> ?_⟩;rw[G7]at h⊢;obtain⟨x,af,h⟩:=h;exact⟨x,ao.subset af,h⟩
theorem mZ.cut{gs:List aE}{rows:List (List ak)}{r d:List ak}{i k:Nat}(an:r∈rows)(ab:∀x∈r,ee gs x=0)(ae:∀x∈d,ee gs x=0)(h:vq r d i k):mZ gs rows d (d.eraseIdx k):=fun E bt bL aH=>
  ars ab ae h bt (bL r an) aH
structure BX(gs:List aE)(e:ak)(c d:List ak)(i:Nat)(b b':Bool)(p:List Int)(u r:T)(θ:Int→T):Prop where
  aj:i<c.length
  pos:e.neg=false
  Rh:ee gs e=0
  ya:∀x∈c,ee gs x=0
  at_:cO (aJ b' (c.getD i ck)) p=some u
  el:bI θ (aJ b e)=u
  vz:bI θ (aJ (!b) e)=r
  sort:cy gs (aJ b e)=cy gs u
  BI:ee gs ⟨false,u,r⟩=0
  gt:eL gs u r=1
  less:tT gs c [⟨false,u,r⟩]=1
  d:d=c.set i (lT (c.getD i ck) b' p r)
section
variable {gs:List aE} {e:ak} {c d:List ak} {i:Nat} {b b':Bool} {p:List Int} {u r:T} {θ:Int→T}
theorem Ri(h:BX gs e c d i b b' p u r θ){γ:Int→G}(bl:dw gs γ):bC (aU gs) (rV gs γ θ) [e]= [fC (aU gs) false (inst γ u) (inst γ r)]:=by
 obtain⟨ij,gx⟩:=ld h.BI;have ao:=PK h.BI;have s1:=YG h.Rh b;have aQ:inst (rV gs γ θ) (aJ b e)=inst γ u:=by rw[D2 bl (gB h.Rh b) (by rw[h.el];exact ij) (fun aB=>by rw[h.el,←h.sort];unfold cy;rw[decide_eq_false ah];rfl),h.el]
 have aT:inst (rV gs γ θ) (aJ (!b) e)=inst γ r:=by rw[D2 bl (gB h.Rh _) (by rw[h.vz];exact gx) (fun aB=>by rw[h.vz];have kt:cy gs u=cy gs r:=ao;rw[←kt,←h.sort,←s1];unfold cy;rw[decide_eq_false ah];rfl),h.vz]
 show[cL _ _ e]=_;rw[pQ _ b,h.pos,aQ,aT]
theorem Rj(h:BX gs e c d i b b' p u r θ)(γ:Int→G):bC (aU gs) γ d=(bC (aU gs) γ c).set i (fC (aU gs) (c.getD i ck).neg (hL γ (aJ b' (c.getD i ck)) p (inst γ r)) (inst γ (aJ (!b') (c.getD i ck)))):=by
 have aA:=h.ya (c.getD i ck) (by rw[g8 h.aj];exact List.getElem_mem h.aj);rw[h.d];unfold bC;rw[List.map_set,aaG (gB aA b') h.at_]
theorem abC(h:BX gs e c d i b b' p u r θ)(γ:Int→G){E:G→G→Prop}(bt:iG E)(hu:E (inst γ u) (inst γ r)):gY E (bC (aU gs) γ d)↔gY E (bC (aU gs) γ c):=by
 have aA:=h.ya (c.getD i ck) (by rw[g8 h.aj];exact List.getElem_mem h.aj);have e0:i<(bC (aU gs) γ c).length:=by unfold bC;simpa using h.aj
 have jj:=KF bt (γ:=γ) (b:=inst γ r) p (gB aA b') h.at_ hu;have af:(bC (aU gs) γ c)[i]=cL (aU gs) γ (c.getD i ck):=by rw[g8 h.aj];simp only[bC,List.getElem_map]
 have nd:sK E (fC (aU gs) (c.getD i ck).neg (hL γ (aJ b' (c.getD i ck)) p (inst γ r)) (inst γ (aJ (!b') (c.getD i ck))))↔sK E (cL (aU gs) γ (c.getD i ck)):=by
  rw[pQ γ b',kJ bt,kJ bt]
  have:E (hL γ (aJ b' (c.getD i ck)) p (inst γ r)) (inst γ (aJ (!b') (c.getD i ck)))↔E (inst γ (aJ b' (c.getD i ck))) (inst γ (aJ (!b') (c.getD i ck))):=
    ⟨fun h=>bt.trans jj h,fun h=>bt.trans (bt.symm jj) h⟩
  rw[this]
 have mE:=set_perm _ i e0 (fC (aU gs) (c.getD i ck).neg (hL γ (aJ b' (c.getD i ck)) p (inst γ r)) (inst γ (aJ (!b') (c.getD i ck))));have n_:=GI _ i e0;rw[Rj h γ];constructor;intro ar;obtain⟨y,aw,ar⟩:=GC ar mE;refine GC (c:=_::_) ?_ n_.symm;rcases List.mem_cons.1 aw with rfl|aw
 exact⟨_,List.mem_cons_self ..,by rw[af];exact nd.1 ar⟩;exact⟨y,List.mem_cons_of_mem _ aw,ar⟩;intro ar;obtain⟨y,aw,ar⟩:=GC ar n_;refine GC (c:=_::_) ?_ mE.symm;rcases List.mem_cons.1 aw with rfl|aw
 exact⟨_,List.mem_cons_self ..,nd.2 (by rw[←af];exact ar)⟩;exact⟨y,List.mem_cons_of_mem _ aw,ar⟩
theorem lV.Rk{rows:List (List ak)}(hm: [e]∈rows)(h:BX gs e c d i b b' p u r θ):lV gs rows c d:=fun γ bl=>by
 obtain⟨ij,gx⟩:=ld h.BI;have aA:=h.ya (c.getD i ck) (by rw[g8 h.aj];exact List.getElem_mem h.aj);have aM:=Kv γ _ u r (Nat.le_refl _) ij gx h.gt;have jj:=KG (w:=aU gs) (γ:=γ) (b:=inst γ r) p (gB aA b') h.at_ aM;have e0:i<(bC (aU gs) γ c).length:=by unfold bC;simpa using h.aj
 have af:(bC (aU gs) γ c)[i]=cL (aU gs) γ (c.getD i ck):=by rw[g8 h.aj];simp only[bC,List.getElem_map]
 constructor;rw[Rj h γ];refine kI.trans (.inl (set_perm _ i e0 _)) (kI.trans ?_ (.inl (GI _ i e0).symm));refine PA (.refl _) ?_;rw[af,pQ γ b'];rcases KM (c.getD i ck).neg (.inr jj) (gS.refl (inst γ (aJ (!b') (c.getD i ck))))with⟨q,_⟩|q
 exact .inl q;exact .inr q;intro E bt bL ar;refine(abC h γ bt ?_).1 ar;have hle:kI (aU gs) (bC (aU gs) (rV gs γ θ) [e]) (bC (aU gs) γ c):=by rw[Ri h bl];right;have:=anr γ (fun x af=>ld (h.ya x af)) (fun x af=>by rw[List.mem_singleton]at af;subst af;exact ld h.BI) h.less;exact this
 have ab:=bL _ hm _ (LC bl θ) hle;rw[Ri h bl]at ab;obtain⟨y,aw,AZ⟩:=ab;rw[List.mem_singleton]at aw;subst aw;rw[kJ bt,if_neg (by decide)]at AZ;exact AZ
theorem mZ.Rk{rows:List (List ak)}(hm: [e]∈rows)(h:BX gs e c d i b b' p u r θ):mZ gs rows c d:=fun E bt bL aq γ bl=>by refine(abC h γ bt ?_).2 (aq γ bl);have ab:=bL _ hm _ (LC bl θ);rw[Ri h bl]at ab;obtain⟨y,aw,AZ⟩:=ab;rw[List.mem_singleton]at aw;subst aw;rw[kJ bt,if_neg (by decide)]at AZ;exact AZ
end
theorem lV.DD{gs:List aE}{rows:List (List ak)}{c d:List ak}(h:lV gs rows c d){S:List ak→Prop}(an:∀R∈rows,S R){γ:Int→G}(bl:dw gs γ)(k:eT gs S (bC (aU gs) γ d)):eT gs S (bC (aU gs) γ c):=fun E bt eO=>by obtain⟨ab,ae⟩:=h γ bl;exact ae E bt (fun R bL γ' kj aA=>eO R (an R bL) γ' kj aA) (k E bt fun C cD γ' kj aA=>eO C cD γ' kj (aA.trans ab))
theorem art{gs:List aE}{d:List ak}(aq:(bE d).any c5=false){S:List ak→Prop}(eO:S (eh d)){γ:Int→G}(bl:dw gs γ):eT gs S (bC (aU gs) γ d):=by
 obtain⟨γ',ab,ae⟩:=(BG (gs:=gs) aq).1 γ bl;rw[←ae];exact eT.self eO ab
theorem aru{gs:List aE}{d:List ak}(aq:(bE d).any c5=false){E:G→G→Prop}(h:∀γ,dw gs γ→gY E (bC (aU gs) γ d)):∀γ,dw gs γ→gY E (bC (aU gs) γ (eh d)):=fun γ' kj=>by obtain⟨γ,ab,ae⟩:=(BG (gs:=gs) aq).2 γ' kj;rw[ae];exact h γ ab
section
attribute [local irreducible] aK bf bJ
def m0(gs:List aE)(E:G→G→Prop)(c:List ak):Prop:=∀γ,dw gs γ→gY E (bC (aU gs) γ c)
def LD(gs:List aE)(c d:List ak):Prop:=∀E,iG E→m0 gs E c→m0 gs E d
def zW(gs:List aE)(c:List ak)(ds:List (List ak)):Prop:=∀d∈ds,bS gs d=0∧LD gs c d
def sX(gs:List aE)(how:Int)(c:List ak)(S:List ak→Prop)(i:Nat):Prop:=
  ∀γ,dw gs γ→∀aj:i<c.length,DT gs how γ c i aj→inst γ c[i].l=inst γ c[i].r→eT gs S (bC (aU gs) γ (c.eraseIdx i))
theorem sX.mono{gs:List aE}{how:Int}{c:List ak}{S eA:List ak→Prop}{i:Nat}(h:sX gs how c S i)(k:∀C,S C→eA C):sX gs how c eA i:=fun γ bl aj he e=>(h γ bl aj he e).mono k
def abD(gs:List aE)(how:Int)(c:List ak)(i:Nat)(ds:List (List ak))(lost:Int)(c0:List (List ak))(eD:Int):Prop:=
  (∃new,c0=ds++new∧new.length≤1∧zW gs c new)∧(lost≤eD∧eD≤lost+2)∧(eD=lost→sX gs how c (fun K=>K∈c0) i)
theorem arv{gs:List aE}{how:Int}{c:List ak}{i:Nat}{bs:List bx}{b:Bool}{e:Int}(lW:gb gs c how=0)(aj:i<c.length)(h:BH gs c how i bs b e):(e≠0∧b=false)∨(e=0∧∃d,iI bs c 0 d∧bS gs d=0∧b=x7 gs c d how i):=by
 rcases h with⟨h,_⟩|⟨_,⟨h,_⟩|⟨_,aQ,d,bQ,⟨ab,rfl,rfl⟩|⟨rfl,⟨ab,rfl,rfl⟩|⟨ab,rfl,rfl⟩⟩⟩⟩
 exact absurd lW h;omega;exact .inl ⟨ab,rfl⟩;exact .inl ⟨ab,rfl⟩;exact .inr ⟨rfl,d,bQ,ab,rfl⟩
theorem ye{gs:List aE}{how:Int}{c:List ak}(h:gb gs c how=0):bS gs c=0:=by
 unfold gb at h;split at h;rename_i q;exact absurd h q;rename_i q;exact Classical.not_not.1 q
theorem arw{gs:List aE}{how:Int}{c:List ak}{i:Nat}(aj:i<c.length){bs:List bx}{ds c0:List (List ak)}{lost eD:Int}(cM:lj c[i].l c[i].r bs true 0)(aq:bS gs c=0)(aD:c[i].neg=true)(h:Kept gs bs (c.eraseIdx i) ds lost c0 eD):abD gs how c i ds lost c0 eD:=by
 rcases h with⟨rfl,rfl⟩|⟨rfl,ws,ab,ae,aF,rfl⟩
 exact⟨⟨[],by simp,by simp,fun d aH=>by cases aH⟩,by omega,fun h=>by omega⟩;refine⟨⟨_,rfl,by simp,fun d aH=> ?_⟩,by omega,fun _ γ bl gJ _ heq=> ?_⟩;rw[List.mem_singleton]at aH;subst aH;exact⟨aF,fun E bt ar=>eq_true cM rfl (gP aq _ (List.getElem_mem aj)) aD ab ae bt ar⟩;exact(apW cM rfl bl heq ab ae).mono fun C cD=>by subst cD;exact List.mem_append_right _ (by simp)
theorem arx {I:aa} {mb i:Nat} {vg bB:Value} {how lost:Int} {A:Option Addr} {k:Nat} {xs:List Value} {gs:List aE} {c:List ak} {ds:List (List ak)} (aj:i<c.length)
 (aM:cP I vg gs) (aq:cf I bB c) (lW:gb gs c how=0) (aD:c[i].neg=true) (aB:0≤lost) (aA:lost≤1000000) (uc:ds.length≤1000000) (an:bd jR I xs ds):
 aS Tryz.prog 132 [.pointer (some ⟨mb,0,none⟩),.int .i64 i] I (BW mb vg bB how A k ds.length xs lost) (fun v ai δ'=>∃c7 cB xs' c0 eD,v=.tuple #[]∧abD gs how c i ds lost c0 eD∧bd jR ai xs' c0∧δ'=BW mb vg bB how c7 cB c0.length xs' eD):=by
 have cH:=ye lW;have bb:=ef.cw cH;obtain⟨bH,bZ,eK,bM,nB,mF,lQ,lR⟩:=id aq;subst bM;obtain⟨oQ,⟨dh,fO,g7,kh,rfl,dr,j7⟩,eN⟩:=lR.fj lQ aj;have db:=eN.isSome;have a2:=bb.2 _ (List.getElem_mem aj);have D3:=bb.1;refine a1 func132 ntmps132 fun aG=> ?_;refine bg ?_;refine aI (cC (eN)) ?_;refine bh fun b4=> ?_;refine br ?_;refine a6 rfl (Q_ dr j7 ah ah) ?_;rintro u7 u9 _ rz ⟨⟨u,is,e,bs,rfl,fu,cM⟩,rfl⟩;refine cT ?_;by_cases mX:e≠0;have gd:=cM.no mX;subst gd;refine bg ?_;refine a6 rfl (zV aB ah) ?_;rintro v30 zw _ Dv ⟨rfl,rfl⟩;refine bW ?_;exact jG rfl (⟨A,k,xs,ds,lost+1,rfl,⟨⟨[],by simp,by simp,fun d aH=>(by cases aH)⟩,by omega,fun h=>by omega⟩,an.mono aa.ag,rfl⟩);have he:e=0:=Classical.not_not.1 mX;subst he;refine b_ ?_;by_cases gd:is=true;subst gd;refine aP ?_;refine g5 [0,2,4,6,8,10,12,14,16,18,20,22,24,26,29,30,32,34,37,39] ?_;refine gk ?_;refine a6 rfl (aam (aM.mono aa.ag) (aq.mono aa.ag) (fu.mono aa.ag) cM.oT bb.BV) ?_;rintro Ks Kt _ Ku ⟨⟨b,aT,rfl,Rl⟩,rfl⟩;have zX:=arv lW aj Rl;refine bW ?_;refine dB ?_;refine aZ ?_;by_cases Rm:aT≠0;have al:b=false:=by rcases zX with⟨_,h⟩|⟨h,_⟩;exact h;exact absurd h Rm
 subst al;refine bg ?_;refine a6 rfl (zV aB ah) ?_;rintro W8 W9 _ W_ ⟨rfl,rfl⟩;refine br ?_;exact lA rfl (⟨A,k,xs,ds,lost+1,rfl,⟨⟨[],by simp,by simp,fun d aH=>(by cases aH)⟩,by omega,fun h=>by omega⟩,an.mono aa.ag,rfl⟩);refine bg ?_;by_cases al:b=true;subst al;refine b_ ?_;refine a6 rfl (xM (aq.mono aa.ag)) ?_;rintro v63 GS _ KW ⟨BY,BZ,oL,rfl,pX,rfl⟩;refine aR ?_;refine eo rfl (zu aj ah pX.kd) (df.one aO.here) ?_;rintro aze azf _ ary ⟨rfl,rfl⟩;have hlen:c.length-1=(c.eraseIdx i).length:=by rw[List.length_eraseIdx];simp[aj]
 have uv:=(pX.mono ary).del aj;refine aK.dO aO.here ?_;rintro oW Hn Ho zY aC vA Hp vB;cases aC;have k8:cf oW (.slice BY (c.length-1) BZ) (c.eraseIdx i):=⟨_,_,_,by rw[hlen],by rw[←hlen];exact vA,by omega,vB,uv.mono zY⟩
 obtain⟨dU,ik,rfl⟩:=fu.shape;refine aX ?_;refine aI (hq (v:=.agg #[.int .i64 i,.int .i64 (-1)]) rfl (fun _=>by kernel_rfl)) ?_;refine aX ?_;refine aI (hq (v:=.agg #[.slice none 0 0,.int .i64 i,.int .i64 (-1),.slice none 0 0,.slice dU bs.length ik]) rfl (fun _=>by kernel_rfl)) ?_;refine a6 rfl (LB (aM.mono aa.ag) k8 (fu.mono aa.ag) cM.oT (bb.sub (List.eraseIdx_sublist ..)) aB ah ah (an.mono aa.ag)) ?_;rintro Rn yf _ Hq ⟨c7,cB,xs',c0,eD,rfl,eZ,lI,rfl⟩;refine aX ?_;exact lA rfl (⟨c7,cB,xs',c0,eD,rfl,arw aj cM cH aD eZ,lI,rfl⟩);simp only[Bool.not_eq_true]at al;subst al;refine a_ ?_
 exact lA rfl (by
  exact⟨A,k,xs,ds,lost,rfl,⟨⟨[],by simp,by simp,fun d aH=>(by cases aH)⟩,by omega,fun _ γ bl gJ hc heq=>(by
   rcases zX with⟨h,_⟩|⟨_,d,bQ,aH,hm⟩
   exact absurd (Classical.not_not.1 Rm) h;rw[apV cM rfl hc heq bQ aH]at hm;cases hm)⟩,an.mono aa.ag,rfl⟩)
 simp only[Bool.not_eq_true]at gd;subst gd;refine aZ ?_;exact jG rfl (⟨A,k,xs,ds,lost,rfl,⟨⟨[],by simp,by simp,fun d aH=>(by cases aH)⟩,by omega,fun _ γ bl gJ _ heq=>absurd heq (cM.Ll rfl rfl γ)⟩,an.mono aa.ag,rfl⟩)
def arz(gs:List aE)(how:Int)(c:List ak)(ds:List (List ak))(lost:Int):Prop:=zW gs c ds∧0≤lost∧(lost=0→∀i (aj:i<c.length),c[i].neg=true→sX gs how c (fun K=>K∈ds) i)
theorem zW.app{gs:List aE}{c:List ak}{ds new:List (List ak)}(h:zW gs c ds)(k:zW gs c new):zW gs c (ds++new):=fun d aH=>(List.mem_append.1 aH).elim (h d) (k d)
theorem bd.Ro{I:aa}{A:Option Addr}{k:Nat}{xs:List Value}{ds:List (List ak)}(h:bd jR I xs ds)(aq:Cells I A xs)(hk:ds.length≤k)(al:ds.length≤1000000000):dK jR I (.slice A ds.length k) ds:=⟨A,k,xs,rfl,hk,by omega,aq,h⟩
theorem arA{I:aa}{vg bB:Value}{how:Int}{gs:List aE}{c:List ak}(aM:cP I vg gs)(aq:cf I bB c)(iF:hK c):
 aS Tryz.prog 103 [vg,bB,.int .i64 how] I [] (fun v ai δ'=>(∃u ds lost,v=.tuple #[u,.int .i64 lost,.int .i64 (gb gs c how)]∧dK jR ai u ds∧((gb gs c how≠0∧ds= [])∨(gb gs c how=0∧arz gs how c ds lost)))∧δ'= []):=by
 obtain⟨bH,bZ,eK,bM,nB,mF,lQ,lR⟩:=id aq;subst bM;obtain⟨cQ,gc,rfl⟩:=aM.shape;refine a1 func103 ntmps103 fun aG=> ?_;refine cT ?_;refine a6 rfl (DO aM aq iF) ?_;rintro yd oy _ qw ⟨⟨azg,rfl,azh⟩,rfl⟩;refine b_ ?_;by_cases pF:gb gs c how≠0;refine dn ?_;exact k2 rfl rfl rfl rfl (⟨⟨_,[],0,rfl,dK.nil,.inl ⟨pF,rfl⟩⟩,rfl⟩);have lW:gb gs c how=0:=Classical.not_not.1 pF;have bb:=ef.cw (ye lW);have D3:=bb.1;refine bA ?_;refine aI (hq (v:=.agg #[.slice none 0 0,.int .i64 0,.slice cQ gs.length gc,.slice bH c.length bZ,.int .i64 how]) rfl (fun _=>by kernel_rfl)) ?_;refine bw fun qI=> ?_;refine bW ?_;refine bJ.view (View.gh 204 5) ?_;refine fD (fun m aL ai δ'=>∃(i:Nat) (A:Option Addr) (k:Nat) (xs:List Value) (ds:List (List ak)) (lost:Int),m=c.length-i∧aL= [(11,.pointer (some ⟨qI,0,none⟩)),(29,.slice bH c.length bZ),(30,.int .i64 c.length),(31,.int .i64 i)]∧oy.le ai∧δ'=BW qI (.slice cQ gs.length gc) (.slice bH c.length bZ) how A k ds.length xs lost∧i≤c.length∧bd jR ai xs ds∧zW gs c ds∧ds.length≤i∧0≤lost∧lost≤2*i∧(lost=0→∀j (au:j<c.length),j<i→c[j].neg=true→sX gs how c (fun K=>K∈ds) j)) ⟨0,none,0,[],[],0,rfl,rfl,aa.ag,rfl,Nat.zero_le _,bd.nil,fun d aH=>(by cases aH),Nat.zero_le _,by omega,by omega,fun _ j au h=>by omega⟩ ⟨rfl,rfl,rfl,rfl,trivial⟩ ?_;rintro m _ e6 _ ⟨i,A,k,xs,ds,lost,rfl,rfl,fz,rfl,aj,an,cq,uc,aB,aA,cE⟩;refine aZ ?_;refine bF rfl (fun bq=> ?_) (fun bq=> ?_);have av:i<c.length:=by simpa using bq
 obtain⟨oQ,⟨dh,fO,g7,kh,rfl,dr,j7⟩,eN⟩:=lR.fj lQ av;have db:=eN.isSome;refine bg ?_;refine aI (cC (eN.mono aa.ag)) ?_;refine bh fun ie=> ?_;refine aP ?_;by_cases nn:c[i].neg=true;rw[nn];refine aP ?_;refine a6 rfl (arx av (aM.mono aa.ag) (aq.mono aa.ag) lW nn aB ah ah an) ?_;rintro Hr D4 _ Hs ⟨c7,cB,xs',c0,eD,rfl,⟨⟨new,iv,pg,ix⟩,⟨fi,fw⟩,cn⟩,lI,rfl⟩;refine aP ?_;have g0:eD=0→∀j (au:j<c.length),j<i+1→c[j].neg=true→sX gs how c (fun K=>K∈c0) j:=fun a2 j au Fx aD=>by by_cases q:j=i;subst q;exact cn ah;exact(cE ah j au ah aD).mono fun K eZ=>by rw[iv];exact List.mem_append_left _ eZ
 refine ec ⟨i+1,c7,cB,xs',c0,eD,rfl,rfl,aa.ag,rfl,av,lI,by rw[iv];exact cq.app ix,by rw[iv,List.length_append];omega,by omega,by omega,g0⟩ ⟨rfl,rfl,rfl,rfl,trivial⟩;simp only[Bool.not_eq_true]at nn;rw[nn];refine bA ?_;have g0:lost=0→∀j (au:j<c.length),j<i+1→c[j].neg=true→sX gs how c (fun K=>K∈ds) j:=fun a2 j au Fx aD=>by by_cases q:j=i;subst q;rw[nn]at aD;cases aD;exact cE a2 j au ah aD
 refine ec ⟨i+1,A,k,xs,ds,lost,rfl,rfl,aa.ag,rfl,av,an.mono aa.ag,cq,by omega,aB,by omega,g0⟩ ⟨rfl,rfl,rfl,rfl,trivial⟩;have bV:i=c.length:=by simp at bq;omega
 refine aZ ?_;refine bJ.yV (aO.there aO.here) ?_;rintro Bu arB arC zx aC Rp arD Rq;cases aC;refine eU [0,2,4,6,8,10,12,14,16,18,21,23,25] (fun _=> [.box qI 209 [.slice A ds.length k,.int .i64 lost,.slice cQ gs.length gc,.slice bH c.length bZ,.int .i64 how]]) (fun _=>fQ) ?_;refine fx ?_;refine dB ?_;refine aR ?_;refine dB ?_;refine aR ?_;exact k2 rfl rfl rfl rfl (⟨⟨_,ds,lost,by rw[lW];rfl,(an.mono zx).Ro Rq Rp ah,.inr ⟨lW,cq,aB,fun a2 j au aD=>cE a2 j au ah aD⟩⟩,rfl⟩)
theorem Lg.Iter.toQ{P:Program}{f:FuncId}{caps:List Value}{I:aa}{δi:List ay}{α:Type}{enc:aa→α→List Value→Prop}{xs:List α}(h:Iter P f caps I δi enc xs):AD P f caps I δi enc (fun pre x=>∃post,xs=pre++x::post) (fun l=>l=xs):=
  fun fs J δ hm aB aw=>(h fs J δ hm aB fun pre x post ai δ' vs af=>aw pre x ai δ' vs ⟨post,af⟩).mono fun _ _ _ _ ⟨dx,ab,ae⟩=>⟨xs,dx,rfl,ab,ae⟩
abbrev jz(t:T)(a:Option Addr)(c:Nat):Value:=.agg #[.int .i64 t.head,.slice a t.args.length c]
def encS(I:aa)(x:T×T)(vs:List Value):Prop:=∃(iS:Option Addr) (gj:Nat) (ju:Option Addr) (iW:Nat),vs= [jz x.1 iS gj,jz x.2 ju iW]∧ba I (jz x.1 iS gj) x.1∧ba I (jz x.2 ju iW) x.2
theorem abE{I:aa}{b:Nat}{x:ak}{la:Option Addr}{lc:Nat}{ra:Option Addr}{rc:Nat}(aA:ba I (jz x.l la lc) x.l)(an:ba I (jz x.r ra rc) x.r):
 Iter Tryz.prog 173 [.pointer (some ⟨b,0,none⟩)] I [.box b 68 (hv x la lc ra rc)] encS [(x.l,x.r),(x.r,x.l)]:=by
 intro fs J δ hm aB aw;refine a1 func173 ntmps173 fun aG=> ?_;refine aP ?_;refine e8 rfl rfl rfl ((aw [] (x.l,x.r) [(x.r,x.l)] _ _ _ rfl (aa.le_refl _) aB ⟨la,lc,ra,rc,rfl,aA,an⟩)) (List.perm_append_comm (l₁:= [_])) ?_;rintro so jt aqU jJ ⟨rfl,arE⟩;refine aK.view (View.perm (List.perm_append_comm (l₂:= [_]))) ?_;refine br ?_;refine e8 rfl rfl rfl ((aw [(x.l,x.r)] (x.r,x.l) [] _ _ _ rfl jJ arE ⟨ra,rc,la,lc,rfl,an.mono jJ,aA.mono jJ⟩)) (List.perm_append_comm (l₁:= [_])) ?_;rintro w0 pL arF rG ⟨rfl,arG⟩;refine aK.view (View.perm (List.perm_append_comm (l₂:= [_]))) ?_;refine aX ?_;exact lA rfl (⟨_,arG,rfl⟩) (hw:=v7)
theorem abF{I:aa}{x:ak}{la:Option Addr}{lc:Nat}{ra:Option Addr}{rc:Nat}:
 aS Tryz.prog 133 [.agg (hv x la lc ra rc).toArray] I [] (fun r _ δ'=>∃b,r=.func (.func 173) #[] #[.pointer (some ⟨b,0,none⟩)]∧δ'= [.box b 68 (hv x la lc ra rc)]):=by
 refine a1 func133 ntmps133 fun aG=> ?_;refine go2 ?_;refine bw fun e2=> ?_;refine b_ ?_;exact b0 rfl rfl (⟨_,rfl,rfl⟩)
def pY(gs:List aE)(t:T):Int:=if t.head=0 then 2 else if cy gs t=true then 1 else 0
theorem Rr{I:aa}{mb:Nat}{vg bB v oP:Value}{how lost:Int}{gs:List aE}{t:T}(aM:cP I vg gs)(ax:ba I v t)(bK:0≤t.head→t.head<gs.length):
 aS Tryz.prog 174 [.pointer (some ⟨mb,0,none⟩),v] I [.box mb 209 [oP,.int .i64 lost,vg,bB,.int .i64 how]] (fun v _ δ'=>v=.int .i64 (pY gs t)∧δ'= [.box mb 209 [oP,.int .i64 lost,vg,bB,.int .i64 how]]):=by
 obtain⟨cQ,gc,rfl⟩:=aM.shape;obtain⟨_,Br,Ke,sI,Kf⟩:=aM.open;obtain⟨a0,bu,rfl,ib⟩:=ax.shape;refine a1 func174 ntmps174 fun aG=> ?_;refine go2 ?_;refine bw fun b3=> ?_;refine br ?_;by_cases nf:t.head=0;refine cT ?_;exact b0 rfl rfl (⟨by unfold pY;rw[if_pos nf];rfl,rfl⟩);refine aZ ?_;refine g5 [0,2,4,6,8,10,12,14,16,18,20,22,24,26,29] ?_;refine go2 ?_;by_cases iC:0<t.head;have kx:=bK ah;have tO:t.head.toNat<gs.length:=by omega
 have uW:=(sI _ tO).isSome;have D5:=Dg (gs:=gs) (h:=t.head) ah kx;refine bg ?_;refine pr rfl rfl rfl (tn underlying22 wa rfl rfl) ?_;refine aX ?_;refine pr rfl rfl rfl (q7 k0 (sI _ tO) rfl rfl rfl) ?_;by_cases gF:(gs[t.head.toNat]'tO).jH=true;rw[gF];refine fT ?_;exact b0 rfl rfl (⟨by unfold pY cy;rw[if_neg nf,decide_eq_true ah,D5,gF];rfl,rfl⟩);simp only[Bool.not_eq_true]at gF;rw[gF];refine fx ?_;exact b0 rfl rfl (⟨by unfold pY cy;rw[if_neg nf,decide_eq_true ah,D5,gF];rfl,rfl⟩);refine NP ?_;exact b0 rfl rfl (⟨by unfold pY cy;rw[if_neg nf,decide_eq_false ah];rfl,rfl⟩)
structure Rs(gs:List aE)(bs:List bx)(a b:T):Prop where
  ga:zc bs
  a0:c2 a=0
  m_:c2 b=0
  dW:b9 gs (fF bs a)
  e2:b9 gs (fF bs b)
  sh:eL gs (fF bs a) (fF bs b)≠-1
  abG:eL gs (fF bs a) (fF bs b)≠0
theorem pZ{bs:List bx}{t u:T}{e:Int}(h:uf bs t e u)(ab:zc bs)(ae:c2 t=0)(aF:c2 (fF bs t)=0):e=0∧u=fF bs t:=by
 rcases h with⟨_,c8,b6⟩|⟨k,_⟩
 exact⟨c8.trans aF,by rw[b6,if_pos aF]⟩;exact absurd ⟨ab,ae⟩ k
theorem LF{bs:List bx}{t u:T}(h:uf bs t 0 u):c2 u=0:=by
 rcases h with⟨_,c8,b6⟩|⟨_,k,_⟩
 rw[if_pos c8.symm]at b6;rw[b6];exact c8.symm;cases k
theorem Rt{gs:List aE}{bs:List bx}{c ys:List ak}(h:iI bs c 0 ys)(aw:bS gs ys=0){i:Nat}(aj:i<c.length){b:Bool}(ao:∀h:i<ys.length,eL gs (aJ b ys[i]) (aJ (!b) ys[i])≠-1∧eL gs (aJ b ys[i]) (aJ (!b) ys[i])≠0):Rs gs bs (aJ b c[i]) (aJ (!b) c[i]):=by
 have fY:=(vv h).1;have eF:i<ys.length:=by omega
 rcases h with⟨_,h,_⟩|⟨_,⟨_,_,_,_,_,_,h,_⟩|⟨_,_,ae⟩⟩
 cases h;exact absurd rfl h;have aF:=ae i aj eF;obtain⟨nA,pq,e⟩:=Qx aF;have aA:=gP aw _ (List.getElem_mem eF)
 have ga:zc bs:=by
  obtain⟨aQ,k1,g,q⟩:=aF;rcases g with⟨g,_⟩|⟨_,rfl,_⟩
  exact g.1;rcases q with⟨_,q,_⟩|⟨q,_⟩
  cases q;cases q
 have gr:∀b',aJ b' ys[i]=fF bs (aJ b' c[i]):=fun b'=>by rw[e];cases b'<;>rfl
 have an:∀b',c2 (aJ b' c[i])=0:=fun b'=>by cases b';exact nA.1;exact nA.2
 have bb:=ao eF;rw[gr,gr]at bb;exact⟨ga,an _,an _,by rw[←gr];exact gB aA _,by rw[←gr];exact gB aA _,bb.1,bb.2⟩
theorem arH{I:aa}{mb:Nat}{vg bB bz cN vs oP:Value}{how lost:Int}{gs:List aE}{a b:T}{bs:List bx}(aM:cP I vg gs)(ao:hh I vs bs)(fu:∀b∈bs,b.2.size≤500)(bk:ba I bz a)(al:ba I cN b)(gZ:a.size≤500)(sW:b.size≤500):
 aS Tryz.prog 177 [.pointer (some ⟨mb,0,none⟩),vs,bz,cN] I [.box mb 209 [oP,.int .i64 lost,vg,bB,.int .i64 how]] (fun v _ δ'=>∃q,v=.bool q∧(Rs gs bs a b→q=true)∧δ'= [.box mb 209 [oP,.int .i64 lost,vg,bB,.int .i64 how]]):=by
 obtain⟨rE,ac,rfl,_⟩:=bk.shape;obtain⟨dU,ke,rfl,_⟩:=al.shape;refine a1 func177 ntmps177 fun aG=> ?_;refine go2 ?_;refine bw fun c1=> ?_;refine bw fun dp=> ?_;refine aP ?_;refine a6 rfl (G4 ao bk fu gZ) ?_;rintro u0 ox _ nc ⟨⟨e,x,r,rfl,e9,vC⟩,rfl⟩;obtain⟨fW,eK,rfl,_⟩:=e9.shape;refine aR ?_;refine bh fun hH=> ?_;refine bg ?_;refine a6 rfl (G4 (ao.mono aa.ag) (al.mono aa.ag) fu sW) ?_;rintro v23 pJ _ pK ⟨⟨f,y,pq,rfl,dJ,p0⟩,rfl⟩;obtain⟨e3,ff,rfl,_⟩:=dJ.shape;refine aR ?_;refine bh fun cG=> ?_;refine bg ?_;by_cases ka:e≠0;refine gk ?_;exact b0 rfl rfl (⟨false,rfl,fun h=>absurd (pZ vC h.ga h.a0 h.dW.cw).1 ka,rfl⟩);have he:e=0:=Classical.not_not.1 ka;subst he;refine aR ?_;by_cases sP:f≠0;refine bW ?_;exact b0 rfl rfl (⟨false,rfl,fun h=>absurd (pZ p0 h.ga h.m_ h.e2.cw).1 sP,rfl⟩);have a7:f=0:=Classical.not_not.1 sP;subst a7;have abk:=gV (LF vC);have abl:=gV (LF p0);refine bg ?_;refine g5 [0,2,4,6,8,10,13,14,16,18,21,23] ?_;refine aP ?_;refine a6 rfl (OR (aM.mono aa.ag) (e9.mono aa.ag) (dJ.mono aa.ag) ah ah) ?_;rintro zE vk _ zF ⟨rfl,rfl⟩;refine bW ?_;refine dB ?_;refine a_ ?_;by_cases ng:lb gs [x,y]=0;rw[if_pos ng];refine aR ?_;by_cases D6:eL gs x y= -1;refine b_ ?_;exact b0 rfl rfl (⟨false,rfl,fun h=>absurd (by rw[←(pZ vC h.ga h.a0 h.dW.cw).2,←(pZ p0 h.ga h.m_ h.e2.cw).2];exact D6) h.sh,rfl⟩);refine a8 ?_;by_cases D7:eL gs x y=0;refine aZ ?_;exact b0 rfl rfl (⟨false,rfl,fun h=>absurd (by rw[←(pZ vC h.ga h.a0 h.dW.cw).2,←(pZ p0 h.ga h.m_ h.e2.cw).2];exact D7) h.abG,rfl⟩);refine aZ ?_;exact b0 rfl rfl (⟨true,rfl,fun _=>rfl,rfl⟩);rw[if_neg ng];refine cT ?_;exact b0 rfl rfl (⟨false,rfl,fun h=>absurd (Bg.2 (by rw[(pZ vC h.ga h.a0 h.dW.cw).2,(pZ p0 h.ga h.m_ h.e2.cw).2];intro t ar;rcases List.mem_cons.1 ar with rfl|ar;exact h.dW;rw[List.mem_singleton]at ar;subst ar;exact h.e2)) ng,rfl⟩)
end
end Go.Proofs.YtciibkomnoicdaaGreat
