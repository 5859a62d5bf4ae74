/- Own texts: a small program logic, plain facts, walks through the program's functions. No condition. -/
import Derived.Test.YtciibkomnoicdaaGreatZ9
set_option maxRecDepth 10000
set_option maxHeartbeats 4000000
set_option linter.unusedVariables false
set_option linter.unusedSimpArgs false
set_option linter.unnecessarySimpa false
set_option linter.unusedSectionVars false
namespace Go.Proofs.YtciibkomnoicdaaGreat
open Go Lg Tryz
def h6(v:Int):T:=.mk (-1-v) []
theorem zC(v:Int):cq (h6 v)= [-1-v]:=by unfold h6;rw[ji];rfl
mutual
def hM:T→Prop
  |.mk h us=>(h<0→us= [])∧t_ us
def t_:List T→Prop
  | []=>True
  |t::r=>hM t∧t_ r
end
theorem YT:∀{l:List T},t_ l↔∀x∈l,hM x
  | []=>by simp[t_]
  |a::r=>by simp[t_,YT (l:=r)]
theorem hM.args{t:T}(h:hM t):∀x∈t.args,hM x:=by
 cases t with
 |mk k us=>rw[hM]at h;exact YT.1 h.2
theorem hM.leaf{t:T}(h:hM t)(aB:t.head<0):t.args= []:=by
 cases t with
 |mk k us=>rw[hM]at h;exact h.1 aB
mutual
theorem DG{γ:Int→G}{θ:Int→T}:∀t:T,inst γ (bI θ t)=inst (fun v=>inst γ (θ v)) t
  |.mk h us=>by rw[pR,lg];split;rfl;rename_i q;rw[lg,if_neg q,YU us]
theorem YU{γ:Int→G}{θ:Int→T}:∀us:List T,gN γ (fN θ us)=gN (fun v=>inst γ (θ v)) us
  | []=>rfl
  |t::r=>by show inst γ (bI θ t)::gN γ (fN θ r)=_;rw[DG t,YU r];rfl
end
theorem DH(γ:Int→G)(v:Int)(ax:0≤v):inst γ (h6 v)=γ v:=by
 unfold h6;rw[lg,if_pos ah,show-1-(-1-v)=v by omega]
mutual
theorem PW{θ lP:Int→T}:∀t:T,(∀k∈cq t,k<0→θ (-1-k)=lP (-1-k))→bI θ t=bI lP t
  |.mk h us,e=>by rw[pR,pR];rw[ji]at e;split;rename_i q;exact e h (List.mem_cons_self ..) q;rw[YV us fun k hk=>e k (List.mem_cons_of_mem _ hk)]
theorem YV{θ lP:Int→T}:∀us:List T,(∀k∈us.flatMap cq,k<0→θ (-1-k)=lP (-1-k))→fN θ us=fN lP us
  | [],_=>rfl
  |t::r,e=>by show bI θ t::fN θ r=bI lP t::fN lP r;rw[List.flatMap_cons]at e;rw[PW t fun k hk=>e k (List.mem_append_left _ hk),YV r fun k hk=>e k (List.mem_append_right _ hk)]
end
mutual
theorem xW{γ γ':Int→G}:∀t:T,(∀k∈cq t,k<0→γ (-1-k)=γ' (-1-k))→inst γ t=inst γ' t
  |.mk h us,e=>by rw[lg,lg];rw[ji]at e;split;rename_i q;exact e h (List.mem_cons_self ..) q;rw[YW us fun k hk=>e k (List.mem_cons_of_mem _ hk)]
theorem YW{γ γ':Int→G}:∀us:List T,(∀k∈us.flatMap cq,k<0→γ (-1-k)=γ' (-1-k))→gN γ us=gN γ' us
  | [],_=>rfl
  |t::r,e=>by rw[List.flatMap_cons]at e;rw[gN,gN,xW t fun k hk=>e k (List.mem_append_left _ hk),YW r fun k hk=>e k (List.mem_append_right _ hk)]
end
mutual
theorem KO{θ:Int→T}:∀t:T,hM t→∀k∈cq t,k<0→∀j∈cq (θ (-1-k)),j∈cq (bI θ t)
  |.mk h us,qK,k,hk,aB,j,au=>by
   rw[hM]at qK;rw[pR];rw[ji]at hk;by_cases q:h<0;rw[if_pos q];rw[qK.1 q]at hk;rcases List.mem_cons.1 hk with rfl|hk
   exact au;simp at hk;rw[if_neg q,ji];rcases List.mem_cons.1 hk with rfl|hk
   omega;exact List.mem_cons_of_mem _ (YX us qK.2 k hk aB j au)
theorem YX{θ:Int→T}:∀us:List T,t_ us→∀k∈us.flatMap cq,k<0→∀j∈cq (θ (-1-k)),j∈(fN θ us).flatMap cq
  | [],_,k,hk,_,_,_=>by simp at hk
  |t::r,qK,k,hk,aB,j,au=>by
   rw[t_]at qK;show j∈(bI θ t::fN θ r).flatMap cq;rw[List.flatMap_cons]at hk⊢;rcases List.mem_append.1 hk with hk|hk
   exact List.mem_append_left _ (KO t qK.1 k hk aB j au);exact List.mem_append_right _ (YX r qK.2 k hk aB j au)
end
def ea(bs:List bx):Nat→Int→T
  |0,v=>h6 v
  |n+1,v=>match cd bs v with
    |some u=>bI (ea bs n) u
    |none=>h6 v
def iH(bs:List bx):Nat→T→Prop
  |0,t=>∀k∈cq t,k<0→cd bs (-1-k)=none
  |n+1,t=>∀k∈cq t,k<0→∀u,cd bs (-1-k)=some u→iH bs n u
theorem iH.succ{bs:List bx}:∀{n:Nat} {t:T},iH bs n t→iH bs (n+1) t
  |0,t,h=>fun k hk aB u hu=>by have:=h k hk aB;rw[this]at hu;cases hu
  |n+1,t,h=>fun k hk aB u hu=>(h k hk aB u hu).succ
theorem iH.mono{bs:List bx}{n m:Nat}{t:T}(h:iH bs n t)(hle:n≤m):iH bs m t:=by
 induction hle with
 |refl=>exact h
 |step _ aY=>exact aY.succ
theorem iH.sub{bs:List bx}{t x:T}(ao:∀k∈cq x,k∈cq t):∀{n:Nat},iH bs n t→iH bs n x
  |0,h=>fun k hk=>h k (ao k hk)
  |n+1,h=>fun k hk=>h k (ao k hk)
theorem xX{bs:List bx}{v:Int}(h:cd bs v=none):∀n,ea bs n v=h6 v
  |0=>rfl
  |n+1=>by simp only[ea];rw[h]
theorem PX{bs:List bx}:∀{n m:Nat} {t:T},iH bs n t→n≤m→bI (ea bs m) t=bI (ea bs n) t:=by
 intro n
 induction n with
 |zero=>intro m t h _;refine PW t fun k hk aB=> ?_;rw[xX (h k hk aB),xX (h k hk aB)]
 |succ n aY=>
  intro m t h hle
  cases m with
  |zero=>omega
  |succ m=>
   refine PW t fun k hk aB=> ?_;simp only[ea]
   cases q:cd bs (-1-k)with
   |none=>rfl
   |some u=>exact aY (h k hk aB u q) ah
def hN(bs:List bx)(N:Nat):Prop:=∀v,iH bs N (h6 v)
theorem hN.term{bs:List bx}{N:Nat}(h:hN bs N)(t:T):iH bs N t:=by
 cases N with
 |zero=>intro k hk aB;have:=h (-1-k) k (by rw[zC];simp;omega) aB;exact this
 |succ n=>intro k hk aB u hu;exact h (-1-k) k (by rw[zC];simp;omega) aB u hu
theorem hN.bound{bs:List bx}{N:Nat}(h:hN bs N){v:Int}{u:T}(ax:0≤v)(hu:cd bs v=some u):ea bs N v=bI (ea bs N) u:=by
 cases N with
 |zero=>
   have:=h v (-1-v) (by rw[zC];simp) ah
   rw[show-1-(-1-v)=v by omega,hu]at this;cases this
 |succ n=>
   have bK:=h v (-1-v) (by rw[zC];simp) ah u (by rw[show-1-(-1-v)=v by omega];exact hu)
   rw[show ea bs (n+1) v=bI (ea bs n) u by simp only[ea];rw[hu]]
   exact(PX bK (Nat.le_succ n)).symm
def oN(γ:Int→G)(bs:List bx):Prop:=∀v u,cd bs v=some u→γ v=inst γ u
theorem YY{γ:Int→G}{bs:List bx}(h:oN γ bs):∀(n:Nat) (v:Int),0≤v→inst γ (ea bs n v)=γ v:=by
 intro n
 induction n with
 |zero=>intro v ax;exact DH γ v ax
 |succ n aY=>
  intro v ax;simp only[ea]
  cases q:cd bs v with
  |none=>exact DH γ v ax
  |some u=>
    show inst γ (bI (ea bs n) u)=γ v
    rw[DG,h v u q]
    exact xW u fun k _ aB=>aY _ ah
theorem anU{γ:Int→G}{bs:List bx}(h:oN γ bs)(n:Nat)(t:T):inst γ (bI (ea bs n) t)=inst γ t:=by
 rw[DG];exact xW t fun k _ aB=>YY h n _ ah
theorem YZ{bs:List bx}{N:Nat}(h:hN bs N)(az:∀v u,cd bs v=some u→0≤v)(γ:Int→G):oN (fun v=>inst γ (ea bs N v)) bs:=fun v u hu=>by show inst γ (ea bs N v)=_;rw[h.bound (az v u hu) hu,DG]
theorem oO(bs:List bx)(v:Int)(t:T)(x:Int):cd ((v,t)::bs) x=if v=x then some t else cd bs x:=rfl
theorem iH.b7{bs:List bx}{v:Int}{t:T}(ax:cd bs v=none)(BB:∀x u,cd bs x=some u→hM u):∀{n:Nat} {u:T},hM u→iH bs n u→(-1-v)∉cq (bI (ea bs n) u)→iH ((v,t)::bs) n u
  |0,u,KP,h,aD=>fun k hk aB=>by rw[oO];by_cases e:v= -1-k;exfalso;refine aD (KO u KP k hk aB _ ?_);rw[xX (h k hk aB),zC,←e];simp;rw[if_neg e];exact h k hk aB
  |n+1,u,KP,h,aD=>fun k hk aB om g4=>by rw[oO]at g4;by_cases e:v= -1-k;exfalso;refine aD (KO u KP k hk aB _ ?_);rw[xX (by rw[←e];exact ax),zC,←e];simp;rw[if_neg e]at g4;refine iH.b7 ax BB (BB _ _ g4) (h k hk aB om g4) fun q=>aD (KO u KP k hk aB _ ?_);simp only[ea];rw[g4];exact q
theorem iH.bind{bs:List bx}{v:Int}{t:T}{N:Nat}(ar:iH ((v,t)::bs) N t):∀{n:Nat} {u:T},iH bs n u→iH ((v,t)::bs) (n+N+1) u
  |0,u,h=>fun k hk aB om g4=>by rw[oO]at g4;by_cases e:v= -1-k;rw[if_pos e]at g4;cases g4;exact ar.mono ah;rw[if_neg e,h k hk aB]at g4;cases g4
  |n+1,u,h=>fun k hk aB om g4=>by rw[oO]at g4;by_cases e:v= -1-k;rw[if_pos e]at g4;cases g4;exact ar.mono ah;rw[if_neg e]at g4;have:=iH.bind ar (h k hk aB om g4);exact this.mono ah
theorem hN.bind{bs:List bx}{v:Int}{t:T}{N:Nat}(h:hN bs N)(ax:cd bs v=none)(BB:∀x u,cd bs x=some u→hM u)(lt:hM t)(aD:(-1-v)∉cq (bI (ea bs N) t)):hN ((v,t)::bs) (N+N+1):=fun x=>
  iH.bind (iH.b7 ax BB lt (h.term t) aD) (h x)
theorem hN.nil:hN [] 0:=fun v k _ _=>rfl
mutual
theorem Y0{γ:Int→G}:∀t:T,hM t→∀k∈cq t,k<0→fe (fun _=>1) (γ (-1-k))≤fe (fun _=>1) (inst γ t)∧(0≤t.head→fe (fun _=>1) (γ (-1-k))<fe (fun _=>1) (inst γ t))
  |.mk h us,qK,k,hk,aB=>by
   rw[hM]at qK;rw[ji]at hk;rw[lg];by_cases q:h<0;rw[if_pos q];rw[qK.1 q]at hk;rcases List.mem_cons.1 hk with rfl|hk
   exact⟨Nat.le_refl _,fun h=>by simp only[T.head]at h;omega⟩;simp at hk;rw[if_neg q];rcases List.mem_cons.1 hk with rfl|hk
   omega;have:=Y1 (γ:=γ) us qK.2 k hk aB;rw[fe];exact⟨by omega,fun _=>by omega⟩
theorem Y1{γ:Int→G}:∀us:List T,t_ us→∀k∈us.flatMap cq,k<0→fe (fun _=>1) (γ (-1-k))≤nI (fun _=>1) (gN γ us)
  | [],_,k,hk,_=>by simp at hk
  |t::r,qK,k,hk,aB=>by
   rw[t_]at qK;rw[List.flatMap_cons]at hk;rw[gN,nI];rcases List.mem_append.1 hk with hk|hk
   have:=(Y0 (γ:=γ) t qK.1 k hk aB).1;omega;have:=Y1 (γ:=γ) r qK.2 k hk aB;omega
end
mutual
theorem PY{θ:Int→T}(h:∀v,hM (θ v)):∀t:T,hM (bI θ t)
  |.mk k us=>by rw[pR];split;exact h _;rename_i q;rw[hM];exact⟨fun e=>absurd e q,Y2 h us⟩
theorem Y2{θ:Int→T}(h:∀v,hM (θ v)):∀us:List T,t_ (fN θ us)
  | []=>trivial
  |t::r=>⟨PY h t,Y2 h r⟩
end
theorem Y3{bs:List bx}:∀(n:Nat) (v:Int),hM (ea bs n v)
  |0,v=>by unfold ea h6;rw[hM];exact⟨fun _=>rfl,trivial⟩
  |n+1,v=>by simp only[ea];split;exact PY (Y3 n) _;unfold h6;rw[hM];exact⟨fun _=>rfl,trivial⟩
theorem anV{γ:Int→G}{bs:List bx}(h:oN γ bs){N:Nat}{v:Int}(ax:0≤v){y:T}(aB:0≤y.head)(hk:(-1-v)∈cq (bI (ea bs N) y)):γ v≠inst γ y:=fun e=>by
 have ab:=Y0 (γ:=γ) (bI (ea bs N) y) (PY (Y3 N) y) _ hk ah;rw[anU h,show-1-(-1-v)=v by omega,←e]at ab;have aH:0≤(bI (ea bs N) y).head:=by rw[tX ah];exact aB
 have:=ab.2 aH;omega
section
attribute [local irreducible] aK bf bJ
theorem anW{I:aa}{b:Nat}{xs:bU}:
 aS Tryz.prog 227 [.map (some b)] I [.map b xs] (fun v ai δ'=>∃b',v=.map (some b')∧δ'= [.map b' xs,.map b xs]):=by
 refine a1 func227 ntmps227 fun aG=> ?_;refine br ?_;refine aI (AR underlying200 rfl rfl rfl) ?_;refine bg ?_;refine aI (ags underlying200 rfl) ?_;refine agv func244 (by kernel_rfl) (by kernel_rfl) (by kernel_rfl) (by kernel_rfl) rfl rfl Has.here (fun dp=> ?_);refine aI (agt underlying200 rfl) ?_;refine a8 ?_;refine dY ?_;exact⟨dp,rfl,rfl⟩
abbrev wZ(A:Option Addr)(n c:Nat)(xs:List Value):ay:=.row (.slice A n c) 41 2 n xs
theorem Y4{I:aa}{b:Nat}{xs:bU}{bs:List bx}{ma ja:Value}{p t:T}(cc:g6 I xs bs)(kb:tY bs)(az:ba I ma p)(ar:ba I ja t)(ab:p.size≤1000000)(ae:t.size≤1000000):
 aS Tryz.prog 206 [.map (some b),ma,ja] I [.map b xs] (fun v ai δ'=>(v=.map none∧δ'= [.map b xs]∧∀θ,¬(Ext θ bs∧bI θ p=t))∨∃b' xs' jk,v=.map (some b')∧δ'= [.map b' xs',.map b xs]∧g6 ai xs' jk∧tY jk∧∀θ,Ext θ bs∧bI θ p=t↔Ext θ jk):=by
 obtain⟨dh,fO,rfl,_⟩:=az.shape;obtain⟨ju,iW,rfl,_⟩:=ar.shape;refine a1 func206 ntmps206 fun aG=> ?_;refine go2 ?_;refine bw fun b4=> ?_;refine bw fun b5=> ?_;refine aZ ?_;refine eo rfl anW (df.one (aO.there (aO.there aO.here))) ?_;rintro u0 ox _ nc ⟨jM,rfl,rfl⟩;refine aR ?_;refine mG (fun aL ai δ'=>∃vj zD:Nat,aL= [(7,.map (some jM)),(8,.slice (some ⟨vj,0,none⟩) 1 1),(9,.slice (some ⟨zD,0,none⟩) 1 1)]∧ox=ai∧δ'= [wZ (some ⟨vj,0,none⟩) 1 1 [.int .i64 p.head,.slice dh p.args.length fO],wZ (some ⟨zD,0,none⟩) 1 1 [.int .i64 t.head,.slice ju t.args.length iW],.map jM xs,.map b xs]) ?_ ?_;refine tk (.ct 0 (.ct 2 (.two 1 3 (.ct 4 (.cA 3 (.cA 5 .done))) (.cA 1 (.cA 4 (.cA 5 .done)))))) (fun _=> [.map jM xs,.map b xs,.box b5 41 [.int .i64 t.head,.slice ju t.args.length iW],.box b4 41 [.int .i64 p.head,.slice dh p.args.length fO]]) mixed (by kernel_rfl) (by kernel_rfl) (fun _=>(List.Sublist.refl _)) ?_;refine go2 ?_;refine na ?_ ?_;refine c_ fun vj=> ?_;refine aX ?_;refine jY rfl (kY aa.ag (fun _=>(by intro x af;simp only[List.mem_cons,List.not_mem_nil,or_false]at af;rcases af with rfl|rfl|rfl|rfl<;>simp[c9]))) ?_;refine go2 ?_;refine c_ fun zD=> ?_;refine aX ?_;refine jY rfl (kY aa.ag (fun _=>(by intro x af;simp only[List.mem_cons,List.not_mem_nil,or_false]at af;rcases af with rfl|rfl|rfl|rfl<;>simp[c9]))) ?_;refine aR ?_;refine dB ?_;refine aX ?_;refine bf.view ((View.perm (List.Perm.swap _ _ _)).trans (View.sub (List.Sublist.cons_cons _ (List.Sublist.cons_cons _ (List.Sublist.cons_cons _ (List.Sublist.cons_cons _ (List.nil_sublist _))))))) ?_;exact q6 _ ⟨vj,zD,rfl,rfl,rfl⟩ ⟨rfl,rfl,rfl,trivial⟩;refine c_ fun zD=> ?_;refine aX ?_;refine jY rfl (kY aa.ag (fun _=>(by intro x af;simp only[List.mem_cons,List.not_mem_nil,or_false]at af;rcases af with rfl|rfl|rfl|rfl<;>simp[c9]))) ?_;refine aX ?_;refine c_ fun vj=> ?_;refine aX ?_;refine dB ?_;refine aR ?_;refine dB ?_;refine aR ?_;refine dB ?_;refine aX ?_;refine bf.view (View.sub (List.Sublist.cons_cons _ (List.Sublist.cons_cons _ (List.Sublist.cons_cons _ (List.Sublist.cons_cons _ (List.nil_sublist _)))))) ?_;exact q6 _ ⟨vj,zD,rfl,rfl,rfl⟩ ⟨rfl,rfl,rfl,trivial⟩;rintro _ _ _ ⟨vj,zD,rfl,rfl,rfl⟩;refine go2 ?_;refine ek (fun m aL ai δ'=>∃(ls rs:List T) (la ra:Option Addr) (lc rc:Nat) (us vs:List Value) (ms:bU) (jk:List bx),m=bG ls∧ls.length=rs.length∧aL= [(7,.map (some jM)),(8,.slice la ls.length lc),(9,.slice ra ls.length rc)]∧ox.le ai∧δ'= [wZ la ls.length lc us,wZ ra ls.length rc vs,.map jM ms,.map b xs]∧cF ai us ls∧cF ai vs rs∧bG ls≤p.size∧bG rs≤t.size∧g6 ai ms jk∧tY jk∧∀θ,(Ext θ bs∧bI θ p=t)↔(Ext θ jk∧tZ θ ls rs)) (bG [p]) [(7,.map (some jM)),(8,.slice (some ⟨vj,0,none⟩) 1 1),(9,.slice (some ⟨zD,0,none⟩) 1 1)] ⟨[p],[t],_,_,_,_,_,_,xs,bs,rfl,rfl,rfl,aa.le_refl _,rfl,cF.one (az.mono nc),cF.one (ar.mono nc),by simp[bG],by simp[bG],cc.mono nc,kb,fun θ=>and_congr_right fun _=>by have:=zB (θ:=θ) (xs:= []) (ys:= []) (x:=p) (y:=t) rfl;simp only[List.nil_append]at this;rw[this];exact⟨fun h=>⟨PU θ,h⟩,fun h=>h.2⟩⟩ ⟨rfl,rfl,rfl,trivial⟩ ?_;rintro m _ I0 _ ⟨ls,rs,la,ra,lc,rc,us,vs,ms,jk,rfl,iT,rfl,bO,rfl,ht,vY,anX,anY,mW,xY,nd⟩;refine bg ?_;refine bF rfl (fun aV=> ?_) (fun aV=> ?_);rcases List.eq_nil_or_concat ls with rfl|⟨dI,x,rfl⟩
 simp at aV;rcases List.eq_nil_or_concat rs with rfl|⟨lH,y,rfl⟩
 simp at iT;rw[List.concat_eq_append]at*;rw[List.concat_eq_append]at*;have hlen:(dI++ [x]).length=dI.length+1:=by simp
 have kD:dI.length=lH.length:=by simpa using iT
 rw[hlen];obtain⟨⟨fW,eK⟩,y8,e9⟩:=ht.last;obtain⟨⟨e3,ff⟩,u5,dJ⟩:=vY.last;rw[←kD]at u5;have xD:=ht.take;have tE:=vY.take;rw[←kD]at tE;dsimp only at y8 u5 e9 dJ;have V_:=xv dI;have Wa:=xv x.args;have FI:x.size=1+bG x.args:=by cases x;simp[T.size,T.args]
 have Pc:y.size=1+bG y.args:=by cases y;simp[T.size,T.args]
 have j9:=ot dI [x];have JE:=ot dI x.args;have PZ:=ot lH [y];have anZ:=ot lH y.args;simp only[bG,Nat.add_zero]at j9 PZ;have P0:=Bn e9;unfold dZ at P0;refine a_ ?_;refine aK.gK Has.here ah (fun bo eR=> ?_);refine aK.gK (Has.there Has.here) ah (fun eJ eV=> ?_);refine go2 ?_;refine aI (gG rfl rfl rfl ah) ?_;rw[show((dI.length+1:Nat):Int)-1=(dI.length:Nat)by omega];refine aR ?_;refine mG (fun aL ai δ'=>∃cG kc:Nat,aL= [(7,.map (some jM)),(8,.slice la (dI.length+1) lc),(9,.slice ra (dI.length+1) rc),(10,.int .i64 (dI.length:Nat)),(11,.pointer (some ⟨cG,0,none⟩)),(12,.pointer (some ⟨kc,0,none⟩))]∧I0=ai∧δ'= [.box cG 41 [.int .i64 x.head,.slice fW x.args.length eK],.box kc 41 [.int .i64 y.head,.slice e3 y.args.length ff],wZ la (dI.length+1) lc us,wZ ra (dI.length+1) rc vs,.map jM ms,.map b xs]) ?_ ?_;refine tk (.ct 0 (.ct 1 (.ct 2 (.ct 3 (.ct 4 (.ct 5 (.ct 6 (.ct 7 (.two 8 9 (.cA 9 (.cA 10 (.cA 11 .done))) (.cA 8 (.cA 10 (.cA 11 .done)))))))))))) (fun _=>_) mixed (by kernel_rfl) (by kernel_rfl) (fun _=>(List.Sublist.refl _)) ?_;refine aR ?_;refine dg rfl (gH fc rfl Has.here bo y8) ?_;refine aR ?_;refine dg rfl (gH fc rfl (Has.there Has.here) eJ u5) ?_;refine na ?_ ?_;refine bh fun cG=> ?_;refine aR ?_;refine bh fun kc=> ?_;refine br ?_;refine fU ?_;refine aX ?_;refine bf.view (View.perm (List.Perm.swap _ _ _)) ?_;exact q6 _ ⟨cG,kc,rfl,rfl,rfl⟩ ⟨rfl,rfl,rfl,rfl,rfl,rfl,trivial⟩;refine bh fun kc=> ?_;refine aR ?_;refine bh fun cG=> ?_;refine br ?_;refine fU ?_;refine aX ?_;exact q6 _ ⟨cG,kc,rfl,rfl,rfl⟩ ⟨rfl,rfl,rfl,rfl,rfl,rfl,trivial⟩;rintro _ _ _ ⟨cG,kc,rfl,rfl,rfl⟩;refine aX ?_;refine g5 [0,2,4,6,8,10,13,15] ?_;refine go2 ?_;refine dg rfl (m7 underlying37 oq rfl rfl ah) ?_;refine go2 ?_;refine dg rfl (m7 underlying37 oq rfl rfl ah) ?_;refine aP ?_;refine dB ?_;refine a_ ?_;refine aK.view ((View.short _ (bc.there (bc.there bc.here)) (Nat.le_succ _)).trans (View.short _ (bc.there (bc.there (bc.there bc.here))) (Nat.le_succ _))) ?_;refine go2 ?_;refine aI (gG (c:= -1-x.head) rfl rfl rfl ah) ?_;refine aZ ?_;by_cases kF:0≤-1-x.head;have DI:x.head<0:=by omega
 have ch:∀θ,(Ext θ bs∧bI θ p=t)↔((Ext θ jk∧θ (-1-x.head)=y)∧tZ θ dI lH):=fun θ=>by rw[nd θ,zB kD,wX DI,and_assoc];exact and_congr_right fun _=>and_comm
 refine br ?_;by_cases k9:(cd jk (-1-x.head)).isSome=true;obtain⟨u,hu⟩:=Option.isSome_iff_exists.1 k9;obtain⟨JM,aM,ru⟩:=(mW (-1-x.head)).2 u hu;obtain⟨c3,cK,rfl,_⟩:=ru.shape;refine aI (jr (v:=.agg #[.int .i64 u.head,.slice c3 u.args.length cK]) (g:=true) underlying200 underlying3 z41 rfl rfl cW (by rw[aM];rfl) (by rw[aM];rfl)) ?_;refine aR ?_;refine bh fun oI=> ?_;refine b_ ?_;refine cZ ?_;refine bN rfl (u4 ru dJ (xY.get hu) ah) ?_;rintro v57 DJ _ DK ⟨rfl,rfl⟩;by_cases rn:u=y;rw[decide_eq_true rn];have kf:cd jk (-1-x.head)=none∨cd jk (-1-x.head)=some y:=.inr (rn▸hu);refine bW ?_;refine sg underlying200 underlying3 rfl rfl rfl rfl (by repeat (first|exact bc.here|apply bc.there)) ?_;refine a_ ?_;refine bf.view (View.sub (List.Sublist.cons _ (List.Sublist.cons _ (List.Sublist.cons _ (List.Sublist.refl _))))) ?_;refine cV (bG dI) [(7,.map (some jM)),(8,.slice la dI.length lc),(9,.slice ra dI.length rc)] ah ⟨dI,lH,la,ra,lc,rc,_,_,_,(-1-x.head,y)::jk,rfl,kD,rfl,aa.ag,rfl,xD.mono aa.ag,tE.mono aa.ag,by omega,by omega,(mW.put dJ).mono aa.ag,xY.cons ah,fun θ=>by rw[ch θ,PT kf]⟩ ⟨rfl,rfl,rfl,trivial⟩;rw[decide_eq_false rn];refine fx ?_;refine dv (rs:= [.tmp 6]) rfl (List.Perm.refl _) (.cons (.tmp rfl) .nil) (List.Sublist.cons _ (List.Sublist.cons _ (List.Sublist.cons _ (List.Sublist.cons _ (List.Sublist.cons _ (List.Sublist.cons _ (List.Sublist.refl _))))))) ?_;exact .inl ⟨rfl,rfl,fun θ hn=>anS hu rn ((ch θ).1 hn).1⟩;have hu:cd jk (-1-x.head)=none:=by simpa using k9
 have aM:=(mW (-1-x.head)).1 hu;refine aI (jr (v:=.agg #[.int .i64 0,.slice none 0 0]) (g:=false) underlying200 underlying3 z41 rfl rfl cW (by rw[aM];rfl) (by rw[aM];rfl)) ?_;refine aR ?_;refine bh fun oI=> ?_;refine xp ?_;refine sg underlying200 underlying3 rfl rfl rfl rfl (by repeat (first|exact bc.here|apply bc.there)) ?_;refine a_ ?_;refine bf.view (View.sub (List.Sublist.cons _ (List.Sublist.cons _ (List.Sublist.cons _ (List.Sublist.refl _))))) ?_;refine cV (bG dI) [(7,.map (some jM)),(8,.slice la dI.length lc),(9,.slice ra dI.length rc)] ah ⟨dI,lH,la,ra,lc,rc,_,_,_,(-1-x.head,y)::jk,rfl,kD,rfl,aa.ag,rfl,xD.mono aa.ag,tE.mono aa.ag,by omega,by omega,(mW.put dJ).mono aa.ag,xY.cons ah,fun θ=>by rw[ch θ,PT (.inl hu)]⟩ ⟨rfl,rfl,rfl,trivial⟩;have GJ:¬x.head<0:=by omega
 refine cT ?_;by_cases bK:x.head≠y.head;refine xq ?_;refine dv (rs:= [.tmp 6]) rfl (List.Perm.refl _) (.cons (.tmp rfl) .nil) (List.Sublist.cons _ (List.Sublist.cons _ (List.Sublist.cons _ (List.Sublist.cons _ (List.Sublist.cons _ (List.Sublist.refl _)))))) ?_;exact .inl ⟨rfl,rfl,fun θ hn=>bK ((PS GJ).1 (((zB kD).1 ((nd θ).1 hn).2).2)).1⟩;refine bg ?_;by_cases aD:x.args.length≠y.args.length;refine fT ?_;refine dv (rs:= [.tmp 6]) rfl (List.Perm.refl _) (.cons (.tmp rfl) .nil) (List.Sublist.cons _ (List.Sublist.cons _ (List.Sublist.cons _ (List.Sublist.cons _ (List.Sublist.cons _ (List.Sublist.refl _)))))) ?_;exact .inl ⟨rfl,rfl,fun θ hn=>aD ((PS GJ).1 (((zB kD).1 ((nd θ).1 hn).2).2)).2.1⟩;refine aP ?_;refine eU [0,2,4,8,10,12,7,15,17,19] (fun _=> [.box cG 41 [.int .i64 x.head,.slice fW x.args.length eK],.box kc 41 [.int .i64 y.head,.slice e3 y.args.length ff]]) (fun _=>(List.Sublist.cons_cons _ (List.Sublist.cons_cons _ (List.nil_sublist _)))) ?_;obtain⟨_,_,_,_,Wb,Wc,FJ,FK⟩:=e9.open;obtain⟨_,_,_,_,Wd,We,FL,FM⟩:=dJ.open;obtain⟨y9,FN⟩:=cF.of FJ FK;obtain⟨mg,FO⟩:=cF.of FL FM
 have FP:x.head=y.head:=Classical.not_not.1 bK;have mN:x.args.length=y.args.length:=Classical.not_not.1 aD;have xZ:∀θ,(Ext θ bs∧bI θ p=t)↔(Ext θ jk∧tZ θ (dI++x.args) (lH++y.args)):=fun θ=>by rw[nd θ,zB kD,PV kD mN,YS GJ FP mN]
 refine aP ?_;refine mL rfl rfl (Src.m8 y9) (wc _ _) (yY _ _) (fun Y5 Y6=> ?_);refine aR ?_;refine mL rfl rfl (Src.m8 mg) (wc _ _) (yY _ _) (fun Y7 Y8=> ?_);refine br ?_;refine dB ?_;refine go2 ?_;refine bf.view ((View.drop aO.here).trans (View.drop aO.here)) ?_;rw[←mN];have fi:dI.length+x.args.length=(dI++x.args).length:=by simp
 rw[fi];refine cV (bG (dI++x.args)) [(7,.map (some jM)),(8,.slice Y5 (dI++x.args).length Y6),(9,.slice Y7 (dI++x.args).length Y8)] ah ⟨dI++x.args,lH++y.args,Y5,Y7,Y6,Y8,_,_,ms,jk,rfl,by simp;omega,rfl,bO,rfl,xD.app FN,tE.app FO,by omega,by omega,mW,xY,xZ⟩ ⟨rfl,rfl,rfl,trivial⟩;have iB:ls= []:=by simpa using aV
 subst iB;have e1:rs= []:=List.eq_nil_of_length_eq_zero (by simpa using iT.symm);subst e1;refine bW ?_;refine dv (rs:= [.tmp 6]) rfl (List.Perm.refl _) (.cons (.tmp rfl) .nil) (List.Sublist.cons _ (List.Sublist.cons _ (List.Sublist.refl _))) ?_;exact .inr ⟨jM,ms,jk,rfl,rfl,mW,xY,fun θ=>(nd θ).trans ⟨fun h=>h.1,fun h=>⟨h,PU θ⟩⟩⟩
theorem Y9{I:aa}{v:Value}{x:ak}(ax:mm I v x):
 aS Tryz.prog 205 [v] I [] (fun v ai δ'=>v=.bool (sN x)∧δ'= []):=by
 obtain⟨la,lc,ra,rc,rfl,aA,an⟩:=ax;refine a1 func205 ntmps205 fun aG=> ?_;refine go2 ?_;refine bw fun e2=> ?_;refine bg ?_;by_cases ft:x.l.head=0;refine bA ?_;refine bn ?_;exact⟨by unfold sN;rw[decide_eq_true ft];rfl,rfl⟩;refine a_ ?_;by_cases oA:x.r.head=0;refine aZ ?_;refine bn ?_;exact⟨by unfold sN;rw[decide_eq_true oA,Bool.or_true];rfl,rfl⟩;refine aZ ?_;refine bn ?_;exact⟨by unfold sN;rw[decide_eq_false ft,decide_eq_false oA];rfl,rfl⟩
theorem Y_ {I:aa} {b:Nat} {xs:bU} {bs:List bx} {bz oP b1:Value} {a l:ak} {δm:List ay} {Q:(Int→T)→Prop} (cc:g6 I xs bs) (kb:tY bs) (bk:mm I bz a) (aA:mm I oP l)
 (ab:a.l.size≤1000000) (ae:a.r.size≤1000000) (aF:l.l.size≤1000000) (bb:l.r.size≤1000000)
 (an0:∀J b' xs' jk,I.le J→g6 J xs' jk→tY jk→cR Tryz.prog b1 [.map (some b')] J (.map b' xs'::δm) (fun v _ δ'=>(∃r,v=.bool r∧(r=true↔∃θ,Ext θ jk∧Q θ))∧δ'=.map b' xs'::δm)):
 aS Tryz.prog 166 [.map (some b),bz,oP,b1] I (.map b xs::δm) (fun v ai δ'=>(∃r,v=.bool r∧(r=true↔∃θ,Ext θ bs∧zA θ a l∧Q θ))∧δ'=.map b xs::δm):=by
 have sD:=bk;have kx:=aA;obtain⟨dh,fO,g7,kh,rfl,dr,j7⟩:=bk;obtain⟨la,lc,ra,rc,rfl,rF,iT⟩:=aA;refine a1 func166 ntmps166 fun aG=> ?_;refine go2 ?_;refine bw fun b5=> ?_;refine bw fun c1=> ?_;refine a_ ?_;refine g5 [0,4,3,7,8] ?_;refine aR ?_;refine bN rfl (Y9 (sD.mono aa.ag)) ?_;rintro w0 pL _ rG ⟨rfl,rfl⟩;refine aR ?_;refine bN rfl (Y9 (kx.mono aa.ag)) ?_;rintro mO jK _ jf ⟨rfl,rfl⟩;refine aX ?_;refine dB ?_;by_cases hk:sN a=sN l;refine dg rfl (vU (z:=false) underlying4 rfl rfl (by rw[hk];simp[yE])) ?_;refine bW ?_;refine aI (hq (v:=.agg #[.int .i64 l.l.head,.slice la l.l.args.length lc,.int .i64 l.r.head,.slice ra l.r.args.length rc]) rfl (fun _=>by kernel_rfl)) ?_;refine a8 ?_;refine aI (hq (v:=.agg #[.int .i64 l.r.head,.slice ra l.r.args.length rc,.int .i64 l.l.head,.slice la l.l.args.length lc]) rfl (fun _=>by kernel_rfl)) ?_;refine c_ fun qI=> ?_;refine a_ ?_;have ayH:(some (⟨qI,0,none⟩:Addr)).isSome=true:=rfl;refine bJ.view (View.perm (List.perm_middle (l₁:= [_,_,_]))) ?_;refine ek (fun m aL ai δ'=>∃k:Nat,m=2-k∧k≤2∧aL= [(0,.map (some b)),(3,b1),(5,.pointer (some ⟨b5,0,none⟩)),(6,.pointer (some ⟨c1,0,none⟩)),(28,.slice (some ⟨qI,0,none⟩) 2 2),(29,.int .i64 (2:Nat)),(30,.int .i64 k)]∧jK.le ai∧δ'=.map b xs:: .row (.slice (some ⟨qI,0,none⟩) 2 2) 291 4 2 [.int .i64 l.l.head,.slice la l.l.args.length lc,.int .i64 l.r.head,.slice ra l.r.args.length rc,.int .i64 l.r.head,.slice ra l.r.args.length rc,.int .i64 l.l.head,.slice la l.l.args.length lc]:: .box c1 68 (hv l la lc ra rc):: .box b5 68 (hv a dh fO g7 kh)::δm∧(0<k→¬∃θ,Ext θ bs∧(bI θ a.l=l.l∧bI θ a.r=l.r)∧Q θ)∧(1<k→¬∃θ,Ext θ bs∧(bI θ a.l=l.r∧bI θ a.r=l.l)∧Q θ)) 2 [(0,.map (some b)),(3,b1),(5,.pointer (some ⟨b5,0,none⟩)),(6,.pointer (some ⟨c1,0,none⟩)),(28,.slice (some ⟨qI,0,none⟩) 2 2),(29,.int .i64 (2:Nat)),(30,.int .i64 (0:Nat))] ⟨0,rfl,by omega,rfl,aa.le_refl _,rfl,fun h=>by omega,fun h=>by omega⟩ ⟨rfl,rfl,rfl,rfl,rfl,rfl,rfl,trivial⟩ ?_;rintro m _ I0 _ ⟨k,rfl,hk2,rfl,bO,rfl,kW,GK⟩;refine aZ ?_;refine bF rfl (fun bq=> ?_) (fun bq=> ?_);have av:k<2:=by have h:=bq;simp at h;omega
 obtain⟨rL,rM,kZ,bu,s1,fE,nL,ib,l5,an1,AL,w1⟩:∃(rL rM:T) (kZ:Option Addr) (bu:Nat) (s1:Option Addr) (fE:Nat),kU true 4 (List.drop (k*4) [Value.int .i64 l.l.head,.slice la l.l.args.length lc,.int .i64 l.r.head,.slice ra l.r.args.length rc,.int .i64 l.r.head,.slice ra l.r.args.length rc,.int .i64 l.l.head,.slice la l.l.args.length lc])=some (.agg #[.int .i64 rL.head,.slice kZ rL.args.length bu,.int .i64 rM.head,.slice s1 rM.args.length fE])∧ba I (.agg #[.int .i64 rL.head,.slice kZ rL.args.length bu]) rL∧ba I (.agg #[.int .i64 rM.head,.slice s1 rM.args.length fE]) rM∧rL.size≤1000000∧rM.size≤1000000∧((k=0∧rL=l.l∧rM=l.r)∨(k=1∧rL=l.r∧rM=l.l)):=by
  have P1:k=0∨k=1:=by omega
  rcases P1 with rfl|rfl
  exact⟨l.l,l.r,la,lc,ra,rc,rfl,rF,iT,aF,bb,.inl ⟨rfl,rfl,rfl⟩⟩;exact⟨l.r,l.l,ra,rc,la,lc,rfl,iT,rF,bb,aF,.inr ⟨rfl,rfl,rfl⟩⟩
 have an2:∀θ,(bI θ a.l=rL∧bI θ a.r=rM)→zA θ a l:=fun θ h=>by
  rcases w1 with⟨_,aQ,aT⟩|⟨_,aQ,aT⟩
  rw[aQ,aT]at h;exact⟨hk,.inl h⟩;rw[aQ,aT]at h;exact⟨hk,.inr h⟩
 have P2:(¬∃θ,Ext θ bs∧(bI θ a.l=rL∧bI θ a.r=rM)∧Q θ)→(0<k+1→¬∃θ,Ext θ bs∧(bI θ a.l=l.l∧bI θ a.r=l.r)∧Q θ)∧(1<k+1→¬∃θ,Ext θ bs∧(bI θ a.l=l.r∧bI θ a.r=l.l)∧Q θ):=fun h=>by
  rcases w1 with⟨KQ,aQ,aT⟩|⟨KQ,aQ,aT⟩
  rw[aQ,aT]at h;exact⟨fun _=>h,fun q=>by omega⟩;rw[aQ,aT]at h;exact⟨fun _=>kW ah,fun _=>h⟩
 refine aP ?_;refine aI (gH (v:=.agg #[.int .i64 rL.head,.slice kZ rL.args.length bu,.int .i64 rM.head,.slice s1 rM.args.length fE]) UO rfl (Has.there Has.here) rfl nL) ?_;refine bh fun dk=> ?_;refine bg ?_;refine aI (qh (i:=0) underlying291 oq rfl rfl ah) ?_;refine aX ?_;refine eo rfl (Y4 (cc.mono aa.ag) kb (dr.mono aa.ag) (ib.mono aa.ag) ab an1) (df.one (aO.there aO.here)) ?_;rintro zE vk GL zF an3;refine a_ ?_;rcases an3 with⟨rfl,rfl,ix⟩|⟨qL,ms,ayI,rfl,rfl,an4,an5,P3⟩
 refine aX ?_;refine aI (AR underlying200 rfl rfl rfl) ?_;refine b_ ?_;refine bf.view (View.drop (aO.there aO.here)) ?_;obtain⟨x0,zo⟩:=P2 (by rintro⟨θ,aQ,⟨aT,_⟩,_⟩;exact ix θ ⟨aQ,aT⟩);refine cV (2-(k+1)) [(0,.map (some b)),(3,b1),(5,.pointer (some ⟨b5,0,none⟩)),(6,.pointer (some ⟨c1,0,none⟩)),(28,.slice (some ⟨qI,0,none⟩) 2 2),(29,.int .i64 (2:Nat)),(30,.int .i64 (k+1:Nat))] ah ⟨k+1,rfl,by omega,rfl,aa.ag,rfl,x0,zo⟩ ⟨rfl,rfl,rfl,rfl,rfl,rfl,rfl,trivial⟩;refine aX ?_;refine aI (AR underlying200 rfl rfl rfl) ?_;refine bg ?_;refine aI (qh (i:=1) underlying291 oq rfl rfl ah) ?_;refine aX ?_;refine eo rfl (Y4 an4 an5 (j7.mono aa.ag) (l5.mono aa.ag) ae AL) (df.one aO.here) ?_;rintro w2 vl Za sO an6;refine a_ ?_;rcases an6 with⟨rfl,rfl,ix⟩|⟨an7,gm,ayJ,rfl,rfl,P4,an8,Zb⟩
 refine aX ?_;refine aI (AR underlying200 rfl rfl rfl) ?_;refine gk ?_;refine bf.view ((View.drop aO.here).trans (View.drop (aO.there aO.here))) ?_;obtain⟨x0,zo⟩:=P2 (by rintro⟨θ,aQ,⟨aT,dA⟩,_⟩;exact ix θ ⟨(P3 θ).1 ⟨aQ,aT⟩,dA⟩);refine cV (2-(k+1)) [(0,.map (some b)),(3,b1),(5,.pointer (some ⟨b5,0,none⟩)),(6,.pointer (some ⟨c1,0,none⟩)),(28,.slice (some ⟨qI,0,none⟩) 2 2),(29,.int .i64 (2:Nat)),(30,.int .i64 (k+1:Nat))] ah ⟨k+1,rfl,by omega,rfl,aa.ag,rfl,x0,zo⟩ ⟨rfl,rfl,rfl,rfl,rfl,rfl,rfl,trivial⟩;refine aX ?_;refine aI (AR underlying200 rfl rfl rfl) ?_;refine aR ?_;refine cZ ?_;refine e8 rfl rfl rfl ((an0 _ _ _ _ aa.ag P4 an8)) (List.Perm.cons _ (List.perm_append_comm (l₁:= [_,_,_,_,_,_]))) ?_;rintro v53 zG _ GM ⟨⟨P5,rfl,an9⟩,rfl⟩;refine aK.view (View.perm (List.Perm.cons _ (List.perm_append_comm (l₂:= [_,_,_,_,_,_])))) ?_;have Zc:P5=true↔∃θ,Ext θ bs∧(bI θ a.l=rL∧bI θ a.r=rM)∧Q θ:=by rw[an9];constructor;rintro⟨θ,aQ,aT⟩;obtain⟨dA,oh⟩:=(Zb θ).2 aQ;obtain⟨zH,P6⟩:=(P3 θ).2 dA;exact⟨θ,zH,⟨P6,oh⟩,aT⟩;rintro⟨θ,zH,⟨P6,oh⟩,aT⟩;exact⟨θ,(Zb θ).1 ⟨(P3 θ).1 ⟨zH,P6⟩,oh⟩,aT⟩
 refine aR ?_;refine bF rfl (fun fV=> ?_) (fun fV=> ?_);have aC:P5=true:=fV;refine bA ?_;refine dv (rs:= [.tmp 8]) rfl (List.Perm.refl _) (.cons (.tmp rfl) .nil) (List.Sublist.cons _ (List.Sublist.cons _ (List.Sublist.cons_cons _ (List.Sublist.cons _ (List.Sublist.cons _ (List.Sublist.cons _ (List.Sublist.cons _ (List.Sublist.refl _)))))))) ?_;exact⟨⟨true,rfl,by simp only[true_iff];obtain⟨θ,aQ,aT,dA⟩:=Zc.1 aC;exact⟨θ,aQ,an2 θ aT,dA⟩⟩,rfl⟩;have aC:¬P5=true:=by rw[fV];simp
 refine aP ?_;refine bf.view ((View.drop aO.here).trans ((View.drop aO.here).trans (View.drop (aO.there aO.here)))) ?_;obtain⟨x0,zo⟩:=P2 (fun h=>aC (Zc.2 h));refine cV (2-(k+1)) [(0,.map (some b)),(3,b1),(5,.pointer (some ⟨b5,0,none⟩)),(6,.pointer (some ⟨c1,0,none⟩)),(28,.slice (some ⟨qI,0,none⟩) 2 2),(29,.int .i64 (2:Nat)),(30,.int .i64 (k+1:Nat))] ah ⟨k+1,rfl,by omega,rfl,aa.ag,rfl,x0,zo⟩ ⟨rfl,rfl,rfl,rfl,rfl,rfl,rfl,trivial⟩;have bV:k=2:=by have h:=bq;simp at h;omega
 refine bA ?_;refine dv (rs:= [.tmp 8]) rfl (List.Perm.refl _) (.cons (.tmp rfl) .nil) (List.Sublist.cons_cons _ (List.Sublist.cons _ (List.Sublist.cons _ (List.Sublist.cons _ (List.Sublist.refl _))))) ?_;exact⟨⟨false,rfl,by simp only[Bool.false_eq_true,false_iff];rintro⟨θ,aQ,⟨_,aT|aT⟩,dA⟩;exact kW ah ⟨θ,aQ,aT,dA⟩;exact GK ah ⟨θ,aQ,aT,dA⟩⟩,rfl⟩;refine dg rfl (vU (z:=true) underlying4 rfl rfl (by simp[yE,hk])) ?_;refine b_ ?_;refine dv (rs:= [.tmp 8]) rfl (List.Perm.refl _) (.cons (.tmp rfl) .nil) (List.Sublist.cons _ (List.Sublist.cons _ (List.Sublist.refl _))) ?_;exact⟨⟨false,rfl,by simp only[Bool.false_eq_true,false_iff];rintro⟨θ,_,aC,_⟩;exact hk aC.1⟩,rfl⟩
def vm(c:List ak):Prop:=∀x∈c,x.l.size≤1000000∧x.r.size≤1000000
abbrev vn(mb g:Nat)(cU:Option Addr)(c6 n:Nat):ay:=.box mb 197 [.slice cU n c6,.slice (some ⟨g,0,none⟩) n n]
abbrev vo(g n:Nat)(us:List Bool):ay:=.row (.slice (some ⟨g,0,none⟩) n n) 4 1 n (us.map Value.bool)
theorem an_ {I:aa} {b b3 b4 mb g:Nat} {xs:bU} {cU:Option Addr} {c6:Nat} {bs:List bx} {bH:Option Addr} {bZ:Nat} {a:ak} {r d:List ak} {us:List Bool} (aq:cf I (.slice bH (a::r).length bZ) (a::r))
 (cE:∀v,cf I v r→aS Tryz.prog 129 [.pointer (some ⟨mb,0,none⟩),v,.map (some b)] I [.map b xs,vn mb g cU c6 d.length,vo g d.length us] (fun v ai δ'=>(∃q,v=.bool q∧(q=true↔DF bs d us r))∧δ'= [.map b xs,vn mb g cU c6 d.length,vo g d.length us])):
 aS Tryz.prog 167 [.map (some b),.pointer (some ⟨b3,0,none⟩),.pointer (some ⟨b4,0,none⟩)] I [.map b xs,.box b4 36 [.slice bH (a::r).length bZ],.box b3 194 [.pointer (some ⟨mb,0,none⟩)],vn mb g cU c6 d.length,vo g d.length us] (fun v ai δ'=>(∃q,v=.bool q∧(q=true↔DF bs d us r))∧δ'= [.map b xs,.box b4 36 [.slice bH (a::r).length bZ],.box b3 194 [.pointer (some ⟨mb,0,none⟩)],vn mb g cU c6 d.length,vo g d.length us]):=by
 obtain⟨_,_,eK,aC,nB,mF,ep,bm⟩:=id aq;cases aC;have si:1≤(a::r).length:=by simp
 have l5:cf I (.slice (cutAt bH bZ 1 5) ((a::r).length-1) (bZ-1)) r:=dK.amd (k:=1) nB mF ep bm (by simp);refine a1 func167 ntmps167 fun aG=> ?_;refine aZ ?_;refine g5 [0,2,4,6,9,11] ?_;refine go2 ?_;refine dg rfl (uQ (m:=1) underlying36 xn rfl rfl si nB) ?_;refine go2 ?_;refine eo rfl (cE _ l5) ((List.Perm.cons _ (List.perm_append_comm (l₁:= [_,_])))) ?_;rintro v9 tB _ lF ⟨⟨aoa,rfl,aob⟩,rfl⟩;refine aK.view (View.perm (List.Perm.cons _ (List.perm_append_comm (l₂:= [_,_])))) ?_;refine a_ ?_;refine dB ?_;refine aR ?_;refine dY ?_;exact⟨⟨aoa,rfl,aob⟩,rfl⟩
theorem Zd{us:List Bool}{k:Nat}(h:us[k]? =some false):(us.set k true).set k false=us:=by
 rw[List.set_set];obtain⟨hk,e⟩:=List.getElem?_eq_some_iff.1 h;conv=>rhs;rw[←List.set_getElem_self hk]
 rw[e]
theorem Ze{d:List ak}{cU:Option Addr}{c6 mb g:Nat}(ig:vm d):∀(c:List ak),vm c→∀(us:List Bool) (I:aa) (b:Nat) (xs:bU) (bs:List bx) (bB:Value),us.length=d.length→cf I (.slice cU d.length c6) d→cf I bB c→g6 I xs bs→tY bs→
 aS Tryz.prog 129 [.pointer (some ⟨mb,0,none⟩),bB,.map (some b)] I [.map b xs,vn mb g cU c6 d.length,vo g d.length us] (fun v ai δ'=>(∃q,v=.bool q∧(q=true↔DF bs d us c))∧δ'= [.map b xs,vn mb g cU c6 d.length,vo g d.length us]):=by
 intro c
 induction c with
 |nil=>intro hy us I b xs bs bB jq aH aq cc kb;obtain⟨bH,bZ,bM⟩:=dK.shape aq;subst bM;refine a1 func129 ntmps129 fun aG=> ?_;refine go2 ?_;refine bw fun b3=> ?_;refine bw fun b4=> ?_;refine bg ?_;refine aI (yD rfl rfl rfl (by simp)) ?_;refine b_ ?_;refine dv (rs:= [.tmp 6]) rfl (List.Perm.refl _) (.cons (.tmp rfl) .nil) (List.Sublist.cons _ (List.Sublist.cons _ (List.Sublist.refl _))) ?_;exact⟨⟨true,rfl,by simp only[true_iff];exact anT⟩,rfl⟩
 |cons a r aY=>
  intro hy us I b xs bs bB jq aH aq cc kb;have sF:=hy a (List.mem_cons_self ..);have KR:vm r:=fun x af=>hy x (List.mem_cons_of_mem _ af);obtain⟨bH,bZ,eK,bM,nB,mF,lQ,lR⟩:=id aq;subst bM;obtain⟨_,_,Zf,aC,Zg,Zh,GN,GO⟩:=id aH;cases aC;have eR:(a::r).length=r.length+1:=rfl;obtain⟨bz,⟨dh,fO,g7,kh,rfl,dr,j7⟩,eN⟩:=lR.fj lQ (i:=0) (by simp);rw[List.getElem_cons_zero]at dr j7 eN;have uW:=eN.isSome;have DL:(some (⟨g,0,none⟩:Addr)).isSome=true:=rfl;refine a1 func129 ntmps129 fun aG=> ?_;refine go2 ?_;refine bw fun b3=> ?_;refine bw fun b4=> ?_;refine bg ?_;refine aI (l2 rfl rfl rfl (by simp;omega)) ?_;refine fx ?_;refine bJ.view (View.perm (List.perm_middle (l₁:= [_,_]))) ?_;refine ek (fun m aL ai δ'=>∃k:Nat,m=d.length-k∧k≤d.length∧aL= [(2,.map (some b)),(3,.pointer (some ⟨b3,0,none⟩)),(4,.pointer (some ⟨b4,0,none⟩)),(16,.slice cU d.length c6),(17,.int .i64 d.length),(18,.int .i64 k)]∧I.le ai∧δ'= [.map b xs,.box b4 36 [.slice bH (a::r).length bZ],.box b3 194 [.pointer (some ⟨mb,0,none⟩)],vn mb g cU c6 d.length,vo g d.length us]∧∀j,j<k→¬BA bs d us a r j) d.length [(2,.map (some b)),(3,.pointer (some ⟨b3,0,none⟩)),(4,.pointer (some ⟨b4,0,none⟩)),(16,.slice cU d.length c6),(17,.int .i64 d.length),(18,.int .i64 (0:Nat))] ⟨0,rfl,Nat.zero_le _,rfl,aa.le_refl _,rfl,fun j h=>by omega⟩ ⟨rfl,rfl,rfl,rfl,rfl,rfl,trivial⟩ ?_;rintro m _ I0 _ ⟨k,rfl,hk,rfl,bO,rfl,ix⟩;refine aZ ?_;refine bF rfl (fun bq=> ?_) (fun bq=> ?_);have av:k<d.length:=by simpa using bq
  obtain⟨dD,⟨la,lc,ra,rc,rfl,rF,iT⟩,GP⟩:=GO.fj GN av;have db:=GP.isSome;have hj:=ig _ (List.getElem_mem av);have x1:k<us.length:=by omega
  have ly:¬BA bs d us a r k→∀j,j<k+1→¬BA bs d us a r j:=fun h j au=>by
   rcases Nat.lt_or_ge j k with q|q
   exact ix j q;have e:j=k:=by omega
   subst e;exact h
  refine bg ?_;refine aI (cC (GP.mono bO)) ?_;refine bh fun b8=> ?_;refine aZ ?_;refine g5 [0,2,4,6,8,10,12,14,16,18,20,22,24,26,28,30] ?_;refine aZ ?_;refine dg rfl (gH k0 rfl cW rfl (u1 (cs:=us.map Value.bool) (o:=k*1) (x:=.bool us[k]) (by simp[x1]))) ?_;by_cases sP:us[k]=true;rw[sP];have wO:¬BA bs d us a r k:=fun⟨_,ae,_⟩=>by rw[List.getElem?_eq_getElem x1,sP]at ae;cases ae
  refine rk ?_;refine bf.view (View.drop aO.here) ?_;refine cV (d.length-(k+1)) [(2,.map (some b)),(3,.pointer (some ⟨b3,0,none⟩)),(4,.pointer (some ⟨b4,0,none⟩)),(16,.slice cU d.length c6),(17,.int .i64 d.length),(18,.int .i64 (k+1:Nat))] ah ⟨k+1,rfl,av,rfl,aa.ag,rfl,ly wO⟩ ⟨rfl,rfl,rfl,rfl,rfl,rfl,trivial⟩;have Zi:us[k]=false:=by simpa using sP
  rw[Zi];have Zj:us[k]? =some false:=by rw[List.getElem?_eq_getElem x1,Zi]
  refine a8 ?_;refine pr rfl rfl rfl (tn underlying36 xn rfl rfl) ?_;refine aX ?_;refine pr rfl rfl rfl (cC (eN.mono bO)) ?_;by_cases nn:d[k].neg=a.neg;refine pr rfl rfl rfl (vU (z:=false) underlying4 rfl rfl (by rw[nn];simp[yE])) ?_;refine dn ?_;refine nC (xs':=(us.set k true).map Value.bool) k0 rfl rfl rfl rfl rfl rfl (by simp[c9,jq]) (by repeat (first|exact bc.here|apply bc.there)) (by rw[List.map_set,Nat.mul_one];exact Da (x:=.bool us[k]) (by rw[List.getElem?_map,List.getElem?_eq_getElem x1];rfl)) ?_;refine aR ?_;refine g5 [0,2,4,6,8,10,13,15] ?_;refine go2 ?_;refine dg rfl (tn underlying36 xn rfl rfl) ?_;refine dg rfl (cC (eN.mono bO)) ?_;refine aR ?_;refine eo rfl (Y_ (Q:=fun θ=>wY θ d (us.set k true) r) (cc.mono aa.ag) kb ⟨dh,fO,g7,kh,rfl,dr.mono aa.ag,j7.mono aa.ag⟩ ⟨la,lc,ra,rc,rfl,rF.mono aa.ag,iT.mono aa.ag⟩ sF.1 sF.2 hj.1 hj.2 (fun J b' xs' jk cj mW xY=>cR.fq (args:= [_]) (caps:= [_,_]) ai9 (an_ (aq.mono (aa.le_trans bO cj)) (fun v ax=>aY KR (us.set k true) J b' xs' jk v (by simp[jq]) (aH.mono (aa.le_trans bO cj)) ax mW xY)))) (List.perm_append_comm (l₁:= [_])) ?_;rintro ayK ayL _ ayM ⟨⟨P7,rfl,aoc⟩,rfl⟩;have GQ:P7=true↔BA bs d us a r k:=by rw[aoc];constructor;rintro⟨θ,aQ,aT,dA⟩;exact⟨av,Zj,nn,θ,aQ,aT,dA⟩;rintro⟨_,_,_,θ,aQ,aT,dA⟩;exact⟨θ,aQ,aT,dA⟩
  refine a_ ?_;refine dB ?_;refine b_ ?_;refine nC (xs':=us.map Value.bool) k0 rfl rfl rfl rfl rfl rfl (by simp[c9,jq]) (by repeat (first|exact bc.here|apply bc.there)) (by rw[Nat.mul_one];have e:=congrArg (List.map Value.bool) (Zd Zj);rw[List.map_set]at e;rw[←e];exact Da (x:=.bool true) (by rw[List.getElem?_map,List.getElem?_set_self x1];rfl)) ?_;refine aP ?_;refine bF rfl (fun fV=> ?_) (fun fV=> ?_);have aC:P7=true:=fV;refine bA ?_;refine dv (rs:= [.tmp 6]) rfl (List.Perm.refl _) (.cons (.tmp rfl) .nil) (List.Sublist.cons_cons _ (List.Sublist.cons _ (List.Sublist.cons _ (List.Sublist.cons_cons _ (List.Sublist.cons_cons _ (List.nil_sublist _)))))) ?_;exact⟨⟨true,rfl,by simp only[true_iff];exact YR.2 ⟨k,GQ.1 aC⟩⟩,rfl⟩;have aC:¬P7=true:=by rw[fV];simp
  refine aP ?_;refine bf.view (View.sub (List.Sublist.cons_cons _ (List.Sublist.cons_cons _ (List.Sublist.cons_cons _ (List.Sublist.cons_cons _ (List.Sublist.cons_cons _ (List.nil_sublist _))))))) ?_;refine cV (d.length-(k+1)) [(2,.map (some b)),(3,.pointer (some ⟨b3,0,none⟩)),(4,.pointer (some ⟨b4,0,none⟩)),(16,.slice cU d.length c6),(17,.int .i64 d.length),(18,.int .i64 (k+1:Nat))] ah ⟨k+1,rfl,av,rfl,aa.ag,rfl,ly (fun h=>aC (GQ.2 h))⟩ ⟨rfl,rfl,rfl,rfl,rfl,rfl,trivial⟩;have wO:¬BA bs d us a r k:=fun⟨_,_,aF,_⟩=>nn aF;refine pr rfl rfl rfl (vU (z:=true) underlying4 rfl rfl (by simp[yE,nn])) ?_;refine bW ?_;refine bf.view (View.drop aO.here) ?_;refine cV (d.length-(k+1)) [(2,.map (some b)),(3,.pointer (some ⟨b3,0,none⟩)),(4,.pointer (some ⟨b4,0,none⟩)),(16,.slice cU d.length c6),(17,.int .i64 d.length),(18,.int .i64 (k+1:Nat))] ah ⟨k+1,rfl,av,rfl,aa.ag,rfl,ly wO⟩ ⟨rfl,rfl,rfl,rfl,rfl,rfl,trivial⟩;have bV:k=d.length:=by simp at bq;omega
  refine bA ?_;refine dv (rs:= [.tmp 6]) rfl (List.Perm.refl _) (.cons (.tmp rfl) .nil) (List.Sublist.cons_cons _ (List.Sublist.cons _ (List.Sublist.cons _ (List.Sublist.refl _)))) ?_;exact⟨⟨false,rfl,by simp only[Bool.false_eq_true,false_iff];rw[YR];rintro⟨j,au⟩;exact ix j (by obtain⟨h,_⟩:=au;omega) au⟩,rfl⟩
def ua(x:ak):Bool:=c5 x.l||c5 x.r
def nV(c d:List ak):Int:=if 32<c.length∨32<d.length then 2 else if(bE c).any c5=true∨(bE d).any c5=true then 1 else 0
theorem KS(c:List ak):c.any ua=(bE c).any c5:=by
 induction c with
 |nil=>rfl
 |cons x r aY=>show(ua x||r.any ua)=(c5 x.l||(c5 x.r||(bE r).any c5));rw[aY];unfold ua;rw[Bool.or_assoc]
theorem Zk{c d:List ak}(h:nV c d=0):c.length≤32∧d.length≤32∧(bE c).any c5=false∧(bE d).any c5=false:=by
 unfold nV at h;split at h;cases h;rename_i ab;split at h;cases h;rename_i ae;refine⟨by omega,by omega,?_,?_⟩;cases q:(bE c).any c5;rfl;exact absurd (.inl q) ae;cases q:(bE d).any c5;rfl;exact absurd (.inr q) ae
theorem aod{c d:List ak}(ab:c.length≤32)(ae:d.length≤32)(aF:(bE c).any c5=false)(bb:(bE d).any c5=false):nV c d=0:=by
 unfold nV;rw[if_neg ah,if_neg (by rw[aF,bb];simp)]
def jl(n:Nat):List Bool:=List.replicate n false
def Sub(c d:List ak):Prop:=∃θ,wY θ d (jl d.length) c
theorem aoe{c d:List ak}:DF [] d (jl d.length) c↔Sub c d:=⟨fun⟨θ,_,h⟩=>⟨θ,h⟩,fun⟨θ,h⟩=>⟨θ,YQ θ,h⟩⟩
theorem count_set{us:List Bool}{k:Nat}(h:us[k]? =some false):us.count false=(us.set k true).count false+1:=by
 obtain⟨hk,e⟩:=List.getElem?_eq_some_iff.1 h;rw[List.count_set hk,e];have:0<us.count false:=List.count_pos_iff.2 (e▸List.getElem_mem hk);simp;omega
theorem Zl{θ:Int→T}{d:List ak}:∀{c:List ak} {us:List Bool},wY θ d us c→c.length≤us.count false
  | [],us,_=>Nat.zero_le _
  |a::r,us,h=>by obtain⟨k,hk,ab,_,_,ae⟩:=h;have:=Zl ae;have:=count_set ab;simp only[List.length_cons];omega
theorem aof{c d:List ak}(h:Sub c d):c.length≤d.length:=by
 obtain⟨θ,h⟩:=h;have:=Zl h;unfold jl at this;rw[List.count_replicate]at this;simpa using this
abbrev KT(g:Nat)(bB dD:Value):ay:=.row (.slice (some ⟨g,0,none⟩) 2 2) 36 1 2 [bB,dD]
theorem Zm{I:aa}{g:Nat}{bB dD:Value}{c d:List ak}(aq:cf I bB c)(aH:cf I dD d)(hy:hK c)(ig:hK d):
 aS Tryz.prog 128 [.slice (some ⟨g,0,none⟩) 2 2] I [KT g bB dD] (fun v ai δ'=>v=.int .i64 (nV c d)∧δ'= [KT g bB dD]):=by
 have Zn:=aq.small;have Zo:=aH.small
 have Zp:∀k:Nat,k<2→∃(y:List ak) (a:Option Addr) (n:Nat),[bB,dD][k]? =some (.slice a y.length n)∧cf I (.slice a y.length n) y∧hK y∧y.length≤1954687338211∧((k=0∧y=c)∨(k=1∧y=d)):=fun k hk=>by
  have P1:k=0∨k=1:=by omega
  rcases P1 with rfl|rfl
  obtain⟨a,n,bM⟩:=dK.shape aq;exact⟨c,a,n,by rw[bM];rfl,bM▸aq,hy,Zn,.inl ⟨rfl,rfl⟩⟩;obtain⟨a,n,bM⟩:=dK.shape aH;exact⟨d,a,n,by rw[bM];rfl,bM▸aH,ig,Zo,.inr ⟨rfl,rfl⟩⟩
 have DL:(some (⟨g,0,none⟩:Addr)).isSome=true:=rfl
 have aog:∀J u x,I.le J→fG.R J x u→x.l.size≤1000000000→x.r.size≤1000000000→cR Tryz.prog (.func (.func 165) #[] #[]) [.agg u.toArray] J [] (fun v _ δ'=>v=.bool (ua x)∧δ'= []):=fun J u x cj hu m6 hG=>by
  obtain⟨la,lc,ra,rc,rfl,aA,an⟩:=hu;refine aS.tc (args:= [_]) (by kernel_rfl) ?_;refine a1 func165 ntmps165 fun aG=> ?_;refine go2 ?_;refine bw fun e2=> ?_;refine aP ?_;refine bN rfl (wu aA m6) ?_;rintro v5 Zq _ Zr ⟨rfl,rfl⟩;by_cases ft:c5 x.l=true;refine aI (yD rfl rfl rfl (by unfold c5 at ft;simpa using ft)) ?_;refine b_ ?_;refine bn ?_;exact⟨by unfold ua;rw[ft];rfl,rfl⟩;have P8:c5 x.l=false:=by simpa using ft
  refine aI (l2 rfl rfl rfl (by unfold c5 at ft;simpa using ft)) ?_;refine aR ?_;refine cZ ?_;refine bN rfl (wu (an.mono aa.ag) hG) ?_;rintro v10 j4 _ kB ⟨rfl,rfl⟩;refine cZ ?_;refine aI (kV (z:=c5 x.r) rfl rfl rfl) ?_;refine a_ ?_;refine bn ?_;exact⟨by unfold ua;rw[P8];rfl,rfl⟩
 refine a1 func128 ntmps128 fun aG=> ?_;refine dn ?_;refine ek (fun m aL ai δ'=>∃k:Nat,m=2-k∧k≤2∧aL= [(0,.slice (some ⟨g,0,none⟩) 2 2),(8,.slice (some ⟨g,0,none⟩) 2 2),(9,.int .i64 (2:Nat)),(10,.int .i64 k)]∧I.le ai∧δ'= [KT g bB dD]∧(0<k→c.length≤32)∧(1<k→d.length≤32)) 2 [(0,.slice (some ⟨g,0,none⟩) 2 2),(8,.slice (some ⟨g,0,none⟩) 2 2),(9,.int .i64 (2:Nat)),(10,.int .i64 (0:Nat))] ⟨0,rfl,by omega,rfl,aa.le_refl _,rfl,fun h=>by omega,fun h=>by omega⟩ ⟨rfl,rfl,rfl,rfl,trivial⟩ ?_;rintro m _ I0 _ ⟨k,rfl,hk,rfl,bO,rfl,kW,GK⟩;refine aZ ?_;refine bF rfl (fun aV=> ?_) (fun aV=> ?_);have av:k<2:=by have h:=aV;simp at h;omega
 obtain⟨y,e3,ff,aW,aw,dX,EG,w1⟩:=Zp k av;refine aP ?_;refine aI (gH Fa rfl Has.here rfl (u1 (by rw[Nat.mul_one];exact aW))) ?_;refine aP ?_;by_cases jh:32<y.length;refine aI (yD rfl rfl rfl ah) ?_;refine dn ?_;refine dY ?_;exact⟨by unfold nV;rw[if_pos (by rcases w1 with⟨_,rfl⟩|⟨_,rfl⟩;exact .inl jh;exact .inr jh)];rfl,rfl⟩;refine aI (l2 rfl rfl rfl ah) ?_;refine b_ ?_;refine cV (2-(k+1)) [(0,.slice (some ⟨g,0,none⟩) 2 2),(8,.slice (some ⟨g,0,none⟩) 2 2),(9,.int .i64 (2:Nat)),(10,.int .i64 (k+1:Nat))] ah ⟨k+1,rfl,by omega,rfl,aa.ag,rfl,fun _=>by rcases w1 with⟨_,rfl⟩|⟨_,rfl⟩;omega;exact kW ah,fun _=>by rcases w1 with⟨_,rfl⟩|⟨_,rfl⟩;omega;omega⟩ ⟨rfl,rfl,rfl,rfl,trivial⟩;have bV:k=2:=by have h:=aV;simp at h;omega
 refine ic ?_;have sa:c.length≤32:=kW ah;have nL:d.length≤32:=GK ah;refine ek (fun m aL ai δ'=>∃k:Nat,m=2-k∧k≤2∧aL= [(5,.func (.func 165) #[] #[]),(18,.slice (some ⟨g,0,none⟩) 2 2),(19,.int .i64 (2:Nat)),(20,.int .i64 k)]∧I.le ai∧δ'= [KT g bB dD]∧(0<k→c.any ua=false)∧(1<k→d.any ua=false)) 2 [(5,.func (.func 165) #[] #[]),(18,.slice (some ⟨g,0,none⟩) 2 2),(19,.int .i64 (2:Nat)),(20,.int .i64 (0:Nat))] ⟨0,rfl,by omega,rfl,aa.ag,rfl,fun h=>by omega,fun h=>by omega⟩ ⟨rfl,rfl,rfl,rfl,trivial⟩ ?_;rintro m _ en _ ⟨b6,rfl,hk2,rfl,lJ,rfl,xj,si⟩;refine aZ ?_;refine bF rfl (fun c4=> ?_) (fun c4=> ?_);have jN:b6<2:=by have h:=c4;simp at h;omega
 obtain⟨y,e3,ff,aW,aw,dX,EG,w1⟩:=Zp b6 jN;refine aP ?_;refine aI (gH Fa rfl Has.here rfl (u1 (by rw[Nat.mul_one];exact aW))) ?_;refine aP ?_;refine bN rfl (O6 (p:=ua) (aw.mono lJ) (fun J x u cj hu af=>aog J u x (aa.le_trans lJ cj) hu (dX x af).1 (dX x af).2)) ?_;rintro v26 rq _ me ⟨rfl,rfl⟩;refine go2 ?_;refine bF rfl (fun fV=> ?_) (fun fV=> ?_);have aC:y.any ua=true:=fV;refine bA ?_;refine dY ?_;exact⟨by unfold nV;rw[if_neg ah,if_pos (by rw[←KS,←KS];rcases w1 with⟨_,rfl⟩|⟨_,rfl⟩;exact .inl aC;exact .inr aC)];rfl,rfl⟩;have aC:y.any ua=false:=fV;refine aP ?_;refine cV (2-(b6+1)) [(5,.func (.func 165) #[] #[]),(18,.slice (some ⟨g,0,none⟩) 2 2),(19,.int .i64 (2:Nat)),(20,.int .i64 (b6+1:Nat))] ah ⟨b6+1,rfl,by omega,rfl,aa.ag,rfl,fun _=>by rcases w1 with⟨_,rfl⟩|⟨_,rfl⟩;exact aC;exact xj ah,fun _=>by rcases w1 with⟨_,rfl⟩|⟨_,rfl⟩;omega;exact aC⟩ ⟨rfl,rfl,rfl,rfl,trivial⟩;have Zs:b6=2:=by have h:=c4;simp at h;omega
 refine bA ?_;refine dY ?_;exact⟨by rw[aod sa nL (by rw[←KS];exact xj ah) (by rw[←KS];exact si ah)];rfl,rfl⟩
theorem Zt{I:aa}{bB dD:Value}{c d:List ak}(aq:cf I bB c)(aH:cf I dD d)(hy:vm c)(ig:vm d):
 aS Tryz.prog 99 [bB,dD] I [] (fun v ai δ'=>(∃q,v=.tuple #[.bool q,.int .i64 (nV c d)]∧(q=true↔nV c d=0∧Sub c d))∧δ'= []):=by
 obtain⟨bH,bZ,bM⟩:=dK.shape aq;subst bM;obtain⟨cU,c6,bM⟩:=dK.shape aH;subst bM;have Zn:=aq.small;have Zo:=aH.small;have P9:hK c:=fun x af=>by have:=hy x af;omega
 have P_:hK d:=fun x af=>by have:=ig x af;omega
 refine a1 func99 ntmps99 fun aG=> ?_;refine bA ?_;refine c_ fun dk=> ?_;refine eo rfl (Zm aq aH P9 P_) (df.one aO.here) ?_;rintro v11 ry _ qE ⟨rfl,rfl⟩;refine aZ ?_;by_cases vp:nV c d≠0;refine cT ?_;refine bn ?_;exact⟨⟨false,rfl,by simp[vp]⟩,rfl⟩;have aB:nV c d=0:=Classical.not_not.1 vp;obtain⟨sa,nL,_,_⟩:=Zk aB;refine cT ?_;by_cases kE:d.length<c.length;refine aI (yD rfl rfl rfl ah) ?_;refine bA ?_;refine bn ?_;exact⟨⟨false,by rw[aB];rfl,by simp only[Bool.false_eq_true,false_iff];rintro⟨_,h⟩;have:=aof h;omega⟩,rfl⟩;refine aI (l2 rfl rfl rfl ah) ?_;refine b_ ?_;refine Nu (z:=.bool false) (size:=1) (bytes:=1) (xs:=(jl d.length).map Value.bool) underlying195 (by kernel_rfl) rfl rfl rfl ah ah (by rw[Nat.mul_one];exact(Nt _ _).trans (by simp[jl])) (fun ayN=> ?_);refine aX ?_;refine bw fun Om=> ?_;refine aP ?_;refine tm rfl (fun qI=> ?_);refine eo rfl (Ze ig c hy (jl d.length) _ _ _ [] _ (by simp[jl]) (aH.mono aa.ag) (aq.mono aa.ag) (g6.nil _) (fun x h=>by cases h)) (List.Perm.refl _) ?_;rintro v29 tt _ px ⟨⟨aoh,rfl,aoi⟩,rfl⟩;refine a_ ?_;refine bn ?_;exact⟨⟨aoh,by rw[aB];rfl,by rw[aoi,aoe];simp[aB]⟩,rfl⟩
def vq(c d:List ak)(i k:Nat):Prop:=∃(aj:i<c.length) (hk:k<d.length),c[i].neg≠d[k].neg∧∃θ,zA θ c[i] d[k]∧wY θ d ((jl d.length).set k true) (c.eraseIdx i)
def aoj(c d:List ak)(v:Value):Prop:=
  (nV c d≠0∧v=.tuple #[.int .i64 0,.bool false,.int .i64 (nV c d)])∨
  (nV c d=0∧(∀i k,¬vq c d i k)∧v=.tuple #[.int .i64 0,.bool false,.int .i64 0])∨
  (nV c d=0∧∃k i,vq c d i k∧(∀j,j<k→∀i,¬vq c d i j)∧v=.tuple #[.int .i64 (k:Nat),.bool true,.int .i64 0])
theorem aok{I:aa}{b b8 ie mb g:Nat}{xs:bU}{bs:List bx}{cU:Option Addr}{c6:Nat}{ra:Option Addr}{Qa rc:Nat}{c d:List ak}{us:List Bool}(aH:cf I (.slice cU d.length c6) d)(aq:cf I (.slice ra Qa rc) c)(hy:vm c)(ig:vm d)(jq:us.length=d.length)(cc:g6 I xs bs)(kb:tY bs):
 aS Tryz.prog 196 [.map (some b),.pointer (some ⟨b8,0,none⟩),.pointer (some ⟨ie,0,none⟩)] I [.map b xs,.box ie 36 [.slice ra Qa rc],.box b8 194 [.pointer (some ⟨mb,0,none⟩)],vn mb g cU c6 d.length,vo g d.length us] (fun v ai δ'=>(∃q,v=.bool q∧(q=true↔∃θ,Ext θ bs∧wY θ d us c))∧δ'= [.map b xs,.box ie 36 [.slice ra Qa rc],.box b8 194 [.pointer (some ⟨mb,0,none⟩)],vn mb g cU c6 d.length,vo g d.length us]):=by
 refine a1 func196 ntmps196 fun aG=> ?_;refine b_ ?_;refine eo rfl (Ze ig c hy us _ _ _ _ _ jq aH aq cc kb) ((List.Perm.cons _ (List.perm_append_comm (l₁:= [_,_])))) ?_;rintro so jt _ jJ ⟨⟨KU,rfl,aol⟩,rfl⟩;refine aK.view (View.perm (List.Perm.cons _ (List.perm_append_comm (l₂:= [_,_])))) ?_;refine a8 ?_;refine dY ?_;exact⟨⟨KU,rfl,aol⟩,rfl⟩
theorem aom{I:aa}{bB dD:Value}{c d:List ak}(aq:cf I bB c)(aH:cf I dD d)(hy:vm c)(ig:vm d):
 aS Tryz.prog 150 [bB,dD] I [] (fun v ai δ'=>aoj c d v∧δ'= []):=by
 obtain⟨bH,bZ,eK,bM,nB,mF,lQ,lR⟩:=id aq;subst bM;obtain⟨cU,c6,Zf,bM,Zg,Zh,GN,GO⟩:=id aH;subst bM;have P9:hK c:=fun x af=>by have:=hy x af;omega
 have P_:hK d:=fun x af=>by have:=ig x af;omega
 refine a1 func150 ntmps150 fun aG=> ?_;refine bW ?_;refine c_ fun BC=> ?_;refine eo rfl (Zm aq aH P9 P_) (df.one aO.here) ?_;rintro u0 ox _ nc ⟨rfl,rfl⟩;refine aZ ?_;by_cases kE:nV c d≠0;refine dn ?_;refine bn ?_;exact⟨.inl ⟨kE,rfl⟩,rfl⟩;have aB:nV c d=0:=Classical.not_not.1 kE;obtain⟨sa,nL,_,_⟩:=Zk aB;refine bA ?_;refine Nu (z:=.bool false) (size:=1) (bytes:=1) (xs:=(jl d.length).map Value.bool) underlying195 (by kernel_rfl) rfl rfl rfl ah ah (by rw[Nat.mul_one];exact(Nt _ _).trans (by simp[jl])) (fun GR=> ?_);refine aX ?_;refine bw fun w3=> ?_;refine bh fun b8=> ?_;refine bW ?_;have DL:(some (⟨GR,0,none⟩:Addr)).isSome=true:=rfl;refine bJ.view (View.sub (List.Sublist.cons_cons _ (List.Sublist.cons_cons _ (List.Sublist.cons_cons _ (List.nil_sublist _))))) ?_;refine ek (fun m aL ai δ'=>∃k:Nat,m=d.length-k∧k≤d.length∧aL= [(0,.slice bH c.length bZ),(8,.pointer (some ⟨b8,0,none⟩)),(27,.slice cU d.length c6),(28,.int .i64 d.length),(29,.int .i64 k)]∧ox.le ai∧δ'= [.box b8 194 [.pointer (some ⟨w3,0,none⟩)],vn w3 GR cU c6 d.length,vo GR d.length (jl d.length)]∧∀j,j<k→∀i,¬vq c d i j) d.length [(0,.slice bH c.length bZ),(8,.pointer (some ⟨b8,0,none⟩)),(27,.slice cU d.length c6),(28,.int .i64 d.length),(29,.int .i64 (0:Nat))] ⟨0,rfl,Nat.zero_le _,rfl,aa.le_refl _,rfl,fun j h=>by omega⟩ ⟨rfl,rfl,rfl,rfl,rfl,trivial⟩ ?_;rintro m _ I0 _ ⟨k,rfl,hk,rfl,bO,rfl,ix⟩;refine aZ ?_;refine bF rfl (fun bq=> ?_) (fun bq=> ?_);have av:k<d.length:=by simpa using bq
 obtain⟨dD,⟨la,lc,ra,rc,rfl,rF,iT⟩,GP⟩:=GO.fj GN av;have db:=GP.isSome;have hj:=ig _ (List.getElem_mem av);have x1:k<(jl d.length).length:=by simpa[jl]using av
 have aon:(jl d.length)[k]=false:=by simp[jl]
 have wW:(jl d.length)[k]? =some false:=by rw[List.getElem?_eq_getElem x1,aon]
 refine bg ?_;refine aI (cC (GP.mono aa.ag)) ?_;refine bh fun dk=> ?_;refine bW ?_;refine nC (xs':=((jl d.length).set k true).map Value.bool) k0 rfl rfl rfl rfl rfl rfl (by simp[c9,jl]) (by repeat (first|exact bc.here|apply bc.there)) (by rw[List.map_set,Nat.mul_one];exact Da (x:=.bool (jl d.length)[k]) (by rw[List.getElem?_map,List.getElem?_eq_getElem x1];rfl)) ?_;refine bA ?_;refine ek (fun m aL ai δ'=>∃i:Nat,m=c.length-i∧i≤c.length∧aL= [(0,.slice bH c.length bZ),(8,.pointer (some ⟨b8,0,none⟩)),(9,.int .i64 k),(10,.pointer (some ⟨dk,0,none⟩)),(27,.slice cU d.length c6),(28,.int .i64 d.length),(29,.int .i64 k),(40,.slice bH c.length bZ),(41,.int .i64 c.length),(42,.int .i64 i)]∧I0.le ai∧δ'= [.box dk 68 (hv d[k] la lc ra rc),.box b8 194 [.pointer (some ⟨w3,0,none⟩)],vn w3 GR cU c6 d.length,vo GR d.length ((jl d.length).set k true)]∧∀j,j<i→¬vq c d j k) c.length [(0,.slice bH c.length bZ),(8,.pointer (some ⟨b8,0,none⟩)),(9,.int .i64 k),(10,.pointer (some ⟨dk,0,none⟩)),(27,.slice cU d.length c6),(28,.int .i64 d.length),(29,.int .i64 k),(40,.slice bH c.length bZ),(41,.int .i64 c.length),(42,.int .i64 (0:Nat))] ⟨0,rfl,Nat.zero_le _,rfl,aa.le_refl _,rfl,fun j h=>by omega⟩ ⟨rfl,rfl,rfl,rfl,rfl,rfl,rfl,rfl,rfl,rfl,trivial⟩ ?_;rintro m _ en _ ⟨i,rfl,aj,rfl,lJ,rfl,Zu⟩;refine aZ ?_;refine bF rfl (fun c4=> ?_) (fun c4=> ?_);have zI:i<c.length:=by have h:=c4;simp at h;omega
 obtain⟨oQ,⟨dh,fO,g7,kh,rfl,dr,j7⟩,eN⟩:=lR.fj lQ zI;have gr:=eN.isSome;have BD:=hy _ (List.getElem_mem zI)
 have ly:¬vq c d i k→∀j,j<i+1→¬vq c d j k:=fun h j au=>by
  rcases Nat.lt_or_ge j i with q|q
  exact Zu j q;have e:j=i:=by omega
  subst e;exact h
 refine bg ?_;refine aI (cC (eN.mono aa.ag)) ?_;refine bh fun kc=> ?_;refine aP ?_;refine bN rfl (xM (aq.mono aa.ag)) ?_;rintro Ks Kt _ Ku ⟨aoo,aop,oL,rfl,Zv,rfl⟩;refine aR ?_;refine eo rfl (zu zI ah Zv.kd) (df.one aO.here) ?_;rintro aoq Qb _ Qc ⟨rfl,rfl⟩;refine bh fun ie=> ?_;refine a_ ?_;have hlen:c.length-1=(c.eraseIdx i).length:=by rw[List.length_eraseIdx];simp[zI]
 have aor:=(Zv.mono Qc).del zI;have aos:vm (c.eraseIdx i):=fun x af=>hy x (List.mem_of_mem_eraseIdx af);refine aK.dO (aO.there aO.here) ?_;rintro zG a53 aot GM aC Qd aou Qe;cases aC;have k8:cf zG (.slice aoo (c.length-1) aop) (c.eraseIdx i):=⟨_,_,_,by rw[hlen],by rw[←hlen];exact Qd,by omega,Qe,aor.mono GM⟩
 refine a8 ?_;by_cases vr:c[i].neg=d[k].neg;refine aI (vU (z:=false) underlying4 rfl rfl (by rw[vr];simp[yE])) ?_;refine fx ?_;refine bf.view ((View.drop aO.here).trans (View.drop aO.here)) ?_;refine cV (c.length-(i+1)) [(0,.slice bH c.length bZ),(8,.pointer (some ⟨b8,0,none⟩)),(9,.int .i64 k),(10,.pointer (some ⟨dk,0,none⟩)),(27,.slice cU d.length c6),(28,.int .i64 d.length),(29,.int .i64 k),(40,.slice bH c.length bZ),(41,.int .i64 c.length),(42,.int .i64 (i+1:Nat))] ah ⟨i+1,rfl,zI,rfl,aa.ag,rfl,ly (fun⟨_,_,h,_⟩=>h vr)⟩ ⟨rfl,rfl,rfl,rfl,rfl,rfl,rfl,rfl,rfl,rfl,trivial⟩;refine aI (vU (z:=true) underlying4 rfl rfl (by simp[yE,vr])) ?_;refine aX ?_;refine cZ ?_;refine tm rfl (fun KV=> ?_);refine aR ?_;refine cZ ?_;refine eo rfl (Y_ (a:=c[i]) (l:=d[k]) (bs:= []) (Q:=fun θ=>wY θ d ((jl d.length).set k true) (c.eraseIdx i)) (g6.nil _) (fun x h=>by cases h) ⟨dh,fO,g7,kh,rfl,dr.mono aa.ag,j7.mono aa.ag⟩ ⟨la,lc,ra,rc,rfl,rF.mono aa.ag,iT.mono aa.ag⟩ BD.1 BD.2 hj.1 hj.2 (fun J b' xs' jk cj mW xY=>cR.fq (args:= [_]) (caps:= [_,_]) aja (aok (aH.mono (aa.le_trans (show I.le zG from aa.ag) cj)) (k8.mono cj) aos ig (by simp[jl]) mW xY))) (List.Perm.cons _ (List.Perm.cons _ (List.perm_append_comm (l₁:= [_,_])))) ?_;rintro v63 GS _ KW ⟨⟨Qf,rfl,aov⟩,rfl⟩;have GQ:Qf=true↔vq c d i k:=by rw[aov];constructor;rintro⟨θ,_,aT,dA⟩;exact⟨zI,av,vr,θ,aT,dA⟩;rintro⟨_,_,_,θ,aT,dA⟩;exact⟨θ,YQ θ,aT,dA⟩
 refine aR ?_;refine bF rfl (fun fV=> ?_) (fun fV=> ?_);have aC:Qf=true:=fV;refine ic ?_;refine bn ?_;exact⟨.inr (.inr ⟨aB,k,i,GQ.1 aC,ix,rfl⟩),rfl⟩;have aC:¬Qf=true:=by rw[fV];simp
 refine aP ?_;refine bf.view ((View.drop aO.here).trans ((View.drop aO.here).trans ((View.perm (List.perm_append_comm (l₁:= [_,_,_]))).trans (View.drop aO.here)))) ?_;refine cV (c.length-(i+1)) [(0,.slice bH c.length bZ),(8,.pointer (some ⟨b8,0,none⟩)),(9,.int .i64 k),(10,.pointer (some ⟨dk,0,none⟩)),(27,.slice cU d.length c6),(28,.int .i64 d.length),(29,.int .i64 k),(40,.slice bH c.length bZ),(41,.int .i64 c.length),(42,.int .i64 (i+1:Nat))] ah ⟨i+1,rfl,zI,rfl,aa.ag,rfl,ly (fun h=>aC (GQ.2 h))⟩ ⟨rfl,rfl,rfl,rfl,rfl,rfl,rfl,rfl,rfl,rfl,trivial⟩;have ayO:i=c.length:=by have h:=c4;simp at h;omega
 refine bW ?_;refine nC (xs':=(jl d.length).map Value.bool) k0 rfl rfl rfl rfl rfl rfl (by simp[c9,jl]) (by repeat (first|exact bc.here|apply bc.there)) (by rw[Nat.mul_one];have e:=congrArg (List.map Value.bool) (Zd wW);rw[List.map_set]at e;rw[←e];exact Da (x:=.bool true) (by rw[List.getElem?_map,List.getElem?_set_self x1];rfl)) ?_;refine aP ?_;refine bf.view (View.drop aO.here) ?_;refine cV (d.length-(k+1)) [(0,.slice bH c.length bZ),(8,.pointer (some ⟨b8,0,none⟩)),(27,.slice cU d.length c6),(28,.int .i64 d.length),(29,.int .i64 (k+1:Nat))] ah ⟨k+1,rfl,av,rfl,aa.ag,rfl,fun j au x2 ev=> ?_⟩ ⟨rfl,rfl,rfl,rfl,rfl,trivial⟩;rcases Nat.lt_or_ge j k with q|q
 exact ix j q x2 ev;have e:j=k:=by omega
 subst e;exact Zu x2 (by obtain⟨h,_⟩:=ev;omega) ev;have bV:k=d.length:=by simp at bq;omega
 refine cT ?_;refine bn ?_;exact⟨.inr (.inl ⟨aB,fun i cB ev=>ix cB (by obtain⟨_,h,_⟩:=ev;omega) i ev,rfl⟩),rfl⟩
end
def GU(θ:Int→T)(d:List ak):List ak→List Nat→Prop
  | [],[]=>True
  |a::r,k::gO=>(∃h:k<d.length,d[k].neg=a.neg∧zA θ a d[k])∧GU θ d r gO
  | [],_::_=>False
  |_::_,[]=>False
theorem GV{θ:Int→T}{d:List ak}:∀{c:List ak} {us:List Bool},wY θ d us c↔∃gO,GU θ d c gO∧gO.Nodup∧∀j∈gO,us[j]? =some false
  | [],us=>⟨fun _=>⟨[],trivial,List.nodup_nil,fun j h=>by cases h⟩,fun _=>trivial⟩
  |a::r,us=>by
   constructor;rintro⟨k,hk,ab,ae,aF,bb⟩;obtain⟨gO,aQ,aT,dA⟩:=GV.1 bb;have cu:∀j∈gO,j≠k∧us[j]? =some false:=fun j au=>by have:=dA j au;by_cases q:k=j;subst q;have hk2:=(List.getElem?_eq_some_iff.1 ab).1;rw[List.getElem?_set_self hk2]at this;cases this;rw[List.getElem?_set_ne q]at this;exact⟨fun e=>q e.symm,this⟩
   refine⟨k::gO,⟨⟨hk,ae,aF⟩,aQ⟩,List.nodup_cons.2 ⟨fun hm=>(cu k hm).1 rfl,aT⟩,fun j au=> ?_⟩;rcases List.mem_cons.1 au with rfl|au
   exact ab;exact(cu j au).2;rintro⟨gO,aQ,aT,dA⟩
   cases gO with
   |nil=>exact aQ.elim
   |cons k gO=>obtain⟨⟨hk,ae,aF⟩,bb⟩:=aQ;obtain⟨aD,aT⟩:=List.nodup_cons.1 aT;refine⟨k,hk,dA k (List.mem_cons_self ..),ae,aF,GV.2 ⟨gO,bb,aT,fun j au=> ?_⟩⟩;rw[List.getElem?_set_ne (fun e=>aD (by rw[e];exact au))];exact dA j (List.mem_cons_of_mem _ au)
theorem aow{n j:Nat}:(jl n)[j]? =some false↔j<n:=by
 unfold jl;rw[List.getElem?_replicate];constructor;intro h;split at h;assumption;cases h;intro h;rw[if_pos h]
theorem KX{θ:Int→T}{d:List ak}:∀{c:List ak} {gO:List Nat},GU θ d c gO→∀j∈gO,j<d.length
  | [],[],_,j,h=>by cases h
  |a::r,k::gO,h,j,au=>by
   rcases List.mem_cons.1 au with rfl|au
   exact h.1.1;exact KX h.2 j au
  | [],_::_,h,_,_=>h.elim
  |_::_,[],h,_,_=>h.elim
theorem aox{c d:List ak}:Sub c d↔∃θ gO,GU θ d c gO∧gO.Nodup:=by
 unfold Sub;constructor;rintro⟨θ,h⟩;obtain⟨gO,aQ,aT,_⟩:=GV.1 h;exact⟨θ,gO,aQ,aT⟩;rintro⟨θ,gO,aQ,aT⟩;exact⟨θ,GV.2 ⟨gO,aQ,aT,fun j au=>aow.2 (KX aQ j au)⟩⟩
mutual
theorem GW(zJ zK:Int→T):∀t:T,bI (fun v=>bI zK (zJ v)) t=bI zK (bI zJ t)
  |.mk h us=>by rw[pR,pR];by_cases q:h<0;rw[if_pos q,if_pos q];rw[if_neg q,if_neg q,pR,if_neg q,Zw zJ zK us]
theorem Zw(zJ zK:Int→T):∀ts:List T,fN (fun v=>bI zK (zJ v)) ts=fN zK (fN zJ ts)
  | []=>rfl
  |t::r=>by have ab:=GW zJ zK t;have ae:=Zw zJ zK r;rw[jQ]at ae⊢;rw[jQ,jQ,List.map_cons,List.map_cons,List.map_cons,ab];rw[jQ,jQ]at ae;rw[ae]
end
def DM(v:Int):T:=.mk (-1-v) []
def KY(x:ak):Prop:=c2 x.l=0∧c2 x.r=0
theorem GX{c:List ak}(h:(bE c).any c5=false):∀x∈c,KY x:=fun x af=>by
 have key:∀t∈bE c,c2 t=0:=fun t ar=>by have:=List.any_eq_false.1 h t ar;unfold c5 at this;simpa using this
 exact⟨key _ (List.mem_flatMap.2 ⟨x,af,by simp⟩),key _ (List.mem_flatMap.2 ⟨x,af,by simp⟩)⟩
section
attribute [local irreducible] aK bf bJ
def rN(n:Int)(t:T):T:=.mk (t.head-n) []
def ub(n:Int)(t:T):T:=iD (rN n) t
theorem aoy(n:Int)(t:T):(ub n t).size≤t.size:=by
 have:=Oy (rN n) 1 (Nat.le_refl _) (fun t _=>by have:=t.size_pos;simp[rN,T.size,bG];omega) t;unfold ub;omega
def qM(n:Int)(t:T):Int:=if c2 t≠0 then 1 else if n<0 then 1 else if 255<n then 1 else c2 (ub n t)
def pS(l:List Int):Int:=l.foldl (fun a v=>max a (v+1)) 0
theorem aoz(l:List Int)(k:Nat)(h:k<l.length):pS (l.take (k+1))=max (pS (l.take k)) (l[k]+1):=by
 unfold pS;rw[List.take_succ_eq_append_getElem h,List.foldl_append];rfl
theorem Zx(l:List Int):0≤pS l:=by
 have key:∀(l:List Int) (a:Int),a≤l.foldl (fun a v=>max a (v+1)) a:=by
  intro l
  induction l with
  |nil=>intro a;exact Int.le_refl _
  |cons x r aY=>intro a;exact Int.le_trans ah (aY (max a (x+1)))
 exact key l 0
theorem aoA:∀{l:List Int} {v:Int},v∈l→v<pS l:=by
 have mono:∀(l:List Int) (a:Int),a≤l.foldl (fun a v=>max a (v+1)) a:=by
  intro l
  induction l with
  |nil=>intro a;exact Int.le_refl _
  |cons x r aY=>intro a;exact Int.le_trans ah (aY (max a (x+1)))
 have key:∀(l:List Int) (a v:Int),v∈l→v<l.foldl (fun a v=>max a (v+1)) a:=by
  intro l
  induction l with
  |nil=>intro a v h;cases h
  |cons x r aY=>
   intro a v h;rcases List.mem_cons.1 h with rfl|h
   have:=mono r (max a (v+1));show v<r.foldl _ (max a (v+1));omega;exact aY _ v h
 intro l v h;exact key l 0 v h
def x3(t:T):Bool:=decide (0<(eB (dd 1 t)).length)
def sQ(n:Int)(t:T):T:=if x3 t=true then ub n t else t
def vt(n:Int)(t:T):Bool:=x3 t&&decide (qM n t≠0)
def eC(c d:List ak):List ak:=iE d ((dL [] (bE d)).1.map (sQ (pS (gX c))))
def oR(c d:List ak):Bool:=(bE d).any c5||((bE c).any c5||(dL [] (bE d)).1.any (vt (pS (gX c))))
theorem aoB{α:Type}(f:α→α)(L:List α)(k:Nat)(h:k<L.length):((L.take k).map f++L.drop k)[k]'(by simp;omega)=L[k]:=by
 rw[List.getElem_append_right (by simp;omega)];simp[Nat.min_eq_left (Nat.le_of_lt h)]
theorem aoC{α:Type}(f:α→α)(L:List α)(k:Nat)(h:k<L.length):((L.take k).map f++L.drop k).set k (f L[k])=(L.take (k+1)).map f++L.drop (k+1):=by
 have e:((L.take k).map f).length=k:=by simp;omega
 rw[List.set_append_right _ _ ah,e,Nat.sub_self,List.drop_eq_getElem_cons h,List.set_cons_zero,List.take_succ_eq_append_getElem h,List.map_append];simp
theorem aoD{α:Type}(f:α→α)(L:List α)(k:Nat)(h:k<L.length)(e:f L[k]=L[k]):(L.take k).map f++L.drop k=(L.take (k+1)).map f++L.drop (k+1):=by
 rw[List.drop_eq_getElem_cons h,List.take_succ_eq_append_getElem h,List.map_append];simp[e]
theorem cF.zm{I:aa}:∀{ts:List T} {xs:List Value},cF I xs ts→bd sH I xs ts
  | [],xs,h=>List.eq_nil_of_length_eq_zero (by simpa using h.1)
  |t::r,[],h=>by have:=h.1;simp at this
  |t::r,[_],h=>by have:=h.1;simp at this;omega
  |t::r,x::y::zs,h=>by
   obtain⟨s,ab,ae,aF⟩:=h.2 0 (by simp);simp at ab ae aF;subst ab;subst ae;refine⟨[_,_],zs,rfl,⟨s.1,s.2,rfl,aF⟩,cF.zm ⟨by have:=h.1;simp at this;omega,fun i aj=> ?_⟩⟩;obtain⟨s,c8,b6,hs⟩:=h.2 (i+1) (by simpa using aj);refine⟨s,?_,?_,by simpa using hs⟩;have e:(i+1)*2=i*2+1+1:=by omega
   rw[e]at c8;simpa using c8;have e:(i+1)*2+1=i*2+1+1+1:=by omega
   rw[e]at b6;simpa using b6
theorem Zy(aN:List Int)(ts:List T):bG (dL aN ts).1≤bG ts:=by
 have key:∀(n:Nat),(∀(t:T) (aN:List Int),t.size≤n→(fA aN t).1.size≤t.size)∧∀(ts:List T) (aN:List Int),bG ts≤n→bG (dL aN ts).1≤bG ts:=by
  intro n
  induction n with
  |zero=>
   refine⟨fun t aN h=>by have:=t.size_pos;omega,fun ts aN h=> ?_⟩
   cases ts with
   |nil=>simp[dL]
   |cons t r=>have:=t.size_pos;simp[bG]at h;omega
  |succ n aY=>
    have od:∀(t:T) (aN:List Int),t.size≤n+1→(fA aN t).1.size≤t.size:=fun t aN h=>by obtain⟨k,ts⟩:=t;simp only[T.size]at h;simp only[fA];split;simp[T.size,bG];have:=aY.2 ts aN ah;simp only[T.size];omega
    refine⟨od,fun ts=> ?_⟩
    induction ts with
    |nil=>intro aN _;simp[dL]
    |cons t r GA=>intro aN h;simp only[bG]at h;have ab:=od t aN ah;have ae:=GA (fA aN t).2 ah;simp only[dL,bG];omega
 exact(key (bG ts)).2 ts aN (Nat.le_refl _)
def DN(n:Int)(t:T):T:=.mk (IntKind.i64.wrap (t.head-n)) []
theorem aoE(x:Int):dZ (IntKind.i64.wrap x):=by unfold dZ;rw[IntKind.wrap_i64];omega
mutual
theorem Zz{n:Int}(aD:0≤n∧n≤255):∀t:T,(∀k∈cq t,-256≤k)→iD (DN n) t=iD (rN n) t
  |.mk h us,hk=>by rw[ji]at hk;simp only[iD];split;rename_i kF;have:-256≤h:=hk h (List.mem_cons_self ..);simp only[DN,rN,T.head];rw[Av ⟨by omega,by omega⟩];rw[ZA aD us fun k ir=>hk k (List.mem_cons_of_mem _ ir)]
theorem ZA{n:Int}(aD:0≤n∧n≤255):∀us:List T,(∀k∈us.flatMap cq,-256≤k)→gL (DN n) us=gL (rN n) us
  | [],_=>rfl
  |t::r,hk=>by rw[List.flatMap_cons]at hk;simp only[gL];rw[Zz aD t fun k h=>hk k (List.mem_append_left _ h),ZA aD r fun k h=>hk k (List.mem_append_right _ h)]
end
theorem KZ{t:T}(h:c2 t=0):∀k∈cq t,-256≤k:=fun k hk=>by obtain⟨x,af,rfl⟩:=List.mem_map.1 hk;exact(F1 h x af).2
theorem Qg:∀{l:List (Nat×T)} {v:Int},v∈eB l→∃x∈l,x.2.head= -1-v∧0≤v:=by
 intro l
 induction l using FU with
 |aB=>intro v h;cases h
 |ab l y aY=>
  intro v h;rw[FG]at h;split at h;rename_i aw;rcases List.mem_append.1 h with h|h
  obtain⟨x,af,e⟩:=aY h;exact⟨x,List.mem_append_left _ af,e⟩;simp at h;subst h;exact⟨y,by simp,by omega,aw.1⟩;obtain⟨x,af,e⟩:=aY h;exact⟨x,List.mem_append_left _ af,e⟩
theorem Qh{t:T}{x:Nat×T}(af:x∈dd 1 t):x.2.head∈cq t:=by
 have ae:x.2∈(dd 1 t).map (·.2):=List.mem_map_of_mem (f:=fun x:Nat×T=>x.2) af;rw[JU 1 true t]at ae;obtain⟨y,aw,e⟩:=List.mem_map.1 ae;rw[←e];exact List.mem_map_of_mem (f:=fun x:Bool×T=>x.2.head) aw
theorem Qi:∀{ts:List T} {acc:List Int} {v:Int},v∈ih acc ts→v∈acc∨∃t∈ts,v∈eB (dd 1 t)
  | [],acc,v,h=>.inl h
  |t::r,acc,v,h=>by
   rcases Qi (ts:=r) (acc:=fM acc (eB (dd 1 t))) h with h|⟨u,hu,h⟩
   rcases(Ko _ _ _).1 h with h|h
   exact .inl h;exact .inr ⟨t,List.mem_cons_self ..,h⟩;exact .inr ⟨u,List.mem_cons_of_mem _ hu,h⟩
theorem K0{c:List ak}(h:(bE c).any c5=false):∀v∈gX c,0≤v∧v≤255:=fun v ax=>by
 rcases Qi ax with h|⟨t,ar,ax⟩
 cases h;obtain⟨x,af,e,aB⟩:=Qg ax;have al:c5 t=false:=by simpa using List.any_eq_false.1 h t ar
 have aq:c2 t=0:=by unfold c5 at al;simpa using al
 have:=KZ aq _ (Qh af);omega
theorem aoF{I:aa}{n:Int}{v:Value}{t:T}(ax:ba I v t):
 aS Tryz.prog 214 [.int .i64 n,v] I [] (fun v ai δ'=>ba ai v (DN n t)∧δ'= []):=by
 obtain⟨a0,bu,rfl,ib⟩:=ax.shape;refine a1 func214 ntmps214 fun aG=> ?_;refine go2 ?_;refine bw fun b3=> ?_;refine bh fun b4=> ?_;refine aP ?_;refine aI (TM rfl rfl) ?_;refine a_ ?_;refine bn ?_;exact⟨ba.mk _ (DN n t) (aoE _) (ed.nil _),rfl⟩
theorem aoG{I:aa}{n:Int}{v:Value}{t:T}(ax:ba I v t)(g_:t.size≤1000000000):
 aS Tryz.prog 181 [v,.int .i64 n] I [] (fun v ai δ'=>(∃u,v=.tuple #[u,.int .i64 (qM n t)]∧ba ai u (if qM n t=0 then ub n t else jd))∧δ'= []):=by
 obtain⟨a0,bu,rfl,ib⟩:=ax.shape;refine a1 func181 ntmps181 fun aG=> ?_;refine go2 ?_;refine bw fun b2=> ?_;refine bh fun b4=> ?_;refine aP ?_;refine bN rfl (wu ax g_) ?_;rintro mM je _ kA ⟨rfl,rfl⟩;by_cases nf:c2 t≠0;have he:qM n t=1:=if_pos nf;refine xo ?_;refine bn ?_;exact⟨⟨_,by rw[he];rfl,by rw[he,if_neg (by decide)];exact sn _⟩,rfl⟩;refine aR ?_;by_cases oA:n<0;have he:qM n t=1:=by unfold qM;rw[if_neg nf,if_pos oA]
 refine iR ?_;refine bn ?_;exact⟨⟨_,by rw[he];rfl,by rw[he,if_neg (by decide)];exact sn _⟩,rfl⟩;refine a8 ?_;by_cases lK:255<n;have he:qM n t=1:=by unfold qM;rw[if_neg nf,if_neg oA,if_pos lK]
 refine dn ?_;refine bn ?_;exact⟨⟨_,by rw[he];rfl,by rw[he,if_neg (by decide)];exact sn _⟩,rfl⟩;have he:qM n t=c2 (ub n t):=by unfold qM;rw[if_neg nf,if_neg oA,if_neg lK]
 have hw:iD (DN n) t=ub n t:=Zz ⟨by omega,by omega⟩ t (KZ ah);refine bW ?_;refine bN rfl (Ww (I0:=je) (fun J v u cj hu=>cR.A8 (firsts:= [_]) ajb (aoF hu)) t.size t (Nat.le_refl _) _ _ (aa.le_refl _) (ax.mono aa.ag)) ?_;rintro u7 u9 _ rz ⟨ZB,rfl⟩;rw[hw]at ZB;refine bN rfl (WD ZB (by have:=aoy n t;omega)) ?_;rintro v22 nm _ rH ⟨⟨ayP,rfl,Dl⟩,rfl⟩;obtain⟨a22,J8,rfl,_⟩:=Dl.shape;refine aP ?_;refine bn ?_;exact⟨⟨_,by rw[he];rfl,by rw[he];exact Dl⟩,rfl⟩
theorem aoH{I:aa}{v:Value}{t:T}(ax:ba I v t)(g_:t.size≤1000000000):
 aS Tryz.prog 178 [v] I [] (fun v _ δ'=>v=.bool (c5 t)∧δ'= []):=by
 obtain⟨c3,cK,rfl,_⟩:=ax.shape;refine a1 func178 ntmps178 fun aG=> ?_;refine go2 ?_;refine bw fun e2=> ?_;refine aZ ?_;refine bN rfl (wu ax g_) ?_;rintro v4 Kl _ Km ⟨rfl,rfl⟩;refine aI (kV (z:=c5 t) rfl rfl rfl) ?_;refine a8 ?_;refine bn ?_;exact⟨rfl,rfl⟩
theorem aoI{I:aa}{bz cN:Value}{c d:List ak}(bk:cf I bz c)(al:cf I cN d)(hy:bG (bE c)≤100000)(ig:bG (bE d)≤100000):
 aS Tryz.prog 135 [bz,cN] I [] (fun v ai δ'=>((oR c d=true∧v=.tuple #[.slice none 0 0,.int .i64 1])∨(oR c d=false∧∃a k,v=.tuple #[.slice a d.length k,.int .i64 0]∧cf ai (.slice a d.length k) (eC c d)))∧δ'= []):=by
 have fw:=wL d;have bD:=Ge hy;obtain⟨cU,c6,bM⟩:=dK.shape al;subst bM;have uc:=al.small;refine a1 func135 ntmps135 fun aG=> ?_;refine br ?_;refine bN rfl (Gf al) ?_;rintro wB mR _ sx ⟨aoJ,rfl⟩;refine bN rfl (XP aoJ ig) ?_;rintro mO jK K1 jf aoK;refine aX ?_;rcases aoK with⟨wO,rfl,rfl⟩|⟨xO,rO,rP,zs,rfl,a2,rfl⟩
 refine C0 ?_;refine bn ?_;exact⟨.inl ⟨by unfold oR;rw[wO];rfl,rfl⟩,rfl⟩;obtain⟨L,eu⟩:∃L,L=(dL [] (bE d)).1:=⟨_,rfl⟩
 have aoL:L.length=(bE d).length:=by rw[eu];exact wN _ _
 rw[←eu]at a2;have aoM:=cF.zm a2;have aoN:bG L≤bG (bE d):=by rw[eu];exact Zy _ _
 obtain⟨N,dM⟩:∃N,N=pS (gX c):=⟨_,rfl⟩
 refine cT ?_;refine cZ ?_;refine bN rfl (Gf (bk.mono aa.ag)) ?_;rintro v23 pJ _ pK ⟨aoO,rfl⟩;refine cZ ?_;refine bN rfl (Dk (p:=c5) aoO (fun J u t cj hu ar=>aS.tc (args:= [_]) (by kernel_rfl) (aoH hu (by have:=bD t ar;omega)))) ?_;rintro oE mQ _ lL ⟨rfl,rfl⟩;by_cases pE:(bE c).any c5=true;rw[pE];refine bW ?_;refine bn ?_;exact⟨.inl ⟨by unfold oR;rw[xO,pE];rfl,rfl⟩,rfl⟩;have K2:(bE c).any c5=false:=by simpa using pE
 rw[K2];have aoP:=K0 K2;refine gk ?_;refine bN rfl (am4 (bk.mono aa.ag) hy) ?_;rintro v27 u3 _ wm ⟨Qj,rfl⟩;have ayQ:=Qj.len;obtain⟨ud,kC,rfl⟩:=Qj.shape;refine a_ ?_;refine ek (fun m aL ai δ'=>∃k:Nat,m=(gX c).length-k∧k≤(gX c).length∧aL= [(1,.slice cU d.length c6),(6,.slice rO (bE d).length rP),(8,.int .i64 (pS ((gX c).take k))),(27,.slice ud (gX c).length kC),(28,.int .i64 (gX c).length),(29,.int .i64 k)]∧u3.le ai∧δ'= [oG rO rP (bE d).length zs]) (gX c).length [(1,.slice cU d.length c6),(6,.slice rO (bE d).length rP),(8,.int .i64 0),(27,.slice ud (gX c).length kC),(28,.int .i64 (gX c).length),(29,.int .i64 (0:Nat))] ⟨0,rfl,Nat.zero_le _,rfl,aa.le_refl _,rfl⟩ ⟨rfl,rfl,rfl,rfl,rfl,rfl,trivial⟩ ?_;rintro m _ I0 _ ⟨k,rfl,hk,rfl,bO,rfl⟩;refine aZ ?_;refine bF rfl (fun bq=> ?_) (fun bq=> ?_);have av:k<(gX c).length:=by simpa using bq
 have ue:=Qj.rp k av;have gr:=ue.isSome;have gw:=aoP _ (List.getElem_mem av);have JD:=aoz (gX c) k av;refine aP ?_;refine aI (cC (ue.mono bO)) ?_;refine aZ ?_;refine aI (tg (c:=(gX c)[k]+1) rfl rfl rfl ah) ?_;refine aI (IH rfl rfl) ?_;refine bg ?_;refine cV ((gX c).length-(k+1)) [(1,.slice cU d.length c6),(6,.slice rO (bE d).length rP),(8,.int .i64 (pS ((gX c).take (k+1)))),(27,.slice ud (gX c).length kC),(28,.int .i64 (gX c).length),(29,.int .i64 (k+1:Nat))] ah ⟨k+1,rfl,av,rfl,aa.ag,rfl⟩ ⟨rfl,rfl,by rw[JD];rfl,rfl,rfl,rfl,trivial⟩;have bV:k=(gX c).length:=by simp at bq;omega
 subst bV;rw[List.take_length,←dM];refine dn ?_;refine ek (fun m aL ai δ'=>∃(k:Nat) (ys:List Value),m=L.length-k∧k≤L.length∧aL= [(1,.slice cU d.length c6),(6,.slice rO (bE d).length rP),(8,.int .i64 N),(38,.slice rO (bE d).length rP),(39,.int .i64 (bE d).length),(40,.int .i64 k)]∧I0.le ai∧δ'= [oG rO rP (bE d).length ys]∧bd sH ai ys ((L.take k).map (sQ N)++L.drop k)∧∀j (h:j<L.length),j<k→vt N L[j]=false) L.length [(1,.slice cU d.length c6),(6,.slice rO (bE d).length rP),(8,.int .i64 N),(38,.slice rO (bE d).length rP),(39,.int .i64 (bE d).length),(40,.int .i64 (0:Nat))] ⟨0,zs,rfl,Nat.zero_le _,rfl,aa.le_refl _,rfl,aoM.mono aa.ag,fun j _ h=>by omega⟩ ⟨rfl,rfl,rfl,rfl,rfl,rfl,trivial⟩ ?_;rintro m _ en _ ⟨b6,ys,rfl,hk2,rfl,lJ,rfl,dX,cn⟩;refine aZ ?_;refine bF rfl (fun c4=> ?_) (fun c4=> ?_);have jN:b6<L.length:=by have h:=c4;simp at h;omega
 have qN:b6<((L.take b6).map (sQ N)++L.drop b6).length:=by simp;omega
 have aW:=dX.at qN;rw[aoB _ L b6 jN]at aW;obtain⟨vs,⟨eQ,cJ,rfl,K3⟩,_,r,jP⟩:=aW;have hj:L[b6].size≤100000:=by have:=Ge (Nat.le_trans aoN ig) _ (List.getElem_mem jN);omega
 refine aP ?_;refine aK.gK Has.here ah (fun bo eV=> ?_);refine aX ?_;refine aI (gH (v:=.agg #[.int .i64 L[b6].head,.slice eQ L[b6].args.length cJ]) fc rfl Has.here bo (by rw[jP];rfl)) ?_;refine bh fun kc=> ?_;refine bg ?_;refine bN rfl (JC K3 ah) ?_;rintro v46 GY _ GZ ⟨aoQ,rfl⟩;obtain⟨fW,eK,rfl⟩:=aoQ.shape;refine aX ?_;by_cases JK:(eB (dd 1 L[b6])).length=0;have iV:x3 L[b6]=false:=by unfold x3;rw[JK];rfl
 have j9:sQ N L[b6]=L[b6]:=by unfold sQ;rw[iV];rfl
 have ha:vt N L[b6]=false:=by unfold vt;rw[iV];rfl
 refine bW ?_;refine bf.view (View.drop aO.here) ?_;refine cV (L.length-(b6+1)) [(1,.slice cU d.length c6),(6,.slice rO (bE d).length rP),(8,.int .i64 N),(38,.slice rO (bE d).length rP),(39,.int .i64 (bE d).length),(40,.int .i64 (b6+1:Nat))] ah ⟨b6+1,ys,rfl,jN,rfl,aa.ag,rfl,by rw[←aoD _ L b6 jN j9];exact dX.mono aa.ag,fun j au xN=> ?_⟩ ⟨rfl,rfl,rfl,rfl,rfl,rfl,trivial⟩;rcases Nat.lt_or_ge j b6 with q|q
 exact cn j au q;have e:j=b6:=by omega
 subst e;exact ha;have iV:x3 L[b6]=true:=by unfold x3;rw[decide_eq_true ah]
 have j9:sQ N L[b6]=ub N L[b6]:=by unfold sQ;rw[iV];rfl
 refine bW ?_;refine bN rfl (aoG (n:=N) (K3.mono aa.ag) ah) ?_;rintro G0 G1 _ K4 ⟨⟨ayR,rfl,Qk⟩,rfl⟩;obtain⟨w,hw⟩:∃w,w=if qM N L[b6]=0 then ub N L[b6]else jd:=⟨_,rfl⟩
 rw[←hw]at Qk;obtain⟨ZC,ZD,rfl,_⟩:=Qk.shape;obtain⟨ZE,⟨_,_,rfl,_⟩,_,pT⟩:=(dX.mono (show en.le G1 from aa.ag)).store (b:=w) qN;obtain⟨BE,ch,rQ⟩:=pT 0 [.int .i64 w.head,.slice ZC w.args.length ZD] _ rfl ⟨ZC,ZD,rfl,Qk⟩;refine a8 ?_;refine nC (xs':=BE) fc rfl rfl bo rfl rfl rfl (by simp[c9]) (bc.there bc.here) ch ?_;refine aZ ?_;by_cases K5:qM N L[b6]≠0;refine fT ?_;refine bn ?_;exact⟨.inl ⟨by unfold oR;rw[xO,K2,←eu,←dM];show L.any (vt N)=true;exact List.any_eq_true.2 ⟨L[b6],List.getElem_mem jN,by unfold vt;rw[iV];simp[K5]⟩,rfl⟩,rfl⟩;have ZF:qM N L[b6]=0:=Classical.not_not.1 K5;rw[if_pos ZF]at hw;have ha:vt N L[b6]=false:=by unfold vt;rw[ZF];simp
 rw[hw,←j9,aoC _ L b6 jN]at rQ;refine bA ?_;refine bf.view (View.drop aO.here) ?_;refine cV (L.length-(b6+1)) [(1,.slice cU d.length c6),(6,.slice rO (bE d).length rP),(8,.int .i64 N),(38,.slice rO (bE d).length rP),(39,.int .i64 (bE d).length),(40,.int .i64 (b6+1:Nat))] ah ⟨b6+1,BE,rfl,jN,rfl,aa.ag,rfl,rQ,fun j au xN=> ?_⟩ ⟨rfl,rfl,rfl,rfl,rfl,rfl,trivial⟩;rcases Nat.lt_or_ge j b6 with q|q
 exact cn j au q;have e:j=b6:=by omega
 subst e;exact ha;have Zs:b6=L.length:=by have h:=c4;simp at h;omega
 refine aP ?_;refine aK.dO aO.here ?_;rintro Ql ayS ayT K6 aC aoR ayU aoS;cases aC;rw[Zs,List.take_length,List.drop_length,List.append_nil]at dX;have oS:(L.map (sQ N)).length=(bE d).length:=by rw[List.length_map,aoL]
 have e1:=(dX.mono K6).tC aoS (by rw[oS];exact aoR) (by rw[oS,fw];omega);rw[oS]at e1;refine go2 ?_;refine bN rfl (XS (al.mono aa.ag) e1 (by rw[oS];exact fw)) ?_;rintro v63 GS _ KW ⟨ZG,rfl⟩;have aoT:(iE d (L.map (sQ N))).length=d.length:=Kn d _ (by rw[oS];exact fw);obtain⟨a63,aoU,bM⟩:=dK.shape ZG;rw[aoT]at bM;subst bM;refine a_ ?_;refine bn ?_;exact⟨.inr ⟨by unfold oR;rw[xO,K2,←eu,←dM];show L.any (vt N)=false;exact List.any_eq_false.2 fun t ar=>by obtain⟨j,au,rfl⟩:=List.getElem_of_mem ar;rw[cn j au ah];simp,a63,aoU,rfl,by unfold eC;rw[←eu,←dM];exact ZG⟩,rfl⟩
end
theorem G2:∀(c:List ak) (bj:List T),bj.length=2*c.length→bE (iE c bj)=bj
  | [],[],h=>rfl
  | [],_::_,h=>by simp at h
  |x::r,[],h=>by simp at h
  |x::r,[a],h=>by simp at h;omega
  |x::r,a::b::s,h=>by show[a,b]++bE (iE r s)=_;rw[G2 r s (by simp at h;omega)];rfl
theorem ZH:∀(c:List ak) (bj us:List T),bj.length=2*c.length→us.length=2*c.length→iE (iE c bj) us=iE c us
  | [],bj,us,h,k=>by cases bj<;>cases us<;>rfl
  |x::r,[],us,h,k=>by simp at h
  |x::r,[a],us,h,k=>by simp at h;omega
  |x::r,a::b::s,[],h,k=>by simp at k
  |x::r,a::b::s,[_],h,k=>by simp at k;omega
  |x::r,a::b::s,e::f::u,h,k=>by show iE (⟨x.neg,a,b⟩::iE r s) (e::f::u)=_;simp only[iE];rw[ZH r s u (by simp at h;omega) (by simp at k;omega)]
theorem ZI:∀{l:List (Nat×T)} {x:Nat×T},x∈l→x.2.head<0→-1-x.2.head∈eB l:=by
 intro l
 induction l using FU with
 |aB=>intro x h;cases h
 |ab l y aY=>
  intro x h af;rw[FG];rcases List.mem_append.1 h with h|h
  have:=aY h af;split;exact List.mem_append_left _ this;exact this;simp at h;subst h;split;simp;rename_i aD;by_cases hm:-1-x.2.head∈eB l;exact hm;exact absurd ⟨by omega,hm⟩ aD
theorem ZJ{t:T}{k:Int}(hk:k∈cq t):∃x∈dd 1 t,x.2.head=k:=by
 obtain⟨y,aw,rfl⟩:=List.mem_map.1 hk;have ae:y.2∈(hi true t).map (·.2):=List.mem_map_of_mem (f:=fun x:Bool×T=>x.2) aw;rw[←JU 1 true t]at ae;obtain⟨x,af,e⟩:=List.mem_map.1 ae;exact⟨x,af,by rw[e]⟩
theorem ZK{t:T}(h:x3 t=false):∀k∈cq t,0≤k:=fun k hk=>by obtain⟨x,af,rfl⟩:=ZJ hk;by_cases q:x.2.head<0;have:=ZI af q;unfold x3 at h;rw[decide_eq_false_iff_not]at h;have:=List.length_pos_of_mem this;omega;omega
mutual
theorem ZL:∀(s:T) (aN:List Int),(∀k∈cq (fA aN s).1,0≤k)→(fA aN s).1=s
  |.mk h ts,aN,hk=>by simp only[fA]at hk⊢;split;rename_i aD;rw[if_pos aD]at hk;have:=hk _ (by rw[ji];exact List.mem_cons_self ..);omega;rename_i aD;rw[if_neg aD]at hk;rw[ji]at hk;simp only;rw[ZM ts aN fun k h=>hk k (List.mem_cons_of_mem _ h)]
theorem ZM:∀(ts:List T) (aN:List Int),(∀k∈(dL aN ts).1.flatMap cq,0≤k)→(dL aN ts).1=ts
  | [],_,_=>by simp[dL]
  |t::r,aN,hk=>by simp only[dL,List.flatMap_cons]at hk⊢;rw[ZL t aN fun k h=>hk k (List.mem_append_left _ h),ZM r _ fun k h=>hk k (List.mem_append_right _ h)]
end
mutual
theorem Qm(n:Int):∀t:T,(∀k∈cq t,0≤k)→ub n t=t
  |.mk h ts,hk=>by rw[ji]at hk;have aB:0≤h:=hk h (List.mem_cons_self ..);show iD (rN n) (.mk h ts)=_;simp only[iD];rw[if_neg ah,ZN n ts fun k q=>hk k (List.mem_cons_of_mem _ q)]
theorem ZN(n:Int):∀ts:List T,(∀k∈ts.flatMap cq,0≤k)→gL (rN n) ts=ts
  | [],_=>rfl
  |t::r,hk=>by rw[List.flatMap_cons]at hk;simp only[gL];have ab:=Qm n t fun k q=>hk k (List.mem_append_left _ q);unfold ub at ab;rw[ab,ZN n r fun k q=>hk k (List.mem_append_right _ q)]
end
theorem Qn(n:Int)(t:T):sQ n t=ub n t:=by
 unfold sQ;split;rfl;rename_i h;exact(Qm n t (ZK (by simpa using h))).symm
theorem ZO(n:Int)(ts:List T):ts.map (sQ n)=gL (rN n) ts:=by
 rw[De];exact List.map_congr_left fun t _=>Qn n t
mutual
theorem aoV{n:Int}(aD:0≤n):∀t:T,∀k∈cq (iD (rN n) t),0≤k∨k≤-1-n
  |.mk h ts,k,hk=>by
   simp only[iD]at hk;split at hk;rename_i kF;unfold rN at hk;rw[ji]at hk;simp[T.head]at hk;subst hk;right;omega;rw[ji,List.mem_cons]at hk;rcases hk with rfl|hk
   left;omega;exact Qo aD ts k hk
theorem Qo{n:Int}(aD:0≤n):∀ts:List T,∀k∈(gL (rN n) ts).flatMap cq,0≤k∨k≤-1-n
  | [],k,hk=>by simp[gL]at hk
  |t::r,k,hk=>by
   simp only[gL,List.flatMap_cons]at hk;rcases List.mem_append.1 hk with h|h
   exact aoV aD t k h;exact Qo aD r k h
end
theorem aoW{c d:List ak}:∀v∈gX (eC c d),v∉gX c:=fun v ax hm=>by
 have av:=aoA hm;unfold gX eC at ax;rw[G2 _ _ (by rw[List.length_map,wN];exact wL d),ZO]at ax;rcases Qi ax with h|⟨t,ar,ax⟩
 cases h;obtain⟨x,af,e,aB⟩:=Qg ax;have hk:=Qo (Zx (ih [] (bE c))) _ x.2.head (List.mem_flatMap.2 ⟨t,ar,Qh af⟩);have:pS (gX c)=pS (ih [] (bE c)):=rfl;omega
def rg(n:Int)(m:Nat):List Int:=(List.range m).map fun i:Nat=>(i:Int)+n
theorem ZP(n:Int)(m:Nat):rg n (m+1)=rg n m++ [(m:Int)+n]:=by simp[rg,List.range_succ]
theorem K7{n:Int}{m k:Nat}:(k:Int)+n∈rg n m↔k<m:=by
 unfold rg;rw[List.mem_map];constructor;rintro⟨i,aj,e⟩;have:=List.mem_range.1 aj;omega;intro h;exact⟨k,List.mem_range.2 h,rfl⟩
theorem ZQ(n:Int):∀(m k:Nat),k<m→numOf (rg n m) ((k:Int)+n)=k
  |0,k,h=>by omega
  |m+1,k,h=>by
   rw[ZP];by_cases q:k<m;rw[Ki _ (K7.2 q),ZQ n m k q];have e:k=m:=by omega
   subst e;rw[Gm (fun h=>q (K7.1 h))];simp[rg]
mutual
theorem aoX{n:Int}(aD:0≤n):∀(t:T) (aN:List Int),fA (rg n aN.length) (iD (rN n) (fA aN t).1)=((fA aN t).1,rg n (fA aN t).2.length)
  |.mk h ts,aN=>by
   simp only[fA];split;rename_i kF;obtain⟨v,ax⟩:∃v,v= -1-h:=⟨_,rfl⟩
   rw[←ax];have hk:numOf (fo aN v) v<(fo aN v).length:=O8 (O9 aN v);obtain⟨k,Qp⟩:∃k,k=numOf (fo aN v) v:=⟨_,rfl⟩
   rw[←Qp]at hk⊢;simp only[iD];rw[if_pos ah];show fA (rg n aN.length) (.mk (-1-(k:Int)-n) [])=_;simp only[fA];rw[if_pos ah,show-1-(-1-(k:Int)-n)=(k:Int)+n by omega];have ks:fo (rg n aN.length) ((k:Int)+n)=rg n (fo aN v).length:=by by_cases hm:v∈aN;have e:fo aN v=aN:=if_pos hm;rw[e]at hk⊢;unfold fo;rw[if_pos (K7.2 hk)];have e:fo aN v=aN++ [v]:=if_neg hm;rw[e,Gm hm]at Qp;rw[e];subst Qp;unfold fo;rw[if_neg (fun h=>by have:=K7.1 h;omega),List.length_append];exact(ZP n aN.length).symm
   rw[ks,ZQ n _ k hk];rename_i kF;simp only[iD];rw[if_neg kF];simp only[fA];rw[if_neg kF,Qq aD ts aN]
theorem Qq{n:Int}(aD:0≤n):∀(ts:List T) (aN:List Int),dL (rg n aN.length) (gL (rN n) (dL aN ts).1)=((dL aN ts).1,rg n (dL aN ts).2.length)
  | [],aN=>by simp[dL,gL]
  |t::r,aN=>by simp only[dL,gL];rw[aoX aD t aN,Qq aD r (fA aN t).2]
end
theorem ZR(c d:List ak):eh (eC c d)=eh d:=by
 have ae:=wL d;have aA:(dL [] (bE d)).1.length=2*d.length:=by rw[wN];exact ae
 have key:=Qq (Zx (gX c)) (bE d) [];unfold eh eC;rw[G2 _ _ (by rw[List.length_map];exact aA),ZO];rw[show(rg (pS (gX c)) ([]:List Int).length)= []from rfl]at key;rw[key,ZH _ _ _ (by rw[Wv];exact aA) aA]
theorem ZS:∀{ts:List T} {aN:List Int} {u:T},u∈(dL aN ts).1→∃t∈ts,∃ms,u=(fA ms t).1
  | [],aN,u,h=>by simp[dL]at h
  |t::r,aN,u,h=>by
   simp only[dL,List.mem_cons]at h;rcases h with rfl|h
   exact⟨t,List.mem_cons_self ..,aN,rfl⟩;obtain⟨s,ao,ms,e⟩:=ZS h;exact⟨s,List.mem_cons_of_mem _ ao,ms,e⟩
theorem Qr{c d:List ak}(h:oR c d=false):(bE d).any c5=false∧(bE (eC c d)).any c5=false:=by
 unfold oR at h;rw[Bool.or_eq_false_iff,Bool.or_eq_false_iff]at h;obtain⟨ab,_,aF⟩:=h;refine⟨ab,?_⟩;unfold eC;rw[G2 _ _ (by rw[List.length_map,wN];exact wL d)];refine List.any_eq_false.2 fun u hu=> ?_;obtain⟨t,ar,rfl⟩:=List.mem_map.1 hu;have al:vt (pS (gX c)) t=false:=by simpa using List.any_eq_false.1 aF t ar
 have goal:c2 (sQ (pS (gX c)) t)=0:=by
  cases ax:x3 t with
  |true=>
   unfold vt at al;rw[ax]at al;have he:qM (pS (gX c)) t=0:=by simpa using al
   rw[Qn];unfold qM at he;split at he;cases he;split at he;cases he;split at he;cases he;exact he
  |false=>obtain⟨s,ao,ms,rfl⟩:=ZS ar;have aM:=ZK ax;rw[Qn,Qm _ _ aM,ZL s ms aM];have:=List.any_eq_false.1 ab s ao;unfold c5 at this;simpa using this
 unfold c5;simp[goal]
theorem aoY{c:List ak}(h:bG (bE c)≤100000):hK c:=fun x af=>by have ab:=Ge h x.l (List.mem_flatMap.2 ⟨x,af,by simp⟩);have ae:=Ge h x.r (List.mem_flatMap.2 ⟨x,af,by simp⟩);omega
theorem aoZ(c:List ak):bG (bE (eh c))≤bG (bE c):=by
 unfold eh;rw[G2 _ _ (by rw[wN];exact wL c)];exact Zy [] (bE c)
end Go.Proofs.YtciibkomnoicdaaGreat
