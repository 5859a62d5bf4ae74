/- Own texts: a small program logic, plain facts, walks through the program's functions. No condition. -/
import Derived.Test.YtciibkomnoicdaaGreatZ6
set_option maxRecDepth 10000
set_option maxHeartbeats 4000000
set_option linter.unusedVariables false
set_option linter.unusedSimpArgs false
set_option linter.unnecessarySimpa false
set_option linter.unusedSectionVars false
namespace Go.Proofs.YtciibkomnoicdaaGreat
open Go Lg Tryz
section
attribute [local irreducible] aK bf bJ
def Bc(gs:List aE)(h:Int):Int:=(gs[h.toNat]?.map aE.wt).getD 0
def jL(gs:List aE)(h:Int):Int:=if h<0 then 1 else Bc gs h
def dq(gs:List aE)(t:T):Int:=((cq t).map (jL gs)).sum
theorem OB{gs:List aE}{h:Int}(aB:0≤h)(aA:h<gs.length):Bc gs h=(gs[h.toNat]'(by omega)).wt:=by
 have:h.toNat<gs.length:=by omega
 simp[Bc,this]
structure b9(gs:List aE)(t:T):Prop where
  right:mh gs=true
  cw:c2 t=0
  FW:sw gs t=false
  mix:xG gs t=false
theorem oF{gs:List aE}{t:T}:fX gs t=0↔b9 gs t:=by
 unfold fX;constructor;intro h;split at h;rename_i ab;exact absurd h ab;rename_i ab;split at h;rename_i ae;exact absurd h ae;rename_i ae;split at h;cases h;rename_i aF;split at h;cases h;rename_i bb;refine⟨?_,by simpa using ae,by simpa using aF,by simpa using bb⟩;unfold j_ at ab;by_cases an:mh gs=true;exact an;rw[if_neg an]at ab;simp at ab;rintro⟨ab,ae,aF,bb⟩;have:j_ gs=0:=by simp[j_,ab]
 simp[this,ae,aF,bb]
theorem gV{t:T}(h:c2 t=0):t.size≤400:=by
 unfold c2 at h;split at h;cases h;omega
theorem b9.head{gs:List aE}{t:T}(h:b9 gs t):∀k∈cq t,k<0∨(0≤k∧k<gs.length):=by
 intro k hk;obtain⟨x,af,rfl⟩:=List.mem_map.1 hk;have ab:=h.FW;unfold sw at ab;rw[List.any_eq_false]at ab;have ae:=ab x af;simp only[hU,Bool.and_eq_true,decide_eq_true_eq,Bool.or_eq_true,not_and,not_or]at ae;by_cases aF:x.2.head<0;exact .inl aF;have:=(ae ah).1;exact .inr ⟨by omega,by omega⟩
theorem aln{gs:List aE}(h:mh gs=true)(i:Nat)(aj:i<gs.length):1≤gs[i].wt∧gs[i].wt≤1000:=by
 have:=Wn h i aj;simp only[oB,Bool.or_eq_false_iff,decide_eq_false_iff_not]at this;omega
theorem Dh{gs:List aE}(h:mh gs=true){k:Int}(hk:k<0∨(0≤k∧k<gs.length)):1≤jL gs k∧jL gs k≤1000:=by
 unfold jL;rcases hk with hk|⟨aB,ab⟩
 rw[if_pos hk];omega;rw[if_neg ah,OB aB ab];exact aln h _ _
theorem WK(w:Int→Int):∀l:List Int,(∀k∈l,1≤w k∧w k≤1000)→(l.length:Int)≤(l.map w).sum∧(l.map w).sum≤1000*l.length
  | [],_=>by simp
  |x::r,h=>by have ab:=h x (List.mem_cons_self ..);have ae:=WK w r (fun k hk=>h k (List.mem_cons_of_mem _ hk));simp only[List.map_cons,List.sum_cons,List.length_cons];omega
theorem FX{gs:List aE}{t:T}(h:b9 gs t):(t.size:Int)≤dq gs t∧dq gs t≤400000:=by
 have ab:=WK (jL gs) (cq t) (fun k hk=>Dh h.right (h.head k hk));have ae:=gV h.cw;rw[ali]at ab;unfold dq;omega
theorem WL(w:Int→Int):∀m:bU,(∀p∈m,0≤w p.1*rA p.2)→0≤qF w m
  | [],_=>by simp[qF]
  |p::r,h=>by have ab:=h p (List.mem_cons_self ..);have ae:=WL w r (fun q aC=>h q (List.mem_cons_of_mem _ aC));unfold qF at*;simp only[List.map_cons,List.sum_cons];omega
theorem WM{gs:List aE}{t:T}(h:b9 gs t){p:Int×Value}(az:p∈mj (cq t)):p.2=.int .i64 ((cq t).count p.1)∧0<(cq t).count p.1∧0≤jL gs p.1*rA p.2∧(p.1<0∨(0≤p.1∧p.1<gs.length)):=by
 obtain⟨ab,ae⟩:=ald az;have aF:=h.head p.1 (List.count_pos_iff.1 ae);have bb:=Dh h.right aF;refine⟨ab,ae,?_,aF⟩;rw[ab];exact Int.mul_nonneg ah (by simp[rA])
theorem OC{I:aa}{vg v:Value}{gs:List aE}{t:T}(aM:cP I vg gs)(ax:ba I v t)(g_:t.size≤1000000000):
 aS Tryz.prog 72 [vg,v] I [] (fun v _ δ'=>v=.tuple #[.int .i64 (if fX gs t=0 then dq gs t else 0),.int .i64 (fX gs t)]∧δ'= []):=by
 obtain⟨ad,c,rfl⟩:=aM.shape;obtain⟨_,aq,al,aW,cn⟩:=aM.open;obtain⟨a0,bu,rfl,ib⟩:=ax.shape;refine a1 func72 ntmps72 fun aG=> ?_;refine go2 ?_;refine bw fun b3=> ?_;refine br ?_;refine bN rfl (JS aM ax g_) ?_;rintro wC nN _ mf ⟨rfl,rfl⟩;refine aZ ?_;by_cases nP:fX gs t≠0;refine cT ?_;refine bn ?_;exact⟨by simp[dF,nP],rfl⟩;have OD:fX gs t=0:=by simpa using nP
 have l6:=oF.1 OD;have eO:=FX l6;refine gk ?_;refine bN rfl (alj (ax.mono aa.ag) g_) ?_;rintro u0 ox _ nc ⟨jM,rfl,rfl⟩;refine aK.IU (δ':=fun es dC=> [.obj jM (.map es dC),.box b3 41 [.int .i64 t.head,.slice a0 t.args.length bu]]) (fun _ _=>bc.here) ?_;intro es dC fZ;refine IV underlying102 rfl Has.here fZ rfl (fun FY Bd=> ?_);refine aR ?_;refine ek (fun m aL ai δ'=>∃(n:Int) (left:bU) (seen:Array Nat),m=left.length∧aL= [(0,.slice ad gs.length c),(18,.pointer (some ⟨FY,0,none⟩)),(7,.int .i64 n)]∧ai=ox∧δ'= [.obj FY (.mapIter (some jM) dC seen dC),.obj jM (.map es dC),.box b3 41 [.int .i64 t.head,.slice a0 t.args.length bu]]∧uU es dC dC seen dC (mj (cq t)) left∧n+qF (jL gs) left=dq gs t∧0≤n∧∀p∈left,p∈mj (cq t)) (mj (cq t)).length [(0,.slice ad gs.length c),(18,.pointer (some ⟨FY,0,none⟩)),(7,.int .i64 0)] ⟨0,_,_,rfl,rfl,rfl,rfl,Bd,by rw[alf];simp[dq],Int.le_refl _,fun _ h=>h⟩ ⟨rfl,rfl,rfl,trivial⟩ ?_;rintro m _ _ _ ⟨n,left,seen,rfl,rfl,rfl,rfl,eu,zd,kW,gw⟩;refine go2 ?_;by_cases iB:left= [];refine IW iB eu rfl (Has.there Has.here) (fun _=>bc.here) rfl ?_;refine iR ?_;refine bn ?_;exact⟨by rw[if_pos OD,OD];simp[dF];simp only[iB,qF]at zd;simpa using zd,rfl⟩;refine IX iB eu rfl (Has.there Has.here) (fun _=>bc.here) rfl (fun l k u q iQ aA pG wD=> ?_);subst aA;obtain⟨hu,bq,c4,fV⟩:=WM l6 (gw (k,u) (by simp));simp only at hu bq c4 fV;subst hu;rw[alg]at zd;have OE:=WL (jL gs) (l++q) (fun p az=>(WM l6 (gw p (by rcases List.mem_append.1 az with h|h;exact List.mem_append_left _ h;exact List.mem_append_right _ (List.mem_cons_of_mem _ h)))).2.2.1);have Be:∀p∈l++q,p∈mj (cq t):=fun p az=>gw p (by rcases List.mem_append.1 az with h|h;exact List.mem_append_left _ h;exact List.mem_append_right _ (List.mem_cons_of_mem _ h));have Bf:(l++q).length<(l++(k,Value.int .i64 ((cq t).count k))::q).length:=by simp
 refine b_ ?_;refine aI (IY pG rfl wD (Has.there Has.here) Has.here) ?_;refine br ?_;by_cases hk:k<0;have hw:jL gs k=1:=by simp[jL,hk]
 rw[hw,Int.one_mul]at zd;simp only[rA]at zd;refine bA ?_;refine cV _ [(0,.slice ad gs.length c),(18,.pointer (some ⟨FY,0,none⟩)),(7,.int .i64 (n+(((cq t).count k:Nat):Int)))] Bf ⟨_,l++q,iQ,rfl,rfl,rfl,rfl,pG,by omega,by omega,Be⟩ ⟨rfl,rfl,rfl,trivial⟩;have av:k.toNat<gs.length:=by omega
 have db:=(aW _ av).isSome;have hw:jL gs k=(gs[k.toNat]'av).wt:=by rw[jL,if_neg hk,OB ah ah]
 rw[hw]at zd c4;simp only[rA]at zd c4;have rB:∃cY:Int,cY=(((cq t).count k:Nat):Int)*(gs[k.toNat]'av).wt:=⟨_,rfl⟩
 obtain⟨cY,fL⟩:=rB;rw[Int.mul_comm,←fL]at zd c4;refine br ?_;refine aI (tn underlying22 wa rfl rfl) ?_;refine aX ?_;refine aI (q7 l8 ((aW _ av).mono aa.ag) rfl rfl rfl) ?_;refine aI (yC (c:=cY) rfl rfl fL.symm ⟨by omega,by omega⟩) ?_;refine a8 ?_;refine cV _ [(0,.slice ad gs.length c),(18,.pointer (some ⟨FY,0,none⟩)),(7,.int .i64 (n+cY))] Bf ⟨_,l++q,iQ,rfl,rfl,rfl,rfl,pG,by omega,by omega,Be⟩ ⟨rfl,rfl,rfl,trivial⟩
end
theorem WN(t u:T)(i:Nat)(r:List Int)(h:i<t.args.length):j8 t ((i:Int)::r) u=.mk t.head (t.args.set i (j8 t.args[i] r u)):=by
 simp[j8,h]
theorem alo(t:T)(i:Nat)(r:List Int)(h:i<t.args.length):cO t ((i:Int)::r)=cO t.args[i] r:=by
 rw[Oo];simp[h]
theorem alp:∀(p:List Int) (t u:T),(cO t p).isSome=true→cO (j8 t p u) p=some u
  | [],t,u,_=>by simp[cO,j8]
  |x::r,t,u,h=>by
   obtain⟨i,rfl,aj,ao⟩:=FE h;rw[WN t u i r aj,alo _ i r (by simp[T.args];exact aj)];have e:(T.mk t.head (t.args.set i (j8 t.args[i] r u))).args[i]'(by simp[T.args];exact aj)=j8 t.args[i] r u:=by simp[T.args]
   rw[e];exact alp r _ u ao
theorem WO:∀(l:List T) (i:Nat) (x:T) (h:i<l.length),bG (l.set i x)+l[i].size=bG l+x.size
  |t::r,0,x,_=>by simp[bG];omega
  |t::r,i+1,x,h=>by have:=WO r i x (by simpa using h);simp[bG];omega
theorem size_eq(t:T):t.size=1+bG t.args:=by cases t;simp[T.size,T.args]
theorem WQ:∀(p:List Int) (t u:T),(cO t p).isSome=true→(j8 t p u).size≤t.size+u.size
  | [],t,u,_=>by simp[j8]
  |x::r,t,u,h=>by obtain⟨i,rfl,aj,ao⟩:=FE h;have ab:=WQ r _ u ao;have ae:=WO t.args i (j8 t.args[i] r u) aj;have aF:=size_eq t;rw[WN t u i r aj,T.size];omega
def k_(gs:List aE)(l:List (Bool×T)):Int:=(l.map fun x=>jL gs x.2.head).sum
theorem JT(gs:List aE)(a b:List (Bool×T)):k_ gs (a++b)=k_ gs a+k_ gs b:=by simp[k_]
theorem FZ(gs:List aE)(t:T):dq gs t=jL gs t.head+k_ gs (ey t.args):=by
 unfold dq cq k_;rw[gU,List.map_cons,List.map_cons,List.sum_cons,List.map_map];rfl
theorem WR(gs:List aE)(b:Bool)(t:T):k_ gs (hi b t)=dq gs t:=by
 rw[FZ,gU];simp[k_]
theorem F0{gs:List aE}(an:mh gs=true):∀l:List (Bool×T),(∀x∈l,x.2.head<0∨(0≤x.2.head∧x.2.head<gs.length))→(l.length:Int)≤k_ gs l
  | [],_=>by simp[k_]
  |x::r,h=>by have ab:=Dh an (h x (List.mem_cons_self ..));have ae:=F0 an r (fun y aw=>h y (List.mem_cons_of_mem _ aw));unfold k_ at*;simp only[List.map_cons,List.sum_cons,List.length_cons];omega
theorem alq(us:List T)(i:Nat)(aj:i<us.length):ey us=ey (us.take i)++(hi false us[i]++ey (us.drop (i+1))):=by
 conv=>lhs;rw[←List.take_append_drop i us,List.drop_eq_getElem_cons aj]
 rw[Ba];rfl
theorem alr(gs:List aE)(a b:Bool)(t:T):(hi a t).any (hU gs)=(hi b t).any (hU gs):=by
 rw[gU,gU];rfl
theorem b9.ze{gs:List aE}{t:T}(h:b9 gs t):∀x∈hi true t,x.2.head<0∨(0≤x.2.head∧x.2.head<gs.length):=
  fun x af=>h.head x.2.head (List.mem_map_of_mem (f:=fun y:Bool×T=>y.2.head) af)
theorem b9.child{gs:List aE}{t:T}(h:b9 gs t)(i:Nat)(aj:i<t.args.length):b9 gs t.args[i]∧dq gs t.args[i]<dq gs t:=by
 obtain⟨aH,us⟩:=t;have gJ:i<us.length:=aj;have ao:=alq us i gJ;have bK:=h.ze;rw[gU]at bK;refine⟨⟨h.right,Wu h.cw i gJ,?_,?_⟩,?_⟩;have ab:=h.FW;unfold sw at ab⊢;rw[gU,List.any_cons,Bool.or_eq_false_iff]at ab;have ae:=ab.2;change (ey us).any (hU gs)=false at ae;rw[ao,List.any_append,List.any_append,Bool.or_eq_false_iff,Bool.or_eq_false_iff]at ae;rw[alr gs true false];exact ae.2.1;have ab:=h.mix;unfold xG at ab⊢;rw[gU,List.any_cons,Bool.or_eq_false_iff]at ab;have ae:=ab.2;change (ey us).any (jg gs)=false at ae;rw[ao,List.any_append,List.any_append,Bool.or_eq_false_iff,Bool.or_eq_false_iff]at ae;have aF:=ae.2.1;rw[gU,List.any_cons,Bool.or_eq_false_iff]at aF;rw[gU,List.any_cons,Bool.or_eq_false_iff];exact⟨by simp[jg],aF.2⟩;have ab:=Dh h.right (bK (true,.mk aH us) (List.mem_cons_self ..));have e:dq gs (T.mk aH us)=jL gs aH+k_ gs (ey us):=FZ gs _;have bb:∀x∈ey us,x.2.head<0∨(0≤x.2.head∧x.2.head<gs.length):=fun x af=>bK x (List.mem_cons_of_mem _ af);rw[e,ao,JT,JT,WR];have eX:=F0 h.right (ey (us.take i)) (fun x af=>bb x (by rw[ao];exact List.mem_append_left _ af));have ft:=F0 h.right (ey (us.drop (i+1))) (fun x af=>bb x (by rw[ao];exact List.mem_append_right _ (List.mem_append_right _ af)));have iC:1≤jL gs aH:=ab.1;show dq gs us[i]<_;omega
mutual
theorem JU:∀(d:Nat) (b:Bool) (t:T),(dd d t).map (·.2)=(hi b t).map (·.2)
  |d,b,.mk h us=>by simp only[dd,hi,List.map_cons,WS (d+1) us]
theorem WS:∀(d:Nat) (us:List T),(jI d us).map (·.2)=(ey us).map (·.2)
  |_,[]=>rfl
  |d,t::r=>by simp only[jI,ey,List.map_append,JU d false t,WS d r]
end
theorem F1{t:T}(h:c2 t=0):∀x∈hi true t,(x.2.head<0→x.2.args= [])∧-256≤x.2.head:=by
 intro x af;have ab:(dd 1 t).any d_=false:=by unfold c2 at h;split at h;cases h;split at h;cases h;split at h;cases h;rename_i aC;exact Bool.eq_false_iff.2 aC
 have ae:x.2∈(dd 1 t).map (·.2):=by rw[JU 1 true t];exact List.mem_map_of_mem af
 obtain⟨y,aw,als⟩:=List.mem_map.1 ae;rw[List.any_eq_false]at ab;have aF:=ab y aw;simp only[d_,Bool.or_eq_true,Bool.and_eq_true,decide_eq_true_eq,not_or,not_and,als]at aF;obtain⟨⟨⟨bb,eX⟩,_⟩,_⟩:=aF;refine⟨fun aD=>List.eq_nil_of_length_eq_zero (by have:=bb aD;omega),by omega⟩
abbrev wE(t:T)(k:Int):Nat:=(cq t).count k
def ni(a b:T):Bool:=(cq b).all fun k=>decide (0≤k)||decide (wE b k≤wE a k)
theorem WT{a b:T}:ni a b=true↔∀k:Int,k<0→wE b k≤wE a k:=by
 unfold ni;rw[List.all_eq_true];constructor;intro h k hk;by_cases hm:k∈cq b;have:=h k hm;simp only[Bool.or_eq_true,decide_eq_true_eq]at this;rcases this with ab|ab
 omega;exact ab;have:wE b k=0:=List.count_eq_zero.2 hm;omega;intro h k hm;simp only[Bool.or_eq_true,decide_eq_true_eq];by_cases hk:k<0;exact .inr (h k hk);exact .inl ah
def kG(a b:T)(n:Int):Int:=if 0<n∧ni a b=true then 1 else if n<0∧ni b a=true then-1 else 2
mutual
def eL(gs:List aE):T→T→Int
  |.mk h us,b=>
    if T.mk h us=b then 0
    else if dq gs (.mk h us)≠dq gs b then kG (.mk h us) b (dq gs (.mk h us)-dq gs b)
    else if h<0∨b.head<0 then 2
    else if h≠b.head then kG (.mk h us) b (h-b.head)
    else if cS gs us b.args=0 then 0
    else if cS gs us b.args=2 then 2
    else kG (.mk h us) b (cS gs us b.args)
def cS(gs:List aE):List T→List T→Int
  |a::r,b::q=>if eL gs a b≠0 then eL gs a b else cS gs r q
  |_,_=>0
end
theorem sy(gs:List aE)(a b:T):eL gs a b=
 if a=b then 0
 else if dq gs a≠dq gs b then kG a b (dq gs a-dq gs b)
 else if a.head<0∨b.head<0 then 2
 else if a.head≠b.head then kG a b (a.head-b.head)
 else if cS gs a.args b.args=0 then 0
 else if cS gs a.args b.args=2 then 2
 else kG a b (cS gs a.args b.args):=by
 cases a;rw[eL];rfl
def Di(x:Int):Int:=if x=2 then 2 else-x
theorem JV(a b:T)(n:Int):kG b a (-n)=Di (kG a b n):=by
 unfold kG Di;rcases Int.lt_trichotomy n 0 with h|h|h
 have ab:0< -n:=by omega
 have ae:¬0<n:=by omega
 have aF:¬-n<0:=by omega
 cases ni b a<;>simp[h,ab,ae,aF];subst h;simp;have ab:-n<0:=by omega
 have ae:¬n<0:=by omega
 have aF:¬0< -n:=by omega
 cases ni a b<;>simp[h,ab,ae,aF]
theorem JW(a b:T)(n:Int):kG a b n=1∨kG a b n= -1∨kG a b n=2:=by
 unfold kG;split;exact .inl rfl;split;exact .inr (.inl rfl);exact .inr (.inr rfl)
mutual
theorem alu(gs:List aE):∀(a b:T),eL gs a b=0∨eL gs a b=1∨eL gs a b= -1∨eL gs a b=2
  |.mk h us,b=>by rw[eL];split;exact .inl rfl;split;exact .inr (JW _ _ _);split;exact .inr (.inr (.inr rfl));split;exact .inr (JW _ _ _);split;exact .inl rfl;split;exact .inr (.inr (.inr rfl));exact .inr (JW _ _ _)
theorem OF(gs:List aE):∀(l m:List T),cS gs l m=0∨cS gs l m=1∨cS gs l m= -1∨cS gs l m=2
  | [],m=>by cases m<;>exact .inl rfl
  |a::r,[]=>.inl rfl
  |a::r,b::q=>by simp only[cS];split;exact alu gs a b;exact OF gs r q
end
mutual
theorem WU(gs:List aE):∀(a b:T),eL gs b a=Di (eL gs a b)
  |.mk h us,b=>by
   rw[sy gs b,sy gs (.mk h us)];have aQ:(T.mk h us).head=h:=rfl;have aT:(T.mk h us).args=us:=rfl;rw[aQ,aT,WV gs us b.args];by_cases ab:T.mk h us=b;subst ab;rw[if_pos rfl,if_pos rfl];rfl;rw[if_neg (fun e=>ab e.symm),if_neg ab];by_cases ae:dq gs (.mk h us)=dq gs b;rw[if_neg (show¬(dq gs b≠dq gs (.mk h us))by omega),if_neg (show¬(dq gs (.mk h us)≠dq gs b)by omega)];by_cases aF:h<0∨b.head<0;rw[if_pos (show b.head<0∨h<0 by omega),if_pos aF];rfl;rw[if_neg (show¬(b.head<0∨h<0)by omega),if_neg aF];by_cases bb:h=b.head;rw[if_neg (show¬(b.head≠h)by omega),if_neg (show¬(h≠b.head)by omega)];have ax:=OF gs us b.args;generalize cS gs us b.args=c at ax;rcases ax with rfl|rfl|rfl|rfl
   rfl;exact JV _ _ 1;exact JV _ _ (-1);rfl;rw[if_pos (show b.head≠h by omega),if_pos (show h≠b.head from bb),show b.head-h= -(h-b.head)by omega];exact JV _ _ _;rw[if_pos (show dq gs b≠dq gs (.mk h us)by omega),if_pos (show dq gs (.mk h us)≠dq gs b from ae),show dq gs b-dq gs (.mk h us)= -(dq gs (.mk h us)-dq gs b)by omega];exact JV _ _ _
theorem WV(gs:List aE):∀(l m:List T),cS gs m l=Di (cS gs l m)
  | [],m=>by cases m<;>rfl
  |a::r,[]=>rfl
  |a::r,b::q=>by
   simp only[cS];rw[WU gs a b,WV gs r q];by_cases h:eL gs a b=0;rw[h];rfl;have ae:Di (eL gs a b)≠0:=by unfold Di;split<;>omega
   rw[if_pos h,if_pos ae]
end
theorem alv(gs:List aE)(a:T):eL gs a a=0:=by rw[sy,if_pos rfl]
theorem WW(gs:List aE):∀l:List T,cS gs l l=0
  | []=>rfl
  |a::r=>by simp[cS,alv,WW gs r]
theorem alw(gs:List aE)(a b:T):eL gs a b=1↔ni a b=true∧(dq gs b<dq gs a∨(dq gs a=dq gs b∧0≤a.head∧0≤b.head∧(b.head<a.head∨(a.head=b.head∧cS gs a.args b.args=1)))):=by
 rw[sy];by_cases ab:a=b;subst ab;rw[if_pos rfl,WW];constructor;intro h;omega;rintro⟨_,h|⟨_,_,_,h|⟨_,h⟩⟩⟩<;>omega;rw[if_neg ab];by_cases ae:dq gs a=dq gs b;rw[if_neg ah];by_cases aF:a.head<0∨b.head<0;rw[if_pos aF];constructor;intro h;omega;rintro⟨_,h|⟨_,h,et,_⟩⟩<;>omega;rw[if_neg aF];by_cases bb:a.head=b.head;rw[if_neg ah];have ax:=OF gs a.args b.args;generalize cS gs a.args b.args=c at ax;have eX:0≤a.head∧0≤b.head:=by omega
 rcases ax with rfl|rfl|rfl|rfl
 simp[ae,bb];unfold kG;cases ni a b<;>simp[ae,bb]<;>omega;unfold kG;cases ni b a<;>simp[ae,bb];simp[ae,bb];rw[if_pos bb];unfold kG;cases ni a b;simp;split<;>omega;by_cases eX:b.head<a.head;simp[ae,eX]<;>omega;simp[ae,eX,bb];split<;>omega;rw[if_pos ae];unfold kG;cases ni a b;simp;split<;>omega;by_cases eX:dq gs b<dq gs a;simp[eX]<;>omega;simp[eX,ae];split<;>omega
theorem b9.arity{gs:List aE}{t:T}(h:b9 gs t)(aB:0≤t.head):(t.args.length:Int)=Bb gs t.head:=by
 have ab:=h.FW;unfold sw at ab;rw[gU,List.any_cons,Bool.or_eq_false_iff]at ab;have ae:=ab.1;simp only[hU,Bool.and_eq_false_iff,decide_eq_false_iff_not,Bool.or_eq_false_iff]at ae;rcases ae with ae|ae
 exact absurd aB ae;have:=ae.2;simpa using this
theorem b9.args{gs:List aE}{t:T}(h:b9 gs t):∀x∈t.args,b9 gs x:=fun x af=>by obtain⟨i,aj,rfl⟩:=List.getElem_of_mem af;exact(h.child i aj).1
theorem b9.leaf{gs:List aE}{t:T}(h:b9 gs t)(aD:t.head<0):t.args= []:=(F1 h.cw (true,t) (by rw[gU];exact List.mem_cons_self ..)).1 aD
mutual
theorem OG{gs:List aE}:∀{a b:T},b9 gs a→b9 gs b→eL gs a b=0→a=b
  |.mk h us,b,bk,al,e=>by
   rw[sy]at e;by_cases ab:T.mk h us=b;exact ab;rw[if_neg ab]at e;have ao:∀n,kG (T.mk h us) b n≠0:=fun n=>by rcases JW (T.mk h us) b n with q|q|q<;>omega
   by_cases ae:dq gs (T.mk h us)=dq gs b;rw[if_neg ah]at e;by_cases aF:(T.mk h us).head<0∨b.head<0;rw[if_pos aF]at e;omega;rw[if_neg aF]at e;by_cases bb:(T.mk h us).head=b.head;have tH:(T.mk h us).args=us:=rfl;rw[if_neg ah,tH]at e;by_cases eX:cS gs us b.args=0;have pk:=bk.arity ah;have ql:=al.arity ah;rw[bb]at pk
   have aA:us.length=b.args.length:=by
    have:((T.mk h us).args.length:Int)=b.args.length:=by omega
    exact Int.ofNat.inj this
   have:=WX aA bk.args al.args eX;cases b;simp only[T.args]at this;simp only[T.head]at bb;rw[this,bb];rw[if_neg eX]at e;split at e;omega;exact absurd e (ao _);rw[if_pos bb]at e;exact absurd e (ao _);rw[if_pos ae]at e;exact absurd e (ao _)
theorem WX{gs:List aE}:∀{l m:List T},l.length=m.length→(∀x∈l,b9 gs x)→(∀x∈m,b9 gs x)→cS gs l m=0→l=m
  | [],[],_,_,_,_=>rfl
  | [],_::_,h,_,_,_=>by simp at h
  |_::_,[],h,_,_,_=>by simp at h
  |a::r,b::q,h,bk,al,e=>by simp only[cS]at e;by_cases ab:eL gs a b=0;rw[if_neg ah]at e;rw[OG (bk a (List.mem_cons_self ..)) (al b (List.mem_cons_self ..)) ab,WX (by simpa using h) (fun x af=>bk x (List.mem_cons_of_mem _ af)) (fun x af=>al x (List.mem_cons_of_mem _ af)) e];rw[if_pos ab]at e;exact absurd e ab
end
def sz(l:List (Bool×T))(k:Int):Nat:=(l.map (·.2.head)).count k
theorem alx(a b:List (Bool×T))(k:Int):sz (a++b) k=sz a k+sz b k:=by simp[sz,List.count_append]
theorem aly(b:Bool)(t:T)(k:Int):sz (hi b t) k=wE t k:=by
 show((hi b t).map (·.2.head)).count k=((hi true t).map (·.2.head)).count k;rw[gU,gU];rfl
theorem alz(t:T)(k:Int):wE t k=(if t.head=k then 1 else 0)+sz (ey t.args) k:=by
 show((hi true t).map (·.2.head)).count k=_;rw[gU,List.map_cons,List.count_cons];unfold sz;by_cases h:t.head=k;simp[h];omega;simp[h]
def gW:List T→List T→List T
  | [],_=> []
  |t::r,left=>if t∈left then gW r (left.erase t)else t::gW r left
theorem F2(x:T):∀(l m:List T),(gW l m).count x=l.count x-m.count x
  | [],m=>by simp[gW]
  |t::r,m=>by
   simp only[gW];by_cases h:t∈m;rw[if_pos h,F2 x r,List.count_cons,List.count_erase];have az:=List.count_pos_iff.2 h;by_cases e:t=x;subst e;simp;omega;have aT:(t==x)=false:=by simp[e]
   have dA:(x==t)=false:=by simp[Ne.symm e]
   simp[aT,dA];rw[if_neg h,List.count_cons,List.count_cons,F2 x r];by_cases e:t=x;subst e;have:m.count t=0:=List.count_eq_zero.2 h;simp;omega;have aT:(t==x)=false:=by simp[e]
   simp[aT]
theorem WY{l m o8 eI:List T}(h:∀x,l.count x-m.count x=o8.count x-eI.count x):(gW l m).Perm (gW o8 eI):=
  List.perm_iff_count.2 fun x=>by rw[F2,F2];exact h x
theorem JX{l m:List T}{x:T}(h:x∈gW l m):x∈l:=by
 have:=List.count_pos_iff.2 h;rw[F2]at this;exact List.count_pos_iff.1 ah
theorem JY:∀(l m:List T),(gW l m).length≤l.length
  | [],m=>by simp[gW]
  |t::r,m=>by simp only[gW];split;have:=JY r (m.erase t);simp;omega;have:=JY r m;simp;omega
def sA(gs:List aE)(a b:List T):Bool:=decide (0<a.length)&&b.all fun u=>a.any fun t=>decide (eL gs t u=1)
theorem WZ{gs:List aE}{a b eQ b':List T}(h:a.Perm eQ)(k:b.Perm b'):sA gs a b=sA gs eQ b':=by
 unfold sA;rw[h.length_eq];congr 1;rw[Bool.eq_iff_iff,List.all_eq_true,List.all_eq_true];constructor;intro q u hu;have:=q u (k.mem_iff.2 hu);rw[List.any_eq_true]at this⊢;obtain⟨t,ar,ae⟩:=this;exact⟨t,h.mem_iff.1 ar,ae⟩;intro q u hu;have:=q u (k.mem_iff.1 hu);rw[List.any_eq_true]at this⊢;obtain⟨t,ar,ae⟩:=this;exact⟨t,h.mem_iff.2 ar,ae⟩
def lM(gs:List aE)(a b:List T):Int:=
  if(gW a b).length+(gW b a).length=0 then 0 else if sA gs (gW a b) (gW b a)=true then 1 else if sA gs (gW b a) (gW a b)=true then-1 else 2
theorem alA{gs:List aE}{a b eQ b':List T}(h:(gW a b).Perm (gW eQ b'))(k:(gW b a).Perm (gW b' eQ)):lM gs a b=lM gs eQ b':=by
 unfold lM;rw[h.length_eq,k.length_eq,WZ h k,WZ k h]
def lb(gs:List aE):List T→Int
  | []=>0
  |t::r=>if fX gs t≠0 then fX gs t else lb gs r
theorem Bg{gs:List aE}:∀{l:List T},lb gs l=0↔∀t∈l,b9 gs t
  | []=>by simp[lb]
  |t::r=>by simp only[lb];by_cases h:fX gs t=0;rw[if_neg ah,Bg];simp[oF.1 h];rw[if_pos h];constructor;intro e;exact absurd e h;intro e;exact absurd (oF.2 (e t (List.mem_cons_self ..))) h
theorem alB{gs:List aE}{l:List T}{k:Nat}(hk:k<l.length)(h:∀t∈l.take k,fX gs t=0)(aD:fX gs l[k]≠0):lb gs l=fX gs l[k]:=by
 induction l generalizing k with
 |nil=>simp at hk
 |cons t r aY=>
  cases k with
  |zero=>simp only[List.getElem_cons_zero]at aD⊢;simp only[lb];rw[if_pos aD]
  |succ k=>simp only[List.getElem_cons_succ]at aD⊢;have aB:=h t (by simp);simp only[lb];rw[if_neg ah];exact aY (by simpa using hk) (fun x af=>h x (by simp[af])) aD
theorem alC{gs:List aE}{l:List T}(h:∀t∈l,fX gs t=0):lb gs l=0:=Bg.2 fun t ar=>oF.1 (h t ar)
section
attribute [local irreducible] aK bf bJ
def nj(xs:bU)(D:Int→Int):Prop:=(xs.map (·.1)).Nodup∧∀k,(dG xs k).getD (.int .i64 0)=.int .i64 (D k)
theorem nj.nil:nj [] (fun _=>0):=⟨by simp,fun k=>rfl⟩
theorem nj.put{xs:bU}{D:Int→Int}(h:nj xs D)(k c:Int):nj (gi xs k (.int .i64 (D k+c))) (fun j=>if k=j then D j+c else D j):=by
 refine⟨IQ h.1,fun j=> ?_⟩;rw[vZ];by_cases e:k=j;subst e;simp;rw[if_neg e,h.2 j];simp only[if_neg e]
theorem nj.entry{xs:bU}{D:Int→Int}(h:nj xs D){p:Int×Value}(az:p∈xs):p.2=.int .i64 (D p.1):=by
 have ab:=(AH h.1 (k:=p.1) (v:=p.2)).1 az;have ae:=h.2 p.1;rw[ab]at ae;exact ae
theorem nj.some{xs:bU}{D:Int→Int}(h:nj xs D){k:Int}(hk:D k≠0):∃p∈xs,p.1=k∧p.2=.int .i64 (D k):=by
 have ae:=h.2 k
 cases hm:dG xs k with
 |none=>rw[hm]at ae;simp at ae;exact absurd ae.symm hk
 |some u=>rw[hm]at ae;simp at ae;subst ae;exact⟨(k,.int .i64 (D k)),(AH h.1).2 hm,rfl,rfl⟩
theorem nj.congr{xs:bU}{D E:Int→Int}(h:nj xs D)(e:∀k,D k=E k):nj xs E:=⟨h.1,fun k=>by rw[h.2 k,e k]⟩
def xH(t:T)(k:Int):Int:=if k<0 then(wE t k:Int)else 0
def sB(l:List (Bool×T))(k:Int):Int:=if k<0 then(sz l k:Int)else 0
theorem OH{s x m:Int}(ao:s=1∨s= -1)(aB:0≤x)(hm:x≤m):-m≤s*x∧s*x≤m:=by
 rcases ao with rfl|rfl<;>omega
theorem W0(l:List (Bool×T))(k:Int):0≤sB l k∧sB l k≤l.length:=by
 unfold sB sz;have:(l.map (·.2.head)).count k≤(l.map (·.2.head)).length:=List.count_le_length;rw[List.length_map]at this;split<;>omega
theorem alD(a b:List (Bool×T))(k:Int):sB (a++b) k=sB a k+sB b k:=by
 unfold sB;split;rw[alx];simp;rfl
theorem OI(b:Bool)(t:T)(k:Int):sB (hi b t) k=xH t k:=by unfold sB xH;rw[aly]
abbrev wF(b m:Nat)(w:Int)(xs:bU):List ay:= [.box b 362 [.int .i64 w,.map (some m)],.map m xs]
theorem W1{gs:List aE}{b m:Nat}{vg:Value}{s:Int}(ao:s=1∨s= -1):∀(n:Nat) (t:T),t.size≤n→∀(I:aa) (v:Value) (w:Int) (xs:bU) (D:Int→Int),cP I vg gs→ba I v t→b9 gs t→nj xs D→
 (-1000000000000000+1000000*(t.size:Int)≤w∧w≤1000000000000000-1000000*(t.size:Int))→(∀k,-1000000000000000+1000000*(t.size:Int)≤D k∧D k≤1000000000000000-1000000*(t.size:Int))→
 aS Tryz.prog 255 [.pointer (some ⟨b,0,none⟩),vg,v,.int .i64 s] I (wF b m w xs) (fun _ _ δ'=>∃xs',δ'=wF b m (w+s*dq gs t) xs'∧nj xs' (fun k=>D k+s*xH t k)):=by
 intro n
 induction n with
 |zero=>intro t h;have:=t.size_pos;omega
 |succ n aY=>
  intro t aD I v w xs D aM ax mS fK hw W2;obtain⟨ad,c,rfl⟩:=aM.shape;obtain⟨_,aq,al,aW,cn⟩:=aM.open;obtain⟨a0,bu,rfl,ib⟩:=ax.shape;obtain⟨_,_,_,aV,qB,bj,W3,bT⟩:=ax.open;have bD:=wv t;have JZ:=t.size_pos;have bb:=gV mS.cw;have W4:=mS.ze;have J0:=W4 (true,t) (by rw[gU];exact List.mem_cons_self ..);have W5:=Dh mS.right J0;simp only at J0 W5;have ph:=OH ao (show 0≤jL gs t.head by omega) W5.2;have aye:=FX mS
  have alE:∀k,k≤t.args.length→0≤k_ gs (ey (t.args.take k))∧k_ gs (ey (t.args.take k))≤400000:=fun k hk=>by
   have e:k_ gs (ey t.args)=k_ gs (ey (t.args.take k))+k_ gs (ey (t.args.drop k)):=by rw[←JT,←Ba,List.take_append_drop]
   have gw:∀x∈ey t.args,x.2.head<0∨(0≤x.2.head∧x.2.head<gs.length):=fun x af=>W4 x (by rw[gU];exact List.mem_cons_of_mem _ af);have aT:ey t.args=ey (t.args.take k)++ey (t.args.drop k):=by rw[←Ba,List.take_append_drop]
   have eX:=F0 mS.right (ey (t.args.take k)) (fun x af=>gw x (by rw[aT];exact List.mem_append_left _ af));have ft:=F0 mS.right (ey (t.args.drop k)) (fun x af=>gw x (by rw[aT];exact List.mem_append_right _ af));have iC:=FZ gs t;omega
  refine a1 func255 ntmps255 fun aG=> ?_;refine go2 ?_;refine bw fun c1=> ?_;refine aP ?_;by_cases hT:t.head<0;have W6:=mS.leaf hT;have lx:dq gs t=1:=by rw[FZ,W6];simp[jL,hT,ey,k_]
  have J1:∀k,xH t k=if t.head=k then 1 else 0:=fun k=>by unfold xH;rw[alz,W6];by_cases e:t.head=k;subst e;simp[hT,ey,sz];simp[e,ey,sz]
  have ayf:=W2 t.head;refine iR ?_;refine g5 [0,2,4,6,8,10,14,13,16,19] ?_;refine bg ?_;refine aI (E3 underlying102 underlying3 z3 rfl rfl cW (fK.2 t.head)) ?_;refine a8 ?_;refine sg underlying102 underlying3 rfl rfl rfl rfl (by repeat (first|exact bc.here|apply bc.there)) ?_;refine aX ?_;refine fU ?_;refine a8 ?_;exact dv (rs:= []) rfl (List.Perm.refl _) .nil (List.sublist_cons_self _ _) ⟨_,by rw[lx,Int.mul_one],(fK.put t.head s).congr (fun k=>by rw[J1 k];show(if t.head=k then D k+s else D k)=_;split<;>simp)⟩;have av:t.head.toNat<gs.length:=by omega
  have db:=(aW _ av).isSome;have W7:jL gs t.head=(gs[t.head.toNat]'av).wt:=by rw[jL,if_neg hT,OB ah ah]
  rw[W7]at ph;obtain⟨q,aC⟩:∃q:Int,q=s*(gs[t.head.toNat]'av).wt:=⟨_,rfl⟩
  rw[←aC]at ph;refine aP ?_;refine eU [0,2,4,6,8,10,12,14,16,18,20,22,24,26,28,31] (two 13 [.box c1 41 [.int .i64 t.head,.slice a0 t.args.length bu],.box b 362 [.int .i64 w,.map (some m)],.map m xs] []) (xg (List.Sublist.refl _) (List.nil_sublist _)) ?_;refine bg ?_;refine dg rfl (tn underlying22 wa rfl rfl) ?_;refine aX ?_;refine dg rfl (q7 l8 ((aW _ av)) rfl rfl rfl) ?_;refine dg rfl (yC (c:=q) rfl rfl aC.symm ⟨by omega,by omega⟩) ?_;refine aZ ?_;refine yL (EV (by kernel_rfl) (aa.le_refl _) (by intro x af;cases af)) ?_;refine bA ?_;refine ek (fun eI aL ai δ'=>∃(k:Nat) (xs':bU),eI=t.args.length-k∧k≤t.args.length∧aL= [(0,.pointer (some ⟨b,0,none⟩)),(1,.slice ad gs.length c),(3,.int .i64 s),(46,.slice a0 t.args.length bu),(47,.int .i64 t.args.length),(48,.int .i64 k)]∧I.le ai∧δ'=.box c1 41 [.int .i64 t.head,.slice a0 t.args.length bu]::wF b m (w+s*(jL gs t.head+k_ gs (ey (t.args.take k)))) xs'∧nj xs' (fun j=>D j+s*sB (ey (t.args.take k)) j)) t.args.length [(0,.pointer (some ⟨b,0,none⟩)),(1,.slice ad gs.length c),(3,.int .i64 s),(46,.slice a0 t.args.length bu),(47,.int .i64 t.args.length),(48,.int .i64 (0:Nat))] ⟨0,xs,rfl,Nat.zero_le _,rfl,aa.le_refl _,(by simp only[wF,List.take_zero,ey,W7,k_,List.map_nil,List.sum_nil,Int.add_zero,←aC];rfl),fK.congr (fun j=>by simp[ey,sB,sz])⟩ ⟨rfl,rfl,rfl,rfl,rfl,rfl,trivial⟩ ?_;rintro eI _ en _ ⟨k,xs',rfl,hk,rfl,lJ,rfl,rC⟩;have F3:=alE k hk;refine aZ ?_;refine bF rfl (fun bq=> ?_) (fun bq=> ?_);have jN:k<t.args.length:=by simpa using bq
  have gr:=(W3 k jN).isSome;have hm:=pt t.args k jN;have zf:=(mS.child k jN).1;have g3:=OH ao (show 0≤jL gs t.head+k_ gs (ey (t.args.take k))by omega) (show _≤401000 by omega);refine aP ?_;refine aI (cC ((W3 k jN).mono lJ)) ?_;refine bh fun hH=> ?_;refine bg ?_;refine eo rfl (aY t.args[k] ah _ _ _ _ _ (aM.mono lJ) ((bT k jN).mono lJ) zf rC ⟨by omega,by omega⟩ (fun j=>by have nf:=W2 j;have pH:=W0 (ey (t.args.take k)) j;have xF:=tF (t.args.take k);have oA:bG (t.args.take k)≤bG t.args:=by{have aF:=congrArg List.length (Ba (t.args.take k) (t.args.drop k));rw[List.take_append_drop,List.length_append,tF,tF,tF]at aF;omega};have hT:=OH ao pH.1 (show _≤400 by omega);constructor<;>omega)) (List.perm_append_comm (l₁:= [_,_])) ?_;rintro W8 W9 _ W_ ⟨iX,rfl,OJ⟩;refine aK.view (View.perm (List.perm_append_comm (l₂:= [_,_]))) ?_;refine aP ?_;refine bf.view (View.drop aO.here) ?_;refine cV (t.args.length-(k+1)) [(0,.pointer (some ⟨b,0,none⟩)),(1,.slice ad gs.length c),(3,.int .i64 s),(46,.slice a0 t.args.length bu),(47,.int .i64 t.args.length),(48,.int .i64 (k+1:Nat))] ah ⟨k+1,iX,rfl,jN,rfl,aa.ag,?_,OJ.congr (fun j=> ?_)⟩ ⟨rfl,rfl,rfl,rfl,rfl,rfl,trivial⟩;have e:w+s*(jL gs t.head+k_ gs (ey (t.args.take k)))+s*dq gs t.args[k]=w+s*(jL gs t.head+k_ gs (ey (t.args.take (k+1)))):=by rw[JO t.args k jN,JT,WR,Int.add_assoc,←Int.mul_add,Int.add_assoc]
  simp only[wF,←e];rfl;rw[JO t.args k jN,alD,OI,Int.mul_add];omega;have bV:k=t.args.length:=by simp at bq;omega
  refine a8 ?_;refine pb (rs:= []) rfl (List.Perm.refl _) .nil (List.sublist_cons_self _ _) ⟨xs',?_,rC.congr (fun j=> ?_)⟩;rw[bV,List.take_length,←FZ];rw[bV,List.take_length];have aQ:xH t j=sB (ey t.args) j:=by rw[←OI true t,gU];unfold sB sz;split;(rw[List.map_cons,List.count_cons];have aT:(t.head==j)=false:=by{simp;omega};simp only[aT];simp);rfl
  rw[aQ]
theorem alF{I:aa}{b m:Nat}{w:Int}{xs:bU}{D:Int→Int}(rC:nj xs D):
 aS Tryz.prog 270 [.pointer (some ⟨b,0,none⟩)] I (wF b m w xs) (fun v _ δ'=>(∃sC le:Bool,v=.tuple #[.bool sC,.bool le]∧(sC=true↔∃k,0<D k)∧(le=true↔∃k,D k<0))∧δ'=wF b m w xs):=by
 have alG:∀p∈xs,p.2=.int .i64 (D p.1):=fun p az=>rC.entry az;have F4:(∃p∈xs,0<D p.1)↔∃k,0<D k:=⟨fun⟨p,_,h⟩=>⟨p.1,h⟩,fun⟨k,h⟩=>let⟨p,az,ab,_⟩:=rC.some (k:=k) ah;⟨p,az,by rw[ab];exact h⟩⟩
 have hle:(∃p∈xs,D p.1<0)↔∃k,D k<0:=⟨fun⟨p,_,h⟩=>⟨p.1,h⟩,fun⟨k,h⟩=>let⟨p,az,ab,_⟩:=rC.some (k:=k) ah;⟨p,az,by rw[ab];exact h⟩⟩
 refine a1 func270 ntmps270 fun aG=> ?_;refine ic ?_;refine aK.IU (δ':=fun es dC=> [.box b 362 [.int .i64 w,.map (some m)],.obj m (.map es dC)]) (fun _ _=>bc.there bc.here) ?_;intro es dC fZ;refine IV underlying102 rfl (Has.there Has.here) fZ rfl (fun wG Bd=> ?_);refine aR ?_;refine ek (fun eI aL ai δ'=>∃(sC le:Bool) (left:bU) (seen:Array Nat),eI=left.length∧aL= [(12,.pointer (some ⟨wG,0,none⟩)),(4,.bool sC),(5,.bool le)]∧ai=I∧δ'= [.obj wG (.mapIter (some m) dC seen dC),.box b 362 [.int .i64 w,.map (some m)],.obj m (.map es dC)]∧uU es dC dC seen dC xs left∧(∀p∈left,p∈xs)∧((sC=true∨∃p∈left,0<D p.1)↔∃p∈xs,0<D p.1)∧((le=true∨∃p∈left,D p.1<0)↔∃p∈xs,D p.1<0)) xs.length [(12,.pointer (some ⟨wG,0,none⟩)),(4,.bool false),(5,.bool false)] ⟨false,false,xs,_,rfl,rfl,rfl,rfl,Bd,fun _ h=>h,by simp,by simp⟩ ⟨rfl,rfl,rfl,trivial⟩ ?_;rintro eI _ _ _ ⟨sC,le,left,seen,rfl,rfl,rfl,rfl,eu,gw,si,fi⟩;refine go2 ?_;by_cases iB:left= [];refine IW iB eu rfl (Has.there (Has.there Has.here)) (fun _=>bc.here) rfl ?_;refine bW ?_;subst iB;refine aK.view ((View.drop aO.here).trans (View.Np fZ (bc.there bc.here))) ?_;refine aP ?_;refine dY ?_;exact⟨⟨sC,le,rfl,by rw[←F4,←si];simp,by rw[←hle,←fi];simp⟩,rfl⟩;refine IX iB eu rfl (Has.there (Has.there Has.here)) (fun _=>bc.here) rfl (fun l k u q iQ aA pG wD=> ?_);subst aA;have hu:=alG (k,u) (gw _ (by simp));simp only at hu;subst hu;have Be:∀p∈l++q,p∈xs:=fun p az=>gw p (by rcases List.mem_append.1 az with h|h;exact List.mem_append_left _ h;exact List.mem_append_right _ (List.mem_cons_of_mem _ h));have Bf:(l++q).length<(l++(k,Value.int .i64 (D k))::q).length:=by simp
 have qf:((sC||decide (0<D k))=true∨∃p∈l++q,0<D p.1)↔∃p∈xs,0<D p.1:=by rw[←si];simp only[List.mem_append,List.mem_cons,Bool.or_eq_true,decide_eq_true_eq];constructor;rintro((h|h)|⟨p,h|h,ae⟩);exact .inl h;exact .inr ⟨_,.inr (.inl rfl),h⟩;exact .inr ⟨p,.inl h,ae⟩;exact .inr ⟨p,.inr (.inr h),ae⟩;rintro(h|⟨p,h|rfl|h,ae⟩);exact .inl (.inl h);exact .inr ⟨p,.inl h,ae⟩;exact .inl (.inr ae);exact .inr ⟨p,.inr h,ae⟩
 have fw:((le||decide (D k<0))=true∨∃p∈l++q,D p.1<0)↔∃p∈xs,D p.1<0:=by rw[←fi];simp only[List.mem_append,List.mem_cons,Bool.or_eq_true,decide_eq_true_eq];constructor;rintro((h|h)|⟨p,h|h,ae⟩);exact .inl h;exact .inr ⟨_,.inr (.inl rfl),h⟩;exact .inr ⟨p,.inl h,ae⟩;exact .inr ⟨p,.inr (.inr h),ae⟩;rintro(h|⟨p,h|rfl|h,ae⟩);exact .inl (.inl h);exact .inr ⟨p,.inl h,ae⟩;exact .inl (.inr ae);exact .inr ⟨p,.inr h,ae⟩
 refine b_ ?_;refine aI (IY pG rfl wD (Has.there (Has.there Has.here)) Has.here) ?_;refine aZ ?_;by_cases Xa:sC=true;subst Xa;refine a_ ?_;by_cases Xb:le=true;subst Xb;refine bg ?_;refine cV _ [(12,.pointer (some ⟨wG,0,none⟩)),(4,.bool true),(5,.bool true)] Bf ⟨_,_,l++q,iQ,rfl,rfl,rfl,rfl,pG,Be,by simpa using qf,by simpa using fw⟩ ⟨rfl,rfl,rfl,trivial⟩;have F5:le=false:=by simpa using Xb
 subst F5;refine go2 ?_;refine cZ ?_;refine aI (kV (z:=decide (D k<0)) rfl rfl rfl) ?_;refine a_ ?_;refine cV _ [(12,.pointer (some ⟨wG,0,none⟩)),(4,.bool true),(5,.bool (decide (D k<0)))] Bf ⟨_,_,l++q,iQ,rfl,rfl,rfl,rfl,pG,Be,by simpa using qf,by simpa using fw⟩ ⟨rfl,rfl,rfl,trivial⟩;have alH:sC=false:=by simpa using Xa
 subst alH;refine go2 ?_;refine cZ ?_;refine aI (kV (z:=decide (0<D k)) rfl rfl rfl) ?_;refine go2 ?_;skip;refine aX ?_;by_cases Xc:le=true;subst Xc;refine aP ?_;refine cV _ [(12,.pointer (some ⟨wG,0,none⟩)),(4,.bool (decide (0<D k))),(5,.bool true)] Bf ⟨_,_,l++q,iQ,rfl,rfl,rfl,rfl,pG,Be,by simpa using qf,by simpa using fw⟩ ⟨rfl,rfl,rfl,trivial⟩;have F5:le=false:=by simpa using Xc
 subst F5;refine aX ?_;refine cZ ?_;refine aI (kV (z:=decide (D k<0)) rfl rfl rfl) ?_;refine a_ ?_;refine cV _ [(12,.pointer (some ⟨wG,0,none⟩)),(4,.bool (decide (0<D k))),(5,.bool (decide (D k<0)))] Bf ⟨_,_,l++q,iQ,rfl,rfl,rfl,rfl,pG,Be,by simpa using qf,by simpa using fw⟩ ⟨rfl,rfl,rfl,trivial⟩
def wH(a b:T)(k:Int):Int:=if k<0 then(wE a k:Int)-(wE b k:Int)else 0
theorem Xd(a b:T):(∃k,0<wH a b k)↔ni b a=false:=by
 rw[←Bool.not_eq_true,WT];unfold wH;constructor;rintro⟨k,h⟩ ax;by_cases hk:k<0;rw[if_pos hk]at h;have:=ax k hk;omega;rw[if_neg hk]at h;omega;intro h;rcases Classical.em (∃k,0<wH a b k)with ab|ab
 exact ab;exfalso;apply h;intro k hk;have:¬0<wH a b k:=fun ae=>ab ⟨k,ae⟩;unfold wH at this;rw[if_pos hk]at this;omega
theorem alI(a b:T):(∃k,wH a b k<0)↔ni a b=false:=by
 rw[←Xd b a];unfold wH;constructor<;>(rintro⟨k,h⟩;refine⟨k,?_⟩;split at h<;>rename_i hk<;>first|rw[if_pos hk];omega|omega)
theorem OK{I:aa}{b m:Nat}{w n:Int}{xs:bU}{s t:T}(rC:nj xs (wH s t)):
 aS Tryz.prog 256 [.pointer (some ⟨b,0,none⟩),.int .i64 n] I (wF b m w xs) (fun v _ δ'=>v=.int .i64 (kG s t n)∧δ'=wF b m w xs):=by
 refine a1 func256 ntmps256 fun aG=> ?_;refine bg ?_;refine hr rfl (alF rC) ?_;rintro v9 tB _ lF ⟨⟨sC,le,rfl,F4,hle⟩,rfl⟩;rw[List.append_nil];rw[Xd]at F4;rw[alI]at hle;refine bW ?_;by_cases nP:0<n;refine aR ?_;by_cases nO:le=true;subst nO;refine C0 ?_;refine dY ?_;have ax:ni s t=false:=hle.1 rfl;exact⟨by simp[dF,kG,ax];omega,rfl⟩;have OL:le=false:=by simpa using nO
 subst OL;refine dn ?_;refine dY ?_;have ax:ni s t=true:=by{cases h:ni s t;exact absurd (hle.2 h) (by simp);rfl}
 exact⟨by simp[dF,kG,nP,ax],rfl⟩;refine bW ?_;by_cases xE:n<0;refine aR ?_;by_cases mP:sC=true;subst mP;refine gk ?_;refine dY ?_;have ax:ni t s=false:=F4.1 rfl;exact⟨by simp[dF,kG,ax,nP],rfl⟩;have alJ:sC=false:=by simpa using mP
 subst alJ;refine dn ?_;refine dY ?_;have ax:ni t s=true:=by{cases h:ni t s;exact absurd (F4.2 h) (by simp);rfl}
 exact⟨by simp[dF,kG,ax,nP,xE],rfl⟩;refine iR ?_;refine dY ?_;exact⟨by simp[dF,kG,nP,xE],rfl⟩
theorem Xe{I:aa}{vg v:Value}{gs:List aE}{ts:List T}(aM:cP I vg gs)(ax:ed I v ts)(g_:∀t∈ts,t.size≤1000000000):
 aS Tryz.prog 236 [vg,v] I [] (fun v _ δ'=>v=.int .i64 (lb gs ts)∧δ'= []):=by
 obtain⟨ad,c,bj,ts,aq,al,aW,an,qG⟩:=ax;have bT:∀i (h:i<ts.length),ba I (.agg #[.int .i64 ts[i].head,.slice (bj i).1 ts[i].args.length (bj i).2]) ts[i]:=fun i aj=>ba.mk _ _ (an i aj) (qG i aj);refine a1 func236 ntmps236 fun aG=> ?_;refine dn ?_;refine ek (fun m aL ai δ'=>∃k:Nat,m=ts.length-k∧k≤ts.length∧aL= [(0,vg),(8,.slice ad ts.length c),(9,.int .i64 ts.length),(10,.int .i64 k)]∧I.le ai∧δ'= []∧∀t∈ts.take k,fX gs t=0) ts.length [(0,vg),(8,.slice ad ts.length c),(9,.int .i64 ts.length),(10,.int .i64 (0:Nat))] ⟨0,rfl,Nat.zero_le _,rfl,aa.le_refl _,rfl,by simp⟩ ⟨rfl,rfl,rfl,rfl,trivial⟩ ?_;rintro m _ I0 _ ⟨k,rfl,hk,rfl,bO,rfl,az⟩;refine aZ ?_;refine bF rfl (fun aV=> ?_) (fun aV=> ?_);have av:k<ts.length:=by simpa using aV
 have db:=(aW k av).isSome;refine aP ?_;refine aI (cC ((aW k av).mono bO)) ?_;refine bh fun c1=> ?_;refine aP ?_;refine bN rfl (JS (aM.mono bO) ((bT k av).mono bO) (g_ _ (List.getElem_mem _))) ?_;rintro mO jK _ jf ⟨rfl,rfl⟩;refine aZ ?_;by_cases qH:fX gs ts[k]≠0;refine fT ?_;refine bn ?_;exact⟨by rw[alB av az qH];rfl,rfl⟩;refine bA ?_;refine bf.view View.nil ?_;refine cV (ts.length-(k+1)) [(0,vg),(8,.slice ad ts.length c),(9,.int .i64 ts.length),(10,.int .i64 (k+1:Nat))] ah ⟨k+1,rfl,av,rfl,aa.ag,rfl,fun t ar=> ?_⟩ ⟨rfl,rfl,rfl,rfl,trivial⟩;rw[List.take_succ_eq_append_getElem av,List.mem_append,List.mem_singleton]at ar;rcases ar with ar|rfl
 exact az t ar;omega;have bV:k=ts.length:=by simp at aV;omega
 rw[bV,List.take_length]at az;refine bA ?_;refine bn ?_;exact⟨by rw[alC az];rfl,rfl⟩
theorem alK(gs:List aE):∀(l m:List T) (k:Nat) (h:k<l.length) (et:k<m.length),cS gs (l.drop k) (m.drop k)=if eL gs l[k] m[k]≠0 then eL gs l[k] m[k]else cS gs (l.drop (k+1)) (m.drop (k+1)):=by
 intro l m k h et;rw[List.drop_eq_getElem_cons h,List.drop_eq_getElem_cons et,cS]
theorem Xf{gs:List aE}:∀(n:Nat) (a b:T),a.size≤n→∀(I:aa) (vg bz cN:Value),cP I vg gs→ba I bz a→ba I cN b→b9 gs a→b9 gs b→
 aS Tryz.prog 237 [vg,bz,cN] I [] (fun v _ δ'=>v=.int .i64 (eL gs a b)∧δ'= []):=by
 intro n
 induction n with
 |zero=>intro a b h;have:=a.size_pos;omega
 |succ n aY=>
  intro a b aD I vg bz cN aM wI nQ bo eJ;obtain⟨ad,c,rfl⟩:=aM.shape;obtain⟨a0,bu,rfl,sD⟩:=wI.shape;obtain⟨m_,xI,rfl,qB⟩:=nQ.shape;obtain⟨_,_,_,sE,Xg,Bh,va,J2⟩:=wI.open;obtain⟨_,_,_,mF,F6,OM,wJ,ON⟩:=nQ.open;have sF:=gV bo.cw;have kb:=gV eJ.cw;have ayg:=FX bo;have ayh:=FX eJ;have bD:=wv a;have alL:=bo.ze (true,a) (by rw[gU];exact List.mem_cons_self ..);have OO:=eJ.ze (true,b) (by rw[gU];exact List.mem_cons_self ..);simp only at alL OO;have ez:=(Dd bo.right).2;have alM:=(F1 bo.cw (true,a) (by rw[gU];exact List.mem_cons_self ..)).2;have alN:=(F1 eJ.cw (true,b) (by rw[gU];exact List.mem_cons_self ..)).2;simp only at alM alN;have eV:∀k,0≤xH a k∧xH a k≤400:=fun k=>by have ab:=W0 (hi true a) k;rw[OI,JN]at ab;omega
  refine a1 func237 ntmps237 fun aG=> ?_;refine go2 ?_;refine bw fun b4=> ?_;refine bw fun b5=> ?_;refine bg ?_;refine bN rfl (u4 wI nQ ah ah) ?_;rintro wC nN _ mf ⟨rfl,rfl⟩;refine go2 ?_;refine bF rfl (fun aV=> ?_) (fun aV=> ?_);have nk:a=b:=by simpa using aV
  refine aP ?_;refine bn ?_;exact⟨by rw[sy,if_pos nk];rfl,rfl⟩;have nk:¬a=b:=by simpa using aV
  refine a8 ?_;refine tm rfl (fun ie=> ?_);refine aX ?_;refine bw fun zg=> ?_;refine bg ?_;refine eo rfl (W1 (.inl rfl) a.size a (Nat.le_refl _) _ _ 0 [] (fun _=>0) (aM.mono aa.ag) (wI.mono aa.ag) bo nj.nil ⟨by omega,by omega⟩ (fun k=>⟨by omega,by omega⟩)) (List.Perm.refl _) ?_;rintro tD sr _ wo ⟨pI,rfl,alO⟩;refine aP ?_;refine eo rfl (W1 (.inr rfl) b.size b (Nat.le_refl _) _ _ _ pI _ (aM.mono aa.ag) (nQ.mono aa.ag) eJ alO ⟨by omega,by omega⟩ (fun k=>by have:=eV k;constructor<;>omega)) (List.Perm.refl _) ?_;rintro v23 pJ _ pK ⟨iX,rfl,OJ⟩;have rC:nj iX (wH a b):=OJ.congr (fun k=>by unfold wH xH;split<;>omega);have J3:(0:Int)+1*dq gs a+ -1*dq gs b=dq gs a-dq gs b:=by omega
  rw[J3];refine b_ ?_;by_cases ayi:dq gs a-dq gs b≠0;refine bW ?_;refine eo rfl (OK rC) (List.Perm.refl _) ?_;rintro Xh Xi _ Xj ⟨rfl,rfl⟩;refine aZ ?_;refine bn ?_;exact⟨by rw[sy gs a b,if_neg nk,if_pos (show dq gs a≠dq gs b by omega)];rfl,rfl⟩;refine br ?_;by_cases ayj:a.head<0;refine iR ?_;refine bn ?_;exact⟨by rw[sy gs a b,if_neg nk,if_neg (show¬(dq gs a≠dq gs b)by omega),if_pos (show a.head<0∨b.head<0 by omega)];rfl,rfl⟩;refine a8 ?_;by_cases ayk:b.head<0;refine dn ?_;refine bn ?_;exact⟨by rw[sy gs a b,if_neg nk,if_neg (show¬(dq gs a≠dq gs b)by omega),if_pos (show a.head<0∨b.head<0 by omega)];rfl,rfl⟩;refine bW ?_;by_cases Dj:a.head≠b.head;refine bW ?_;refine aI (gG rfl rfl rfl ah) ?_;refine eo rfl (OK rC) (List.Perm.refl _) ?_;rintro ayl aym _ ayn ⟨rfl,rfl⟩;refine aZ ?_;refine bn ?_;exact⟨by rw[sy gs a b,if_neg nk,if_neg (show¬(dq gs a≠dq gs b)by omega),if_neg (show¬(a.head<0∨b.head<0)by omega),if_pos Dj];rfl,rfl⟩;have hlen:(a.args.length:Int)=b.args.length:=by rw[bo.arity ah,eJ.arity ah,show a.head=b.head by omega]
  refine dn ?_;refine ek (fun m aL ai δ'=>∃k:Nat,m=a.args.length-k∧k≤a.args.length∧aL= [(0,.slice ad gs.length c),(4,.pointer (some ⟨b4,0,none⟩)),(5,.pointer (some ⟨b5,0,none⟩)),(7,.pointer (some ⟨zg,0,none⟩)),(26,.int .i64 a.args.length),(27,.int .i64 k)]∧I.le ai∧δ'=wF zg ie (dq gs a-dq gs b) iX++ [.box b5 41 [.int .i64 b.head,.slice m_ b.args.length xI],.box b4 41 [.int .i64 a.head,.slice a0 a.args.length bu]]∧cS gs a.args b.args=cS gs (a.args.drop k) (b.args.drop k)) a.args.length [(0,.slice ad gs.length c),(4,.pointer (some ⟨b4,0,none⟩)),(5,.pointer (some ⟨b5,0,none⟩)),(7,.pointer (some ⟨zg,0,none⟩)),(26,.int .i64 a.args.length),(27,.int .i64 (0:Nat))] ⟨0,rfl,Nat.zero_le _,rfl,aa.ag,rfl,rfl⟩ ⟨rfl,rfl,rfl,rfl,rfl,rfl,trivial⟩ ?_;rintro m _ I0 _ ⟨k,rfl,hk,rfl,bO,rfl,ch⟩;refine aZ ?_;refine bF rfl (fun u2=> ?_) (fun u2=> ?_);have av:k<a.args.length:=by simpa using u2
  have jN:k<b.args.length:=by omega
  have db:=(va k av).isSome;have gr:=(wJ k jN).isSome;have hm:=pt a.args k av;rw[alK gs _ _ k av jN]at ch;refine bA ?_;refine g5 [0,2,4,6,8,10,12,14,16,18,20,23,25] ?_;refine a_ ?_;refine dg rfl (cC ((va k av).mono bO)) ?_;refine a8 ?_;refine dg rfl (cC ((wJ k jN).mono bO)) ?_;refine aX ?_;refine bN rfl (aY a.args[k] b.args[k] ah _ _ _ _ (aM.mono aa.ag) ((J2 k av).mono aa.ag) ((ON k jN).mono aa.ag) (bo.child k av).1 (eJ.child k jN).1) ?_;rintro v41 OP _ OQ ⟨rfl,rfl⟩;refine a_ ?_;refine dB ?_;refine a_ ?_;by_cases ng:eL gs a.args[k] b.args[k]≠0;refine bg ?_;by_cases lN:eL gs a.args[k] b.args[k]=2;refine iR ?_;refine bn ?_;rw[if_pos ng]at ch;exact⟨by rw[sy gs a b,if_neg nk,if_neg (show¬(dq gs a≠dq gs b)by omega),if_neg (show¬(a.head<0∨b.head<0)by omega),if_neg Dj,ch,if_neg ng,if_pos lN,lN];rfl,rfl⟩;refine b_ ?_;refine eo rfl (OK rC) (List.Perm.refl _) ?_;rintro alP F7 _ J4 ⟨rfl,rfl⟩;refine b_ ?_;refine bn ?_;rw[if_pos ng]at ch;exact⟨by rw[sy gs a b,if_neg nk,if_neg (show¬(dq gs a≠dq gs b)by omega),if_neg (show¬(a.head<0∨b.head<0)by omega),if_neg Dj,ch,if_neg ng,if_neg lN];rfl,rfl⟩;refine bA ?_;refine cV (a.args.length-(k+1)) [(0,.slice ad gs.length c),(4,.pointer (some ⟨b4,0,none⟩)),(5,.pointer (some ⟨b5,0,none⟩)),(7,.pointer (some ⟨zg,0,none⟩)),(26,.int .i64 a.args.length),(27,.int .i64 (k+1:Nat))] ah ⟨k+1,rfl,av,rfl,aa.ag,rfl,by rw[ch,if_neg ng]⟩ ⟨rfl,rfl,rfl,rfl,rfl,rfl,trivial⟩;have bV:k=a.args.length:=by simp at u2;omega
  refine bW ?_;refine bn ?_;have a2:cS gs a.args b.args=0:=by rw[ch,bV,List.drop_length];cases b.args.drop a.args.length<;>rfl
  exact⟨by rw[sy gs a b,if_neg nk,if_neg (show¬(dq gs a≠dq gs b)by omega),if_neg (show¬(a.head<0∨b.head<0)by omega),if_neg Dj,if_pos a2];rfl,rfl⟩
theorem OR{I:aa}{vg bz cN:Value}{gs:List aE}{a b:T}(aM:cP I vg gs)(wI:ba I bz a)(nQ:ba I cN b)(bk:a.size≤1000000000)(al:b.size≤1000000000):
 aS Tryz.prog 211 [vg,bz,cN] I [] (fun v _ δ'=>v=.tuple #[.int .i64 (if lb gs [a,b]=0 then eL gs a b else 0),.int .i64 (lb gs [a,b])]∧δ'= []):=by
 obtain⟨a0,bu,rfl,sD⟩:=wI.shape;obtain⟨m_,xI,rfl,qB⟩:=nQ.shape;refine a1 func211 ntmps211 fun aG=> ?_;refine go2 ?_;refine bw fun b4=> ?_;refine bw fun b5=> ?_;refine b_ ?_;refine c_ fun kc=> ?_;refine aK.dO aO.here ?_;rintro nN Jx Jy mf aC OS Xk F8;cases aC;refine bN rfl (Xe (aM.mono aa.ag) (cF.tC (ts:= [a,b]) rfl F8 ((cF.one (wI.mono mf)).app (cF.one (nQ.mono mf))) OS ah) (by intro t ar;simp at ar;rcases ar with rfl|rfl<;>assumption)) ?_;rintro sv mi _ oD ⟨rfl,rfl⟩;refine aZ ?_;by_cases lK:lb gs [a,b]≠0;refine cT ?_;refine bn ?_;exact⟨by rw[if_neg lK];rfl,rfl⟩;refine bA ?_;have aB:lb gs [a,b]=0:=by omega
 have cE:=Bg.1 aB;refine bN rfl (Xf a.size a b (Nat.le_refl _) _ _ _ _ (aM.mono aa.ag) (wI.mono aa.ag) (nQ.mono aa.ag) (cE a (by simp)) (cE b (by simp))) ?_;rintro v20 vb _ tI ⟨rfl,rfl⟩;refine a_ ?_;refine bn ?_;exact⟨by rw[if_pos aB,aB];rfl,rfl⟩
def nR{α:Type}(p:α→Bool):List α→Int
  | []=> -1
  |s::r=>if p s then 0 else if nR p r<0 then-1 else nR p r+1
theorem F9{α:Type}(p:α→Bool):∀gs:List α,gs.any p=false→nR p gs= -1
  | [],_=>rfl
  |s::r,h=>by simp only[List.any_cons,Bool.or_eq_false_iff]at h;simp[nR,h.1,F9 p r h.2]
theorem J5{α:Type}(p:α→Bool):∀(gs:List α) (k:Nat) (h:k<gs.length),(gs.take k).any p=false→p gs[k]=true→nR p gs=k
  |s::r,0,_,_,hk=>by simp at hk;simp[nR,hk]
  |s::r,k+1,h,az,hk=>by simp only[List.take_succ_cons,List.any_cons,Bool.or_eq_false_iff]at az;have:=J5 p r k (by simpa using h) az.2 (by simpa using hk);simp only[nR,az.1,Bool.false_eq_true,if_false,this];rw[if_neg ah];omega
theorem OT{α:Type}(p:α→Bool):∀gs:List α,(0≤nR p gs↔gs.any p=true)∧-1≤nR p gs
  | []=>by simp[nR]
  |s::r=>by obtain⟨ab,ae⟩:=OT p r;simp only[nR,List.any_cons,Bool.or_eq_true,←ab];by_cases h:p s=true;simp[h];simp only[h,Bool.false_eq_true,if_false,false_or];split<;>omega
theorem OU{α:Type}{p:α→Bool}{gs:List α}{k:Nat}(h:k<gs.length)(az:(gs.take k).any p=false)(hk:p gs[k]=false):(gs.take (k+1)).any p=false:=by
 rw[List.take_succ_eq_append_getElem h,List.any_append,az];simp[hk]
theorem alQ{cs:List Value}{o:Nat}{x y:Value}(h:cs[o]? =some x)(k:cs[o+1]? =some y):kU true 2 (cs.drop o)=some (.agg #[x,y]):=by
 obtain⟨aA,rfl⟩:=List.getElem?_eq_some_iff.1 h;obtain⟨fw,rfl⟩:=List.getElem?_eq_some_iff.1 k;rw[List.drop_eq_getElem_cons aA,List.drop_eq_getElem_cons fw];rfl
theorem ed.shape{I:aa}{v:Value}{ts:List T}(h:ed I v ts):∃ad c,v=.slice ad ts.length c:=by
 obtain⟨ad,c,bj,ts,_,_,_,_,_⟩:=h;exact⟨ad,c,rfl⟩
theorem alR{I:aa}{v b1:Value}{ts:List T}{δf:List ay}{p:T→Bool}(ax:ed I v ts)(a7:∀J u t,I.le J→ba J u t→t∈ts→cR Tryz.prog b1 [u] J δf (fun v _ δ'=>v=.bool (p t)∧δ'=δf)):
 aS Tryz.prog 142 [v,b1] I δf (fun v _ δ'=>v=.int .i64 (nR p ts)∧δ'=δf):=by
 obtain⟨ad,c,bj,ts,aq,al,aW,an,qG⟩:=ax;have bT:∀i (h:i<ts.length),ba I (.agg #[.int .i64 ts[i].head,.slice (bj i).1 ts[i].args.length (bj i).2]) ts[i]:=fun i aj=>ba.mk _ _ (an i aj) (qG i aj);refine a1 func142 ntmps142 fun aG=> ?_;refine dn ?_;refine ek (fun m aL ai δ'=>∃k:Nat,m=ts.length-k∧k≤ts.length∧aL= [(0,.slice ad ts.length c),(1,b1),(7,.int .i64 ts.length),(8,.int .i64 k)]∧I.le ai∧δ'=δf∧(ts.take k).any p=false) ts.length [(0,.slice ad ts.length c),(1,b1),(7,.int .i64 ts.length),(8,.int .i64 (0:Nat))] ⟨0,rfl,Nat.zero_le _,rfl,aa.le_refl _,rfl,rfl⟩ ⟨rfl,rfl,rfl,rfl,trivial⟩ ?_;rintro m _ I0 _ ⟨k,rfl,hk,rfl,bO,rfl,az⟩;refine aZ ?_;refine bF rfl (fun aV=> ?_) (fun aV=> ?_);have av:k<ts.length:=by simpa using aV
 have db:=(aW k av).isSome;refine fT ?_;refine aI (cC ((aW k av).mono bO)) ?_;refine e8 rfl rfl rfl ((a7 _ _ ts[k] bO ((bT k av).mono bO) (List.getElem_mem _))) df.all ?_;rintro mO jK _ jf ⟨rfl,rfl⟩;rw[List.append_nil];refine go2 ?_;refine bF rfl (fun bq=> ?_) (fun bq=> ?_);refine bW ?_;refine dY ?_;exact⟨by rw[J5 p ts k av az bq];rfl,rfl⟩;refine aP ?_;refine cV (ts.length-(k+1)) [(0,.slice ad ts.length c),(1,b1),(7,.int .i64 ts.length),(8,.int .i64 (k+1:Nat))] ah ⟨k+1,rfl,av,rfl,aa.le_trans bO jf,rfl,OU av az bq⟩ ⟨rfl,rfl,rfl,rfl,trivial⟩;have bV:k=ts.length:=by simp at aV;omega
 subst bV;rw[List.take_length]at az;refine bA ?_;refine dY ?_;exact⟨by rw[F9 p ts az];rfl,rfl⟩
theorem Dk{I:aa}{v b1:Value}{ts:List T}{δf:List ay}{p:T→Bool}(ax:ed I v ts)(a7:∀J u t,I.le J→ba J u t→t∈ts→cR Tryz.prog b1 [u] J δf (fun v _ δ'=>v=.bool (p t)∧δ'=δf)):
 aS Tryz.prog 110 [v,b1] I δf (fun v _ δ'=>v=.bool (ts.any p)∧δ'=δf):=by
 refine a1 func110 ntmps110 fun aG=> ?_;refine br ?_;refine hr rfl (alR ax a7) ?_;rintro mM je _ kA ⟨rfl,rfl⟩;rw[List.append_nil];refine a_ ?_;refine dY ?_;exact⟨xu (by have:=(OT p ts).1;cases h:ts.any p<;>simp_all),rfl⟩
abbrev oG(A:Option Addr)(c n:Nat)(xs:List Value):ay:=.row (.slice A n c) 41 2 n xs
theorem alS{I:aa}{b1:Value}{ts:List T}{A:Option Addr}{c:Nat}{xs:List Value}{δf:List ay}{p:T→Bool}(af:cF I xs ts)(al:ts.length≤4398046511104)(a7:∀J u t,I.le J→ba J u t→t∈ts→cR Tryz.prog b1 [u] J (oG A c ts.length xs::δf) (fun v _ δ'=>v=.bool (p t)∧δ'=oG A c ts.length xs::δf)):
 aS Tryz.prog 142 [.slice A ts.length c,b1] I (oG A c ts.length xs::δf) (fun v _ δ'=>v=.int .i64 (nR p ts)∧δ'=oG A c ts.length xs::δf):=by
 refine a1 func142 ntmps142 fun aG=> ?_;refine dn ?_;refine ek (fun m aL ai δ'=>∃k:Nat,m=ts.length-k∧k≤ts.length∧aL= [(0,.slice A ts.length c),(1,b1),(7,.int .i64 ts.length),(8,.int .i64 k)]∧I.le ai∧δ'=oG A c ts.length xs::δf∧(ts.take k).any p=false) ts.length [(0,.slice A ts.length c),(1,b1),(7,.int .i64 ts.length),(8,.int .i64 (0:Nat))] ⟨0,rfl,Nat.zero_le _,rfl,aa.le_refl _,rfl,rfl⟩ ⟨rfl,rfl,rfl,rfl,trivial⟩ ?_;rintro m _ I0 _ ⟨k,rfl,hk,rfl,bO,rfl,az⟩;refine aZ ?_;refine bF rfl (fun aV=> ?_) (fun aV=> ?_);have av:k<ts.length:=by simpa using aV
 obtain⟨s,db,gr,qe⟩:=af.2 k av;refine bW ?_;refine aK.gK Has.here ah (fun bo eV=> ?_);refine aR ?_;refine aI (IB underlying37 oq rfl rfl av bo) ?_;refine aI (gH fc rfl Has.here bo (alQ db gr)) ?_;refine e8 rfl rfl rfl ((a7 _ _ ts[k] bO (qe.mono bO) (List.getElem_mem _))) df.all ?_;rintro mO jK _ jf ⟨rfl,rfl⟩;rw[List.append_nil];refine go2 ?_;refine bF rfl (fun bq=> ?_) (fun bq=> ?_);refine bW ?_;refine dY ?_;exact⟨by rw[J5 p ts k av az bq];rfl,rfl⟩;refine aP ?_;refine cV (ts.length-(k+1)) [(0,.slice A ts.length c),(1,b1),(7,.int .i64 ts.length),(8,.int .i64 (k+1:Nat))] ah ⟨k+1,rfl,av,rfl,aa.le_trans bO jf,rfl,OU av az bq⟩ ⟨rfl,rfl,rfl,rfl,trivial⟩;have bV:k=ts.length:=by simp at aV;omega
 have tJ:ts.any p=false:=by rw[bV,List.take_length]at az;exact az
 refine bA ?_;refine dY ?_;exact⟨by rw[F9 p ts tJ];rfl,rfl⟩
theorem alT{I:aa}{n i c:Nat}{A:Option Addr}{xs:List Value}(aj:i<n)(al:n≤4398046511104)(ab:∀u∈xs,u.oneCell'=true):
 aS Tryz.prog 280 [.slice A n c,.int .i64 i,.int .i64 ((i:Int)+1)] I [oG A c n xs] (fun v _ δ'=>v=.slice A (n-1) c∧δ'= [oG A c (n-1) (xs.take (i*2)++(xs.drop ((i+1)*2)).take ((n-(i+1))*2))]):=by
 have aQ:(i:Int)+1=((i+1:Nat):Int):=by omega
 have aT:i+(n-(i+1))=n-1:=by omega
 rw[aQ];refine a1 func280 ntmps280 fun aG=> ?_;refine aP ?_;refine aK.gK Has.here ah (fun bo eV=> ?_);refine a_ ?_;refine aI (Um underlying37 oq rfl rfl rfl rfl ah ah ah) ?_;refine aP ?_;refine aI (l2 rfl rfl rfl ah) ?_;refine cT ?_;refine eU [0,2,4,6,8,10,13,15] (fun _=> []) (fun _=>(List.nil_sublist _)) ?_;refine go2 ?_;refine dg rfl (m7 underlying37 oq rfl rfl ah) ?_;refine go2 ?_;refine dg rfl (uQ underlying37 oq rfl rfl ah ah) ?_;refine aX ?_;refine Uo underlying37 NM rfl rfl rfl bc.here ah ah ah ab al ah bo ?_;refine aX ?_;refine jY rfl (kY aa.ag (fun _=>(by intro x af;cases af))) ?_;refine aR ?_;refine dB ?_;refine a8 ?_;rw[aT];refine a8 ?_;refine aI (Un underlying37 oq rfl rfl rfl ah ah) ?_;refine IZ underlying37 (by kernel_rfl) (z:=.agg #[.int .i64 0,.slice none 0 0]) (by rfl) (by rfl) rfl Has.here ah ?_;refine br ?_;refine dY ?_;exact⟨rfl,rfl⟩
theorem cF.kd{I:aa}{xs:List Value}{ts:List T}(h:cF I xs ts):∀u∈xs,u.oneCell'=true:=fun u hu=>by
 obtain⟨j,au,rfl⟩:=List.getElem_of_mem hu;have aA:=h.1;obtain⟨s,ab,ae,_⟩:=h.2 (j/2) ah;rcases Nat.mod_two_eq_zero_or_one j with e|e
 have xt:j/2*2=j:=by omega
 rw[xt,List.getElem?_eq_getElem au]at ab;rw[Option.some.inj ab];rfl;have xt:j/2*2+1=j:=by omega
 rw[xt,List.getElem?_eq_getElem au]at ae;rw[Option.some.inj ae];rfl
theorem cF.del{I:aa}{xs:List Value}{ts:List T}{i:Nat}(h:cF I xs ts)(aj:i<ts.length):cF I (xs.take (i*2)++(xs.drop ((i+1)*2)).take ((ts.length-(i+1))*2)) (ts.eraseIdx i):=by
 have aA:=h.1;have e:ts.eraseIdx i=ts.take i++ts.drop (i+1):=List.eraseIdx_eq_take_drop_succ ..;rw[e];refine cF.app ⟨by rw[List.length_take,List.length_take];omega,fun j au=> ?_⟩ ⟨by rw[List.length_take,List.length_drop,List.length_drop];omega,fun j au=> ?_⟩;have qA:j<i:=by rw[List.length_take]at au;omega
 obtain⟨s,ab,ae,aF⟩:=h.2 j ah;have aT:(ts.take i)[j]=ts[j]'(by omega):=List.getElem_take;rw[aT];exact⟨s,by rw[List.getElem?_take_of_lt ah];exact ab,by rw[List.getElem?_take_of_lt ah];exact ae,aF⟩;have qA:j<ts.length-(i+1):=by rw[List.length_drop]at au;exact au
 obtain⟨s,ab,ae,aF⟩:=h.2 (i+1+j) ah;have aT:(ts.drop (i+1))[j]=ts[i+1+j]'(by omega):=List.getElem_drop;rw[aT];exact⟨s,by rw[List.getElem?_take_of_lt ah,List.getElem?_drop,show(i+1)*2+j*2=(i+1+j)*2 by omega];exact ab,by rw[List.getElem?_take_of_lt ah,List.getElem?_drop,show(i+1)*2+(j*2+1)=(i+1+j)*2+1 by omega];exact ae,aF⟩
theorem Xl(t:T):∀(l:List T),t∈l→∃i:Nat,nR (fun u=>decide (t=u)) l=i∧i<l.length∧l.eraseIdx i=l.erase t
  | [],h=>by cases h
  |x::r,h=>by
   by_cases e:t=x;subst e;exact⟨0,by simp[nR],by simp,by simp⟩;have an:t∈r:=by rcases List.mem_cons.1 h with h|h;exact absurd h e;exact h
   obtain⟨i,ab,ae,aF⟩:=Xl t r an;have aT:(x==t)=false:=by simp;exact fun h=>e h.symm
   refine⟨i+1,?_,by simp;omega,?_⟩;simp only[nR,ab];rw[if_neg (by simpa using e),if_neg ah];omega;rw[List.eraseIdx_cons_succ,List.erase_cons,aT,aF];rfl
theorem alU(t:T)(l:List T)(h:t∉l):nR (fun u=>decide (t=u)) l= -1:=
  F9 _ l (by rw[List.any_eq_false];intro x af;simp;exact fun e=>h (e▸af))
theorem alV{I:aa}{b:Nat}{v:Value}{t u:T}{ju:Option Addr}{iW:Nat}{X:ay}(ax:ba I v u)(ar:ba I (.agg #[.int .i64 t.head,.slice ju t.args.length iW]) t)(V9:u.size≤1000000000)(JD:t.size≤1000000000):
 aS Tryz.prog 279 [v,.pointer (some ⟨b,0,none⟩)] I [X,.box b 41 [.int .i64 t.head,.slice ju t.args.length iW]] (fun v _ δ'=>v=.bool (decide (t=u))∧δ'= [X,.box b 41 [.int .i64 t.head,.slice ju t.args.length iW]]):=by
 obtain⟨c3,cK,rfl,_⟩:=ax.shape;refine a1 func279 ntmps279 fun aG=> ?_;refine go2 ?_;refine bw fun b2=> ?_;refine a_ ?_;refine aI (p9 fc rfl (Has.there (Has.there Has.here)) rfl) ?_;refine aI (p9 fc rfl Has.here rfl) ?_;refine bN rfl (u4 ar ax JD V9) ?_;rintro v6 wk _ tw ⟨rfl,rfl⟩;refine a8 ?_;refine dv (rs:= [.tmp 3]) rfl (List.Perm.refl _) (.cons (.tmp rfl) .nil) (List.sublist_cons_self _ _) ?_;exact⟨rfl,rfl⟩
theorem Xm{I:aa}{bz cN:Value}{a b:List T}(bk:ed I bz a)(al:ed I cN b)(sF:∀t∈a,t.size≤1000000000)(kb:∀t∈b,t.size≤1000000000)(zh:a.length≤1000000)(oH:b.length≤1000000):
 aS Tryz.prog 267 [bz,cN] I [] (fun v ai δ'=>ed ai v (gW a b)∧δ'= []):=by
 obtain⟨ad,ac,Bh,a,sE,Xg,va,F_,alW⟩:=bk;obtain⟨gT,ke,OM,b,mF,F6,wJ,tK,alX⟩:=al;have J2:∀i (h:i<a.length),ba I (.agg #[.int .i64 a[i].head,.slice (Bh i).1 a[i].args.length (Bh i).2]) a[i]:=fun i aj=>ba.mk _ _ (F_ i aj) (alW i aj);have ON:∀i (h:i<b.length),ba I (.agg #[.int .i64 b[i].head,.slice (OM i).1 b[i].args.length (OM i).2]) b[i]:=fun i aj=>ba.mk _ _ (tK i aj) (alX i aj);obtain⟨ep,bm⟩:=cF.of wJ ON;refine a1 func267 ntmps267 fun aG=> ?_;refine bg ?_;refine bN rfl (FA I ep bm.1 bm.kd F6) ?_;rintro v11 ry _ qE ⟨la,lc,rfl,rfl⟩;refine fx ?_;refine bJ.view (View.gh 41 2) ?_;refine ek (fun m aL ai δ'=>∃(k:Nat) (L O:List T) (A B:Option Addr) (c e:Nat) (xs ys:List Value),m=a.length-k∧k≤a.length∧aL= [(5,.slice A L.length c),(6,.slice B O.length e),(12,.slice ad a.length ac),(13,.int .i64 a.length),(14,.int .i64 k)]∧I.le ai∧δ'= [oG B e O.length ys,oG A c L.length xs]∧cF ai xs L∧cF ai ys O∧gW a b=O++gW (a.drop k) L∧O.length≤k∧L.length≤b.length∧(∀t∈L,t∈b)) a.length [(5,.slice la b.length lc),(6,.slice none 0 0),(12,.slice ad a.length ac),(13,.int .i64 a.length),(14,.int .i64 (0:Nat))] ⟨0,b,[],la,none,lc,0,_,[],rfl,Nat.zero_le _,rfl,qE,rfl,bm.mono qE,cF.nil _,rfl,Nat.zero_le _,Nat.le_refl _,fun _ h=>h⟩ ⟨rfl,rfl,rfl,rfl,rfl,trivial⟩ ?_;rintro m _ I0 _ ⟨k,L,O,A,B,c,e,xs,ys,rfl,hk,rfl,bO,rfl,af,aw,ch,mS,eu,zi⟩;refine aZ ?_;refine bF rfl (fun aV=> ?_) (fun aV=> ?_);have av:k<a.length:=by simpa using aV
 have db:=(va k av).isSome;have hj:=sF _ (List.getElem_mem av);rw[List.drop_eq_getElem_cons av,gW]at ch;refine aP ?_;refine aI (cC ((va k av).mono bO)) ?_;refine bh fun b8=> ?_;refine aP ?_;refine r_ ai8 rfl rfl ((alS (δf:= [.box b8 41 [.int .i64 a[k].head,.slice (Bh k).1 a[k].args.length (Bh k).2]]) (p:=fun u=>decide (a[k]=u)) af ah (fun J u t cj hu ar=>cR.fq (caps:= [_]) ajl (alV hu ((J2 k av).mono (aa.le_trans bO cj)) (kb t (zi t ar)) hj)))) (df.two (aO.there (aO.there aO.here)) aO.here) ?_;rintro v20 vb _ tI ⟨rfl,rfl⟩;refine aP ?_;by_cases pF:a[k]∈L;obtain⟨i,ml,eF,lO⟩:=Xl a[k] L pF;rw[if_pos pF,←lO]at ch;rw[ml];have hlen:L.length-1=(L.eraseIdx i).length:=by rw[List.length_eraseIdx];simp[eF]
 refine bA ?_;refine eo rfl (alT eF ah af.kd) (df.one aO.here) ?_;rintro xJ xK _ xL ⟨rfl,rfl⟩;refine bg ?_;refine bf.view ((View.drop (aO.there aO.here)).trans (View.perm (List.Perm.swap _ _ _))) ?_;refine cV (a.length-(k+1)) [(5,.slice A (L.length-1) c),(6,.slice B O.length e),(12,.slice ad a.length ac),(13,.int .i64 a.length),(14,.int .i64 (k+1:Nat))] ah ⟨k+1,L.eraseIdx i,O,A,B,c,e,_,ys,rfl,av,by rw[hlen],aa.ag,by simp only[oG,←hlen],(af.mono aa.ag).del eF,aw.mono aa.ag,ch,by omega,by rw[←hlen];omega,fun t ar=>zi t (List.mem_of_mem_eraseIdx ar)⟩ ⟨rfl,rfl,rfl,rfl,rfl,trivial⟩;rw[if_neg pF]at ch;rw[alU a[k] L pF];refine bg ?_;refine c_ fun Om=> ?_;refine gl fun a26 zj=> ?_;have fw:O.length+1=(O++ [a[k]]).length:=by simp
 refine bA ?_;refine bf.view ((View.drop aO.here).trans ((View.drop (aO.there aO.here)).trans (View.perm (List.Perm.swap _ _ _)))) ?_;refine cV (a.length-(k+1)) [(5,.slice A L.length c),(6,.slice a26 (O.length+1) zj),(12,.slice ad a.length ac),(13,.int .i64 a.length),(14,.int .i64 (k+1:Nat))] ah ⟨k+1,L,O++ [a[k]],A,a26,c,zj,xs,ys++ [.int .i64 a[k].head,.slice (Bh k).1 a[k].args.length (Bh k).2],rfl,av,by rw[fw],aa.ag,by simp only[oG,←fw];rfl,af.mono aa.ag,(aw.mono aa.ag).app (cF.one ((J2 k av).mono aa.ag)),by rw[ch];simp,by rw[←fw];omega,eu,zi⟩ ⟨rfl,rfl,rfl,rfl,rfl,trivial⟩;have bV:k=a.length:=by simp at aV;omega
 refine aP ?_;refine aK.dO aO.here ?_;rintro A9 ayo Ga wy mc eV iT Gb;cases mc;rw[bV,List.drop_length]at ch;refine a_ ?_;refine bn ?_;exact⟨by rw[ch];simp only[gW,List.append_nil];exact cF.tC rfl Gb (aw.mono wy) eV ah,rfl⟩
abbrev J6(dU rD:Nat)(bz vg:Value):List ay:= [.box dU 37 [bz],.box rD 22 [vg]]
theorem alY{I:aa}{rD OV:Nat}{v:Value}{gs:List aE}{t u:T}{cQ c3:Option Addr}{gc cK:Nat}{X:ay}(aM:cP I (.slice cQ gs.length gc) gs)(ax:ba I v t)(hu:ba I (.agg #[.int .i64 u.head,.slice c3 u.args.length cK]) u)(ar:b9 gs t)(Gc:b9 gs u):
 aS Tryz.prog 282 [v,.pointer (some ⟨rD,0,none⟩),.pointer (some ⟨OV,0,none⟩)] I [.box OV 41 [.int .i64 u.head,.slice c3 u.args.length cK],X,.box rD 22 [.slice cQ gs.length gc]] (fun v _ δ'=>v=.bool (decide (eL gs t u=1))∧δ'= [.box OV 41 [.int .i64 u.head,.slice c3 u.args.length cK],X,.box rD 22 [.slice cQ gs.length gc]]):=by
 obtain⟨ju,iW,rfl,_⟩:=ax.shape;refine a1 func282 ntmps282 fun aG=> ?_;refine go2 ?_;refine bw fun b3=> ?_;refine a_ ?_;refine aI (p9 UK rfl (Has.there (Has.there (Has.there Has.here))) rfl) ?_;refine aI (p9 fc rfl Has.here rfl) ?_;refine aI (p9 fc rfl (Has.there Has.here) rfl) ?_;refine bN rfl (Xf t.size t u (Nat.le_refl _) _ _ _ _ aM ax hu ar Gc) ?_;rintro so jt _ jJ ⟨rfl,rfl⟩;refine aI (kV (z:=decide (eL gs t u=1)) rfl rfl rfl) ?_;refine a8 ?_;refine dv (rs:= [.tmp 4]) rfl (List.Perm.refl _) (.cons (.tmp rfl) .nil) (List.sublist_cons_self _ _) ?_;exact⟨rfl,rfl⟩
theorem alZ{I:aa}{dU rD:Nat}{v bz:Value}{gs:List aE}{a:List T}{u:T}{cQ:Option Addr}{gc:Nat}(aM:cP I (.slice cQ gs.length gc) gs)(bk:ed I bz a)(ax:ba I v u)(zk:∀t∈a,b9 gs t)(Gc:b9 gs u):
 aS Tryz.prog 281 [v,.pointer (some ⟨dU,0,none⟩),.pointer (some ⟨rD,0,none⟩)] I (J6 dU rD bz (.slice cQ gs.length gc)) (fun v _ δ'=>v=.bool (a.any fun t=>decide (eL gs t u=1))∧δ'=J6 dU rD bz (.slice cQ gs.length gc)):=by
 obtain⟨c3,cK,rfl,_⟩:=ax.shape;obtain⟨rE,ac,rfl⟩:=bk.shape;refine a1 func281 ntmps281 fun aG=> ?_;refine go2 ?_;refine bw fun b3=> ?_;refine aP ?_;refine hr rfl (Dk (p:=fun t=>decide (eL gs t u=1)) bk (fun J x t cj af ar=>cR.fq (caps:= [_,_]) ajn (alY (aM.mono cj) af (ax.mono cj) (zk t ar) Gc))) ?_;rintro mM je _ kA ⟨rfl,rfl⟩;rw[List.append_nil];refine a8 ?_;refine dv (rs:= [.tmp 4]) rfl (List.Perm.refl _) (.cons (.tmp rfl) .nil) (List.sublist_cons_self _ _) ?_;exact⟨rfl,rfl⟩
theorem al0{I:aa}{OW dU rD:Nat}{v bz:Value}{gs:List aE}{a:List T}{u:T}{cQ:Option Addr}{gc:Nat}(aM:cP I (.slice cQ gs.length gc) gs)(bk:ed I bz a)(ax:ba I v u)(zk:∀t∈a,b9 gs t)(Gc:b9 gs u):
 aS Tryz.prog 283 [v,.pointer (some ⟨OW,0,none⟩)] I (.box OW 170 [.func (.func 281) #[] #[.pointer (some ⟨dU,0,none⟩),.pointer (some ⟨rD,0,none⟩)]]::J6 dU rD bz (.slice cQ gs.length gc)) (fun v _ δ'=>v=.bool (!(a.any fun t=>decide (eL gs t u=1)))∧δ'=.box OW 170 [.func (.func 281) #[] #[.pointer (some ⟨dU,0,none⟩),.pointer (some ⟨rD,0,none⟩)]]::J6 dU rD bz (.slice cQ gs.length gc)):=by
 obtain⟨c3,cK,rfl,_⟩:=ax.shape;refine a1 func283 ntmps283 fun aG=> ?_;refine go2 ?_;refine bw fun b2=> ?_;refine a_ ?_;refine aI (p9 NI rfl (Has.there Has.here) rfl) ?_;refine aI (p9 fc rfl Has.here rfl) ?_;refine e8 rfl rfl rfl ((cR.fq (caps:= [_,_]) ajm (alZ aM bk ax zk Gc))) (List.perm_append_comm (l₁:= [_,_])) ?_;rintro v6 wk _ tw ⟨rfl,rfl⟩;refine aK.view (View.perm (List.perm_append_comm (l₂:= [_,_]))) ?_;refine a_ ?_;refine dv (rs:= [.tmp 3]) rfl (List.Perm.refl _) (.cons (.tmp rfl) .nil) (List.sublist_cons_self _ _) ?_;exact⟨rfl,rfl⟩
theorem Xn{I:aa}{vg bz cN:Value}{gs:List aE}{a b:List T}(aM:cP I vg gs)(bk:ed I bz a)(al:ed I cN b)(zk:∀t∈a,b9 gs t)(J7:∀t∈b,b9 gs t):
 aS Tryz.prog 268 [vg,bz,cN] I [] (fun v _ δ'=>v=.bool (sA gs a b)∧δ'= []):=by
 obtain⟨cQ,gc,rfl⟩:=aM.shape;obtain⟨rE,ac,rfl⟩:=bk.shape;have cE:(b.all fun u=>a.any fun t=>decide (eL gs t u=1))= !(b.any fun u=> !(a.any fun t=>decide (eL gs t u=1))):=by rw[List.not_any_eq_all_not];simp
 refine a1 func268 ntmps268 fun aG=> ?_;refine go2 ?_;refine bw fun b3=> ?_;refine bw fun b4=> ?_;refine aZ ?_;refine bh fun dp=> ?_;refine aP ?_;by_cases oA:0<a.length;refine a8 ?_;refine cZ ?_;refine hr rfl (Dk (p:=fun u=> !(a.any fun t=>decide (eL gs t u=1))) al (fun J x u cj af hu=>cR.fq (caps:= [_]) ajo (al0 (aM.mono cj) (bk.mono cj) af zk (J7 u hu)))) ?_;rintro wB mR _ sx ⟨rfl,rfl⟩;rw[List.append_nil];refine aZ ?_;refine bn ?_;exact⟨by simp only[dF,sA,cE,oA,decide_true,Bool.true_and],rfl⟩;refine bA ?_;refine bn ?_;exact⟨by simp[dF,sA,oA],rfl⟩
theorem al1{I:aa}{n:Nat}(aD:n≤4000000000000):
 aS Tryz.prog 278 [.slice none 0 0,.int .i64 n] I [] (fun v _ δ'=>∃A c,v=.slice A 0 c∧δ'= [oG A c 0 []]):=by
 refine a1 func278 ntmps278 fun aG=> ?_;refine br ?_;refine aI (l2 rfl rfl rfl ah) ?_;refine b_ ?_;refine aI (Nr underlying37 rfl) ?_;refine go2 ?_;refine aI (gG rfl rfl rfl ah) ?_;refine aI (gG (c:=(n:Int)) rfl rfl ah ⟨by omega,by omega⟩) ?_;refine aZ ?_;by_cases jh:0<n;refine aP ?_;refine aI (Nr underlying37 rfl) ?_;refine aI (m7 (h:=0) underlying37 oq rfl rfl ah) ?_;refine aX ?_;refine agh underlying37 underlying3 NM (by rfl) rfl rfl rfl jh ah ah ah ah (fun ayp J8 al2=> ?_);refine go2 ?_;refine aI (m7 (h:=0) underlying37 oq rfl rfl ah) ?_;refine b_ ?_;refine dY ?_;exact⟨_,_,rfl,rfl⟩;refine cT ?_;refine bf.view (View.gh 41 2) (dv (rs:= [.tmp 4]) rfl (List.Perm.refl _) (.cons (.tmp rfl) .nil) (List.Sublist.refl _) ⟨none,0,rfl,rfl⟩)
theorem al3{I:aa}{ad:Option Addr}{c:Nat}{bz cN:Value}{a b:List T}(ep:Cells I ad [bz,cN])(bk:ed I bz a)(al:ed I cN b)(zh:a.length≤1000000)(oH:b.length≤1000000):
 aS Tryz.prog 266 [.slice ad 2 c] I [] (fun v ai δ'=>ed ai v (a++b)∧δ'= []):=by
 have has:ad.isSome=true:=by
  have:=ep 0 bz rfl
  cases ad with
  |none=>simp[aa.nw]at this
  |some x=>rfl
 have hc:∀k,k<2→∃(A:Option Addr) (e:Nat) (L:List T) (xs:List Value),At I ad (k*1) [.slice A L.length e]∧Cells I A xs∧cF I xs L∧L.length≤1000000∧∀(l:List T),l=(if k=0 then[]else a)→l++L=(if k=0 then a else a++b):=by
  intro k hk;have key:∀(v:Value) (L:List T),ed I v L→L.length≤1000000→At I ad (k*1) [v]→(∀(l:List T),l=(if k=0 then[]else a)→l++L=(if k=0 then a else a++b))→∃(A:Option Addr) (e:Nat) (L:List T) (xs:List Value),At I ad (k*1) [.slice A L.length e]∧Cells I A xs∧cF I xs L∧L.length≤1000000∧∀(l:List T),l=(if k=0 then[]else a)→l++L=(if k=0 then a else a++b):=by intro v L ax aA aW aC;obtain⟨A,e,bj,L,aq,al,Bi,an,qG⟩:=ax;obtain⟨ab,ae⟩:=cF.of Bi (fun i aj=>ba.mk _ _ (an i aj) (qG i aj));exact⟨A,e,L,_,aW,ab,ae,aA,aC⟩
  have aW:∀(v:Value),[bz,cN][k]? =some v→At I ad (k*1) [v]:=fun v ax=>ep.at _ fun j u au=>by
   rcases j with _|j
   simp at au;subst au;rw[Nat.mul_one,Nat.add_zero];exact ax;simp at au
  rcases(show k=0∨k=1 by omega)with rfl|rfl
  exact key bz a bk zh (aW bz rfl) (fun l aA=>by simp at aA;subst aA;simp);exact key cN b al oH (aW cN rfl) (fun l aA=>by simp at aA;subst aA;simp)
 refine a1 func266 ntmps266 fun aG=> ?_;refine ic ?_;refine ek (fun m aL ai δ'=>∃k n:Nat,m=2-k∧k≤2∧aL= [(0,.slice ad 2 c),(3,.int .i64 n),(9,.slice ad 2 c),(10,.int .i64 2),(11,.int .i64 k)]∧I=ai∧δ'= []∧n≤k*1000000) 2 [(0,.slice ad 2 c),(3,.int .i64 (0:Nat)),(9,.slice ad 2 c),(10,.int .i64 2),(11,.int .i64 (0:Nat))] ⟨0,0,rfl,by omega,rfl,rfl,rfl,by omega⟩ ⟨rfl,rfl,rfl,rfl,rfl,trivial⟩ ?_;rintro m _ _ _ ⟨k,n,rfl,hk,rfl,rfl,rfl,aD⟩;refine aZ ?_;refine bF rfl (fun aV=> ?_) (fun aV=> ?_);have av:k<2:=by have h:=aV;simp at h;omega
 obtain⟨A,e,L,xs,aW,y9,e9,rF,_⟩:=hc k av;refine aP ?_;refine aI (cC (aW)) ?_;refine gk ?_;refine aI (l2 rfl rfl rfl ah) ?_;refine b_ ?_;refine cV (2-(k+1)) [(0,.slice ad 2 c),(3,.int .i64 ((n:Int)+(L.length:Int))),(9,.slice ad 2 c),(10,.int .i64 2),(11,.int .i64 (k+1:Nat))] ah ⟨k+1,n+L.length,rfl,av,by rw[show((n+L.length:Nat):Int)=(n:Int)+(L.length:Int)from Int.natCast_add _ _],rfl,rfl,by omega⟩ ⟨rfl,rfl,rfl,rfl,rfl,trivial⟩;refine bg ?_;refine bN rfl (al1 (n:=n) ah) ?_;rintro oE mQ _ lL ⟨Xo,wK,rfl,rfl⟩;refine bW ?_;refine ek (fun m aL ai δ'=>∃(k:Nat) (A:Option Addr) (e:Nat) (L:List T) (xs:List Value),m=2-k∧k≤2∧aL= [(6,.slice A L.length e),(25,.slice ad 2 c),(26,.int .i64 2),(27,.int .i64 k)]∧I.le ai∧δ'= [oG A e L.length xs]∧cF ai xs L∧L=(if k=0 then[]else if k=1 then a else a++b)∧L.length≤k*1000000) 2 [(6,.slice Xo 0 wK),(25,.slice ad 2 c),(26,.int .i64 2),(27,.int .i64 (0:Nat))] ⟨0,Xo,wK,[],[],rfl,by omega,rfl,lL,rfl,cF.nil _,rfl,by simp⟩ ⟨rfl,rfl,rfl,rfl,trivial⟩ ?_;rintro m _ I0 _ ⟨k,A,e,L,xs,rfl,hk,rfl,bO,rfl,af,eu,rF⟩;refine aZ ?_;refine bF rfl (fun c4=> ?_) (fun c4=> ?_);have av:k<2:=by have h:=c4;simp at h;omega
 obtain⟨iY,aT,J9,iX,aW,y9,e9,ayq,aC⟩:=hc k av;have al4:L=(if k=0 then[]else a):=by rw[eu];rcases(show k=0∨k=1 by omega)with rfl|rfl<;>simp
 have fL:=aC L al4;refine aP ?_;refine aI (cC (aW.mono bO)) ?_;refine aZ ?_;refine mL rfl rfl (Src.m8 (y9.mono bO)) e9.1 e9.kd (fun J_ Ga=> ?_);have Bj:L.length+J9.length=(L++J9).length:=by simp
 refine bg ?_;refine cV (2-(k+1)) [(6,.slice J_ (L.length+J9.length) Ga),(25,.slice ad 2 c),(26,.int .i64 2),(27,.int .i64 (k+1:Nat))] ah ⟨k+1,J_,Ga,L++J9,xs++iX,rfl,av,by rw[Bj],aa.ag,by simp only[oG,←Bj],af.app (e9.mono bO),by rw[fL];rcases(show k=0∨k=1 by omega)with rfl|rfl<;>simp,by rw[←Bj];omega⟩ ⟨rfl,rfl,rfl,rfl,trivial⟩;refine aP ?_;refine aK.dO aO.here ?_;rintro A3 al5 FF sq mc eV iT OX;cases mc;have hk2:¬k<2:=by have h:=c4;simp at h;omega
 have al6:L=a++b:=by rw[eu];rw[show k=2 by omega];rfl
 refine a_ ?_;refine bn ?_;exact⟨by rw[←al6];exact cF.tC rfl OX (af.mono sq) eV ah,rfl⟩
theorem al7{I:aa}{vg bz cN:Value}{gs:List aE}{a b:List T}(aM:cP I vg gs)(bk:ed I bz a)(al:ed I cN b)(sF:∀t∈a,t.size≤1000000000)(kb:∀t∈b,t.size≤1000000000)(zh:a.length≤1000000)(oH:b.length≤1000000):
 aS Tryz.prog 252 [vg,bz,cN] I [] (fun v _ δ'=>v=.tuple #[.int .i64 (if lb gs (a++b)=0 then lM gs a b else 0),.int .i64 (lb gs (a++b))]∧δ'= []):=by
 obtain⟨rE,ac,rfl⟩:=bk.shape;obtain⟨dU,ke,rfl⟩:=al.shape;have fi:=JY a b;have fw:=JY b a;refine a1 func252 ntmps252 fun aG=> ?_;refine bW ?_;refine c_ fun oI=> ?_;refine aK.dO aO.here ?_;rintro pL al8 al9 rG aC al_ ama OY;cases aC;refine bN rfl (al3 OY (bk.mono rG) (al.mono rG) zh oH) ?_;rintro wB mR _ sx ⟨amb,rfl⟩;refine bN rfl (Xe (aM.mono aa.ag) amb (fun t ar=>by rcases List.mem_append.1 ar with h|h;exact sF t h;exact kb t h)) ?_;rintro mO jK _ jf ⟨rfl,rfl⟩;refine aZ ?_;by_cases qH:lb gs (a++b)≠0;refine cT ?_;refine bn ?_;exact⟨by rw[if_neg qH];rfl,rfl⟩;have aB:lb gs (a++b)=0:=by omega
 have cE:=Bg.1 aB;have zk:∀t∈a,b9 gs t:=fun t ar=>cE t (List.mem_append_left _ ar);have J7:∀t∈b,b9 gs t:=fun t ar=>cE t (List.mem_append_right _ ar);refine b_ ?_;refine bN rfl (Xm (bk.mono aa.ag) (al.mono aa.ag) sF kb zh oH) ?_;rintro v22 nm _ rH ⟨Dl,rfl⟩;obtain⟨fW,eK,rfl⟩:=Dl.shape;refine go2 ?_;refine bN rfl (Xm (al.mono aa.ag) (bk.mono aa.ag) kb sF oH zh) ?_;rintro v25 tz _ k7 ⟨Dm,rfl⟩;obtain⟨e3,ff,rfl⟩:=Dm.shape;refine cT ?_;by_cases hJ:(gW a b).length+(gW b a).length=0;refine dn ?_;refine bn ?_;exact⟨by rw[if_pos aB,aB];simp only[dF,lM];rw[if_pos hJ],rfl⟩;refine b_ ?_;refine bN rfl (Xn (aM.mono aa.ag) (Dl.mono aa.ag) (Dm.mono aa.ag) (fun t ar=>zk t (JX ar)) (fun t ar=>J7 t (JX ar))) ?_;rintro Bk Bl _ Bm ⟨rfl,rfl⟩;refine aR ?_;refine bF rfl (fun c4=> ?_) (fun c4=> ?_);have nn:sA gs (gW a b) (gW b a)=true:=c4;refine br ?_;refine bn ?_;exact⟨by rw[if_pos aB,aB];simp only[dF,lM];rw[if_neg hJ,if_pos nn],rfl⟩;have nn:¬sA gs (gW a b) (gW b a)=true:=by rw[c4];simp
 refine a_ ?_;refine bN rfl (Xn (aM.mono aa.ag) (Dm.mono aa.ag) (Dl.mono aa.ag) (fun t ar=>J7 t (JX ar)) (fun t ar=>zk t (JX ar))) ?_;rintro Ka Kb _ Gd ⟨rfl,rfl⟩;refine aR ?_;refine bF rfl (fun fV=> ?_) (fun fV=> ?_);have tL:sA gs (gW b a) (gW a b)=true:=fV;refine br ?_;refine bn ?_;exact⟨by rw[if_pos aB,aB];simp only[dF,lM];rw[if_neg hJ,if_neg nn,if_pos tL],rfl⟩;have tL:¬sA gs (gW b a) (gW a b)=true:=by rw[fV];simp
 refine b_ ?_;refine bn ?_;exact⟨by rw[if_pos aB,aB];simp only[dF,lM];rw[if_neg hJ,if_neg nn,if_neg tL],rfl⟩
end
structure kH (n:Nat) (α:Type) where
  R:aa→α→List Value→Prop
  len:∀{I:aa} {a:α} {vs:List Value},R I a vs→vs.length=n
  one:∀{I:aa} {a:α} {vs:List Value},R I a vs→∀u∈vs,u.oneCell'=true
  mono:∀{I J:aa} {a:α} {vs:List Value},I.le J→R I a vs→R J a vs
section
variable {n:Nat} {α:Type} {E:kH n α} {I J:aa}
def bd(E:kH n α)(I:aa):List Value→List α→Prop
  |xs,[]=>xs= []
  |xs,a::ca=>∃vs ys,xs=vs++ys∧E.R I a vs∧bd E I ys ca
theorem bd.nil:bd E I [] []:=rfl
theorem bd.length:∀{ca:List α} {xs:List Value},bd E I xs ca→xs.length=ca.length*n
  | [],xs,h=>by have:xs= []:=h;simp[this]
  |a::ca,xs,h=>by obtain⟨vs,ys,rfl,ab,ae⟩:=h;have:=E.len ab;have:=bd.length ae;rw[List.length_append,List.length_cons,Nat.succ_mul];omega
theorem bd.kd:∀{ca:List α} {xs:List Value},bd E I xs ca→∀u∈xs,u.oneCell'=true
  | [],xs,h=>by have:xs= []:=h;simp[this]
  |a::ca,xs,h=>by
   obtain⟨vs,ys,rfl,ab,ae⟩:=h;intro u hu;rcases List.mem_append.1 hu with q|q
   exact E.one ab u q;exact bd.kd ae u q
theorem bd.mono:∀{ca:List α} {xs:List Value},bd E I xs ca→I.le J→bd E J xs ca
  | [],xs,h,_=>h
  |a::ca,xs,h,aA=>by obtain⟨vs,ys,rfl,ab,ae⟩:=h;exact⟨vs,ys,rfl,E.mono aA ab,bd.mono ae aA⟩
theorem bd.app:∀{ca bs:List α} {xs ys:List Value},bd E I xs ca→bd E I ys bs→bd E I (xs++ys) (ca++bs)
  | [],bs,xs,ys,h,k=>by have:xs= []:=h;subst this;exact k
  |a::ca,bs,xs,ys,h,k=>by obtain⟨vs,zs,rfl,ab,ae⟩:=h;exact⟨vs,zs++ys,by simp,ab,bd.app ae k⟩
theorem bd.single{a:α}{vs:List Value}(h:E.R I a vs):bd E I vs [a]:=⟨vs,[],by simp,h,rfl⟩
theorem bd.split:∀{ca:List α} {xs:List Value} {i:Nat},bd E I xs ca→(aj:i<ca.length)→∃pre vs fR,xs=pre++(vs++fR)∧pre.length=i*n∧bd E I pre (ca.take i)∧E.R I ca[i] vs∧bd E I fR (ca.drop (i+1))
  | [],xs,i,h,aj=>by simp at aj
  |a::ca,xs,0,h,aj=>by obtain⟨vs,ys,rfl,ab,ae⟩:=h;exact⟨[],vs,ys,rfl,by simp,rfl,ab,ae⟩
  |a::ca,xs,i+1,h,aj=>by obtain⟨vs,ys,rfl,ab,ae⟩:=h;obtain⟨pre,ws,fR,rfl,aA,c8,b6,hs⟩:=bd.split (i:=i) ae (by simpa using aj);refine⟨vs++pre,ws,fR,by simp,?_,⟨vs,pre,rfl,ab,c8⟩,b6,hs⟩;rw[List.length_append,E.len ab,aA,Nat.succ_mul];omega
theorem bd.at{ca:List α}{xs:List Value}{i:Nat}(h:bd E I xs ca)(aj:i<ca.length):∃vs,E.R I ca[i] vs∧(∀j v,vs[j]? =some v→xs[i*n+j]? =some v)∧∃r,xs.drop (i*n)=vs++r:=by
 obtain⟨pre,vs,fR,rfl,aA,_,ae,_⟩:=h.split aj;refine⟨vs,ae,fun j v au=> ?_,fR,by rw[←aA,List.drop_left]⟩;have av:=(List.getElem?_eq_some_iff.1 au).1;rw[List.getElem?_append_right ah,←aA,Nat.add_sub_cancel_left,List.getElem?_append_left av];exact au
theorem bd.fj{ca:List α}{xs:List Value}{ad:Option Addr}{i:Nat}(h:bd E I xs ca)(aq:Cells J ad xs)(aj:i<ca.length):∃vs,E.R I ca[i] vs∧At J ad (i*n) vs:=by
 obtain⟨vs,ab,ae,_⟩:=h.at aj;exact⟨vs,ab,aq.at _ ae⟩
theorem bd.take{ca:List α}{xs:List Value}(h:bd E I xs ca)(k:Nat)(hk:k≤ca.length):bd E I (xs.take (k*n)) (ca.take k):=by
 rcases Nat.lt_or_ge k ca.length with q|q
 obtain⟨pre,vs,fR,rfl,aA,ab,_,_⟩:=h.split q;rw[←aA,List.take_left];exact ab;have af:=h.length;rw[List.take_of_length_le (by rw[af];exact Nat.mul_le_mul_right _ q),List.take_of_length_le q];exact h
theorem bd.drop:∀{ca:List α} {xs:List Value} (k:Nat),bd E I xs ca→k≤ca.length→bd E I (xs.drop (k*n)) (ca.drop k)
  |ca,xs,0,h,_=>by simpa using h
  | [],xs,k+1,h,hk=>by simp at hk
  |a::ca,xs,k+1,h,hk=>by
   obtain⟨vs,ys,rfl,ab,ae⟩:=h;have:=bd.drop k ae (by simpa using hk);have e:(vs++ys).drop ((k+1)*n)=ys.drop (k*n):=by rw[Nat.succ_mul,Nat.add_comm,←E.len ab,←List.drop_drop,List.drop_left]
   rw[e];exact this
end
theorem Xp:∀(pre vs fR us ws:List Value) (k:Nat),Lg.cS vs k us=some ws→Lg.cS (pre++(vs++fR)) (pre.length+k) us=some (pre++(ws++fR))
  |p::pre,vs,fR,us,ws,k,h=>by
   have aY:=Xp pre vs fR us ws k h;show Lg.cS (p::(pre++(vs++fR))) (pre.length+1+k) us=_;rw[show pre.length+1+k=pre.length+k+1 by omega]
   cases us with
   |nil=>
     have aQ:Lg.cS (p::(pre++(vs++fR))) (pre.length+k+1) []=some (p::(pre++(vs++fR))):=by simp[Lg.cS]
     have aT:Lg.cS (pre++(vs++fR)) (pre.length+k) []=some (pre++(vs++fR)):=by simp[Lg.cS]
     rw[aT]at aY
     rw[aQ]
     simp only[Option.some.injEq]at aY
     rw[List.cons_append,←aY]
   |cons u us=>simp only[Lg.cS,aY,Option.map_some,List.cons_append]
  | [],vs,fR,us,ws,k,h=>by
   simp only[List.nil_append,List.length_nil,Nat.zero_add]
   induction vs generalizing us ws k with
   |nil=>
    cases us with
    |nil=>simp[Lg.cS]at h;subst h;simp[Lg.cS]
    |cons u us=>simp[Lg.cS]at h
   |cons v vs aY=>
    cases us with
    |nil=>simp[Lg.cS]at h;subst h;simp[Lg.cS]
    |cons u us=>
     cases k with
     |zero=>simp only[Lg.cS,Option.map_eq_some_iff]at h;obtain⟨q,aC,rfl⟩:=h;simp only[List.cons_append,Lg.cS,aY _ _ _ aC,Option.map_some]
     |succ k=>simp only[Lg.cS,Option.map_eq_some_iff]at h;obtain⟨q,aC,rfl⟩:=h;simp only[List.cons_append,Lg.cS,aY _ _ _ aC,Option.map_some]
section
variable {n:Nat} {α:Type} {E:kH n α} {I J:aa}
theorem bd.store{ca:List α}{xs:List Value}{i:Nat}{b:α}(h:bd E I xs ca)(aj:i<ca.length):∃vs,E.R I ca[i] vs∧(∃r,xs.drop (i*n)=vs++r)∧∀k us ws,Lg.cS vs k us=some ws→E.R I b ws→∃ys,Lg.cS xs (i*n+k) us=some ys∧bd E I ys (ca.set i b):=by
 obtain⟨pre,vs,fR,rfl,aA,ab,ae,aF⟩:=h.split aj;refine⟨vs,ae,⟨fR,by rw[←aA,List.drop_left]⟩,fun k us ws ao al=>⟨pre++(ws++fR),by rw[←aA];exact Xp _ _ _ _ _ _ ao,?_⟩⟩;have e:ca.set i b=ca.take i++(b::ca.drop (i+1)):=by rw[List.set_eq_take_append_cons_drop];simp[aj]
 rw[e];exact ab.app ⟨ws,fR,rfl,al,aF⟩
def dK(E:kH n α)(I:aa)(v:Value)(ca:List α):Prop:=∃(ad:Option Addr) (c:Nat) (xs:List Value),v=.slice ad ca.length c∧ca.length≤c∧ca.length≤1954687338211∧Cells I ad xs∧bd E I xs ca
theorem dK.mono{v:Value}{ca:List α}(h:dK E I v ca)(aA:I.le J):dK E J v ca:=by
 obtain⟨ad,c,xs,rfl,ab,ae,aF,bb⟩:=h;exact⟨ad,c,xs,rfl,ab,ae,aF.mono aA,bb.mono aA⟩
theorem dK.nil:dK E I (.slice none 0 0) []:=⟨none,0,[],rfl,Nat.le_refl _,by simp,fun j v au=>by simp at au,rfl⟩
theorem dK.small{v:Value}{ca:List α}(h:dK E I v ca):ca.length≤1954687338211:=by obtain⟨_,_,_,_,_,ae,_⟩:=h;exact ae
end
theorem Lg.Cells.take{I:aa}{A:Option Addr}{vs:List Value}(h:Cells I A vs)(n:Nat):Cells I A (vs.take n):=fun j v au=>h j v (by rw[List.getElem?_take]at au;by_cases q:j<n;rwa[if_pos q]at au;rw[if_neg q]at au;cases au)
theorem Lg.Cells.cut{I:aa}{A:Option Addr}{c m size:Nat}{vs:List Value}(h:Cells I A vs)(aA:vs.length≤c*size):Cells I (cutAt A c m size) (vs.drop (m*size)):=fun j v au=>by
 rw[List.getElem?_drop]at au;unfold cutAt;by_cases e:c=m;exfalso;have:=(List.getElem?_eq_some_iff.1 au).1;subst e;omega;rw[if_neg e];have:=h _ _ au
 cases A with
 |none=>simp[aa.nw]at this
 |some a=>simpa[add_add]using this
section
variable {n:Nat} {α:Type} {E:kH n α} {I J:aa}
theorem dK.amc{ad:Option Addr}{c k:Nat}{xs:List Value}{ca:List α}(hle:ca.length≤c)(al:ca.length≤1954687338211)(aq:Cells I ad xs)(an:bd E I xs ca)(hk:k≤ca.length):dK E I (.slice ad k c) (ca.take k):=
  ⟨ad,c,xs.take (k*n),by rw[List.length_take,Nat.min_eq_left hk],by rw[List.length_take];omega,by rw[List.length_take];omega,aq.take _,an.take k hk⟩
theorem dK.amd{ad:Option Addr}{c k:Nat}{xs:List Value}{ca:List α}(hle:ca.length≤c)(al:ca.length≤1954687338211)(aq:Cells I ad xs)(an:bd E I xs ca)(hk:k≤ca.length):dK E I (.slice (cutAt ad c k n) (ca.length-k) (c-k)) (ca.drop k):=
  ⟨cutAt ad c k n,c-k,xs.drop (k*n),by rw[List.length_drop],by rw[List.length_drop];omega,by rw[List.length_drop];omega,aq.cut (by rw[an.length];exact Nat.mul_le_mul_right _ hle),an.drop k hk⟩
end
theorem dK.shape{n:Nat}{α:Type}{E:kH n α}{I:aa}{v:Value}{ca:List α}(h:dK E I v ca):∃ad c,v=.slice ad ca.length c:=by obtain⟨ad,c,_,h,_⟩:=h;exact⟨ad,c,h⟩
structure ak where
  neg:Bool
  l:T
  r:T
abbrev hv(x:ak)(la:Option Addr)(lc:Nat)(ra:Option Addr)(rc:Nat):List Value:= [.bool x.neg,.int .i64 x.l.head,.slice la x.l.args.length lc,.int .i64 x.r.head,.slice ra x.r.args.length rc]
def mm(I:aa)(v:Value)(x:ak):Prop:=∃(la:Option Addr) (lc:Nat) (ra:Option Addr) (rc:Nat),v=.agg #[.bool x.neg,.int .i64 x.l.head,.slice la x.l.args.length lc,.int .i64 x.r.head,.slice ra x.r.args.length rc]∧ba I (.agg #[.int .i64 x.l.head,.slice la x.l.args.length lc]) x.l∧ba I (.agg #[.int .i64 x.r.head,.slice ra x.r.args.length rc]) x.r
theorem mm.mono{I J:aa}{v:Value}{x:ak}(h:mm I v x)(aA:I.le J):mm J v x:=by
 obtain⟨la,lc,ra,rc,ab,ae,aF⟩:=h;exact⟨la,lc,ra,rc,ab,ae.mono aA,aF.mono aA⟩
def ck:ak:=⟨false,jd,jd⟩
def tM(x y:ak):Bool:=(decide (x.l=y.l)&&decide (x.r=y.r))||(decide (x.l=y.r)&&decide (x.r=y.l))
def jO(x y:ak):Bool:=(x.neg==y.neg)&&tM x y
def sG(x y:ak):Bool:=(!(x.neg==y.neg))&&tM x y
def gM(x:ak):List T:=if x.neg=true then[x.l,x.l,x.r,x.r]else[x.l,x.r]
instance:DecidableEq ak:=fun a b=>if h:a.neg=b.neg∧a.l=b.l∧a.r=b.r then .isTrue (by obtain⟨ab,ae,aF⟩:=h;cases a;cases b;simp_all)else .isFalse fun e=>h (by subst e;exact⟨rfl,rfl,rfl⟩)
def fG:kH 5 ak where
  R:=fun I x vs=>∃(la:Option Addr) (lc:Nat) (ra:Option Addr) (rc:Nat),vs=hv x la lc ra rc∧ba I (.agg #[.int .i64 x.l.head,.slice la x.l.args.length lc]) x.l∧ba I (.agg #[.int .i64 x.r.head,.slice ra x.r.args.length rc]) x.r
  len:=by rintro I a vs ⟨la,lc,ra,rc,rfl,_,_⟩;rfl
  one:=by rintro I a vs ⟨la,lc,ra,rc,rfl,_,_⟩ u hu;simp only[List.mem_cons,List.not_mem_nil,or_false]at hu;rcases hu with rfl|rfl|rfl|rfl|rfl<;>rfl
  mono:=by rintro I J a vs aA ⟨la,lc,ra,rc,rfl,ab,ae⟩;exact⟨la,lc,ra,rc,rfl,ab.mono aA,ae.mono aA⟩
abbrev cf(I:aa)(v:Value)(c:List ak):Prop:=dK fG I v c
theorem zl{I:aa}{vs:List Value}{x:ak}(h:fG.R I x vs):mm I (.agg vs.toArray) x:=by
 obtain⟨la,lc,ra,rc,rfl,ab,ae⟩:=h;exact⟨la,lc,ra,rc,rfl,ab,ae⟩
def bE(c:List ak):List T:=c.flatMap fun x=> [x.l,x.r]
def sH:kH 2 T where
  R:=fun I t vs=>∃(a:Option Addr) (c:Nat),vs= [.int .i64 t.head,.slice a t.args.length c]∧ba I (.agg #[.int .i64 t.head,.slice a t.args.length c]) t
  len:=by rintro I a vs ⟨la,lc,rfl,_⟩;rfl
  one:=by rintro I a vs ⟨la,lc,rfl,_⟩ u hu;simp only[List.mem_cons,List.not_mem_nil,or_false]at hu;rcases hu with rfl|rfl<;>rfl
  mono:=by rintro I J a vs aA ⟨la,lc,rfl,ab⟩;exact⟨la,lc,rfl,ab.mono aA⟩
theorem Bn{I:aa}{v:Value}{t:T}(h:ba I v t):dZ t.head:=by obtain⟨s,t,an,_⟩:=h;exact an
theorem bd.OZ{I:aa}{xs:List Value}{ts:List T}(h:bd sH I xs ts):cF I xs ts:=by
 refine⟨h.length,fun i aj=> ?_⟩;obtain⟨vs,⟨a,c,rfl,an⟩,aW,_⟩:=h.at aj;exact⟨(a,c),aW 0 _ rfl,aW 1 _ rfl,an⟩
theorem bd.tC{I:aa}{ad:Option Addr}{c:Nat}{xs:List Value}{ts:List T}(h:bd sH I xs ts)(aq:Cells I ad xs)(hle:ts.length≤c)(al:ts.length≤4398046511104):ed I (.slice ad ts.length c) ts:=by
 have:=cF.rep (h:=0) aq h.OZ (by unfold dZ;omega) hle al
 have key:∀(v:Value) (t:T) (s:Value),ba I v t→v=.agg #[.int .i64 t.head,s]→ed I s t.args:=fun v t s ax e=>by
  obtain⟨s',t,an,ao⟩:=ax;have jc:s'=s:=by simpa using e
  subst jc;exact ao
 exact key _ _ _ this rfl
theorem Xq{I:aa}:∀(ts:List T) (bj:Nat→Option Addr×Nat),(∀i (h:i<ts.length),ba I (.agg #[.int .i64 ts[i].head,.slice (bj i).1 ts[i].args.length (bj i).2]) ts[i])→bd sH I (sm ts bj) ts
  | [],_,_=>rfl
  |t::ts,bj,h=>⟨[.int .i64 t.head,.slice (bj 0).1 t.args.length (bj 0).2],_,rfl,⟨_,_,rfl,h 0 (by simp)⟩,Xq ts (fun i=>bj (i+1)) fun i aj=>h (i+1) (by simpa using aj)⟩
theorem ed.zm{I:aa}{v:Value}{ts:List T}(h:ed I v ts):∃(A:Option Addr) (c:Nat) (xs:List Value),v=.slice A ts.length c∧ts.length≤c∧ts.length≤4398046511104∧Cells I A xs∧bd sH I xs ts:=by
 obtain⟨ad,c,bj,ts,aq,al,aW,an,qG⟩:=h;have bT:∀i (h:i<ts.length),ba I (.agg #[.int .i64 ts[i].head,.slice (bj i).1 ts[i].args.length (bj i).2]) ts[i]:=fun i aj=>ba.mk _ _ (an i aj) (qG i aj);exact⟨ad,c,sm ts bj,rfl,aq,al,(cF.of aW bT).1,Xq ts bj bT⟩
end Go.Proofs.YtciibkomnoicdaaGreat
