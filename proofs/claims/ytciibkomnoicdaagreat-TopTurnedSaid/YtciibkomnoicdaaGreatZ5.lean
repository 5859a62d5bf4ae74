/- Own texts: a small program logic, plain facts, walks through the program's functions. No condition. -/
import Derived.Test.YtciibkomnoicdaaGreatZ4
set_option maxRecDepth 10000
set_option maxHeartbeats 4000000
set_option linter.unusedVariables false
set_option linter.unusedSimpArgs false
set_option linter.unnecessarySimpa false
set_option linter.unusedSectionVars false
namespace Go.Proofs.YtciibkomnoicdaaGreat
open Go Lg Tryz
def dZ(n:Int):Prop:= -9223372036854775808≤n∧n≤9223372036854775807
inductive bY(I:aa):Value→List Int→Prop
  |mk (ad:Option Addr) (c:Nat) (xs:List Int) (aq:xs.length≤c) (al:xs.length≤17592186044416) (aW:Cells I ad (xs.map (Value.int .i64))) (an:∀x∈xs,dZ x):bY I (.slice ad xs.length c) xs
theorem bY.mono{I J:aa}{v:Value}{xs:List Int}(h:bY I v xs)(aA:I.le J):bY J v xs:=by
 obtain⟨ad,c,xs,aq,al,aW,an⟩:=h;exact⟨ad,c,xs,aq,al,aW.mono aA,an⟩
theorem bY.nil(I:aa):bY I (.slice none 0 0) []:=⟨none,0,[],Nat.le_refl _,by simp,fun j v au=>by simp at au,fun x af=>by cases af⟩
theorem ints_at{I:aa}{ad:Option Addr}{xs:List Int}(h:Cells I ad (xs.map (Value.int .i64)))(i:Nat)(aj:i<xs.length):At I ad (i*1) [.int .i64 xs[i]]:=
  h.at _ fun j v au=>by
   rcases j with _|j
   simp at au;subst au;simp[aj];simp at au
theorem C3{I:aa}{ad:Option Addr}{xs:List Int}(h:Cells I ad (xs.map (Value.int .i64)))(i:Nat)(aj:i<xs.length):ad.isSome=true:=(ints_at h i aj).isSome
inductive T where
  |mk (head:Int) (args:List T)
def T.head:T→Int|.mk h _=>h
def T.args:T→List T|.mk _ a=>a
inductive ed(I:aa):Value→List T→Prop
  | mk (ad:Option Addr) (c:Nat) (bj:Nat→Option Addr×Nat) (ts:List T) (aq:ts.length≤c) (al:ts.length≤4398046511104)
      (aW:∀i (h:i<ts.length),At I ad (i*2) [.int .i64 ts[i].head,.slice (bj i).1 ts[i].args.length (bj i).2]) (an:∀i (h:i<ts.length),dZ ts[i].head)
      (sub:∀i (h:i<ts.length),ed I (.slice (bj i).1 ts[i].args.length (bj i).2) ts[i].args):ed I (.slice ad ts.length c) ts
theorem ed.mono{I J:aa}{v:Value}{ts:List T}(h:ed I v ts)(aA:I.le J):ed J v ts:=by
 induction h with
 |mk ad c bj ts aq al aW an _ aY=>exact⟨ad,c,bj,ts,aq,al,fun i h=>(aW i h).mono aA,an,aY⟩
theorem ed.nil(I:aa):ed I (.slice none 0 0) []:=⟨none,0,fun _=>(none,0),[],Nat.le_refl _,by simp,fun i h=>by simp at h,fun i h=>by simp at h,fun i h=>by simp at h⟩
inductive ba(I:aa):Value→T→Prop
  |mk (s:Value) (t:T) (an:dZ t.head) (ao:ed I s t.args):ba I (.agg #[.int .i64 t.head,s]) t
theorem ba.mono{I J:aa}{v:Value}{t:T}(h:ba I v t)(aA:I.le J):ba J v t:=by
 obtain⟨s,t,an,ao⟩:=h;exact⟨s,t,an,ao.mono aA⟩
theorem ba.elim{I:aa}{v:Value}{h:Int}{ts:List T}(ax:ba I v (.mk h ts)):
 ∃(ad:Option Addr) (c:Nat) (bj:Nat→Option Addr×Nat),v=.agg #[.int .i64 h,.slice ad ts.length c]∧dZ h∧ts.length≤c∧ts.length≤4398046511104∧(∀i (h:i<ts.length),At I ad (i*2) [.int .i64 ts[i].head,.slice (bj i).1 ts[i].args.length (bj i).2])∧
 (∀i (h:i<ts.length),ba I (.agg #[.int .i64 ts[i].head,.slice (bj i).1 ts[i].args.length (bj i).2]) ts[i]):=by
 obtain⟨s,t,an,ao⟩:=ax;obtain⟨ad,c,bj,ts,aq,al,aW,e1,bT⟩:=ao;exact⟨ad,c,bj,rfl,an,aq,al,aW,fun i aj=>ba.mk _ _ (e1 i aj) (bT i aj)⟩
theorem ba.intro {I:aa} {h:Int} {ad:Option Addr} {c:Nat} {ts:List T} (bj:Nat→Option Addr×Nat) (an:dZ h) (aq:ts.length≤c) (al:ts.length≤4398046511104) (aW:∀i (h:i<ts.length),At I ad (i*2) [.int .i64 ts[i].head,.slice (bj i).1 ts[i].args.length (bj i).2])
 (bT:∀i (h:i<ts.length),ba I (.agg #[.int .i64 ts[i].head,.slice (bj i).1 ts[i].args.length (bj i).2]) ts[i]):ba I (.agg #[.int .i64 h,.slice ad ts.length c]) (.mk h ts):=by
 have key:∀(v:Value) (t:T) (s:Value),ba I v t→v=.agg #[.int .i64 t.head,s]→dZ t.head∧ed I s t.args:=fun v t s ax e=>by
  obtain⟨s',t,an,ao⟩:=ax;have jc:s'=s:=by simpa using e
  subst jc;exact⟨an,ao⟩
 exact ba.mk _ (.mk h ts) an ⟨ad,c,bj,ts,aq,al,aW,fun i aj=>(key _ _ _ (bT i aj) rfl).1,fun i aj=>(key _ _ _ (bT i aj) rfl).2⟩
def cF(I:aa)(xs:List Value)(ts:List T):Prop:=
  xs.length=ts.length*2∧∀i (h:i<ts.length),∃s:Option Addr×Nat,xs[i*2]? =some (.int .i64 ts[i].head)∧xs[i*2+1]? =some (.slice s.1 ts[i].args.length s.2)∧ba I (.agg #[.int .i64 ts[i].head,.slice s.1 ts[i].args.length s.2]) ts[i]
theorem cF.nil(I:aa):cF I [] []:=⟨rfl,fun i h=>by simp at h⟩
theorem cF.mono{I J:aa}{xs:List Value}{ts:List T}(h:cF I xs ts)(aA:I.le J):cF J xs ts:=
  ⟨h.1,fun i aj=>let⟨s,ab,ae,aF⟩:=h.2 i aj;⟨s,ab,ae,aF.mono aA⟩⟩
theorem cF.app{I:aa}{xs ys:List Value}{ts us:List T}(h:cF I xs ts)(k:cF I ys us):cF I (xs++ys) (ts++us):=by
 refine⟨by simp[h.1,k.1];omega,fun i aj=> ?_⟩;by_cases av:i<ts.length;obtain⟨s,ab,ae,aF⟩:=h.2 i av;have e:(ts++us)[i]=ts[i]:=List.getElem_append_left av;rw[e];exact⟨s,by rw[List.getElem?_append_left (by rw[h.1];omega)];exact ab,by rw[List.getElem?_append_left (by rw[h.1];omega)];exact ae,aF⟩;have gJ:i-ts.length<us.length:=by simp at aj;omega
 obtain⟨s,ab,ae,aF⟩:=k.2 (i-ts.length) gJ;have e:(ts++us)[i]=us[i-ts.length]:=List.getElem_append_right ah;rw[e];refine⟨s,?_,?_,aF⟩;rw[List.getElem?_append_right (by rw[h.1];omega),h.1,←ab];congr 1;omega;rw[List.getElem?_append_right (by rw[h.1];omega),h.1,←ae];congr 1;omega
theorem cF.one{I:aa}{t:T}{a:Option Addr}{c:Nat}(h:ba I (.agg #[.int .i64 t.head,.slice a t.args.length c]) t):cF I [.int .i64 t.head,.slice a t.args.length c] [t]:=
  ⟨rfl,fun i aj=>by
   have:i=0:=by simp at aj;omega
   subst this;exact⟨(a,c),rfl,rfl,h⟩⟩
theorem cF.rep{I:aa}{ad:Option Addr}{c:Nat}{xs:List Value}{ts:List T}{h:Int}(aq:Cells I ad xs)(an:cF I xs ts)(bK:dZ h)(hle:ts.length≤c)(al:ts.length≤4398046511104):ba I (.agg #[.int .i64 h,.slice ad ts.length c]) (.mk h ts):=by
 have hex:∃bj:Nat→Option Addr×Nat,∀i (h:i<ts.length),xs[i*2]? =some (.int .i64 ts[i].head)∧xs[i*2+1]? =some (.slice (bj i).1 ts[i].args.length (bj i).2)∧ba I (.agg #[.int .i64 ts[i].head,.slice (bj i).1 ts[i].args.length (bj i).2]) ts[i]:=by
  classical
  exact⟨fun i=>if h:i<ts.length then(an.2 i h).choose else(none,0),fun i aj=>by simp only[dif_pos aj];exact(an.2 i aj).choose_spec⟩
 obtain⟨bj,tq⟩:=hex;refine ba.intro bj bK hle al (fun i aj=>aq.at _ fun j v au=> ?_) (fun i aj=>(tq i aj).2.2);rcases j with _|_|j
 simp at au;subst au;exact(tq i aj).1;simp at au;subst au;exact(tq i aj).2.1;simp at au
def sm:List T→(Nat→Option Addr×Nat)→List Value
  | [],_=> []
  |t::ts,bj=>.int .i64 t.head:: .slice (bj 0).1 t.args.length (bj 0).2::sm ts fun i=>bj (i+1)
theorem wc:∀(ts:List T) (bj:Nat→Option Addr×Nat),(sm ts bj).length=ts.length*2
  | [],_=>rfl
  |t::ts,bj=>by simp[sm,wc ts];omega
theorem Fl:∀(ts:List T) (bj:Nat→Option Addr×Nat) (i:Nat) (h:i<ts.length),(sm ts bj)[i*2]? =some (.int .i64 ts[i].head)∧(sm ts bj)[i*2+1]? =some (.slice (bj i).1 ts[i].args.length (bj i).2)
  | [],_,i,h=>by simp at h
  |t::ts,bj,0,_=>⟨rfl,rfl⟩
  |t::ts,bj,i+1,h=>by
   have:=Fl ts (fun i=>bj (i+1)) i (by simpa using h);have aQ:(i+1)*2=i*2+1+1:=by omega
   simpa[sm,aQ]using this
theorem cF.of{I:aa}{ad:Option Addr}{bj:Nat→Option Addr×Nat}{ts:List T}(aW:∀i (h:i<ts.length),At I ad (i*2) [.int .i64 ts[i].head,.slice (bj i).1 ts[i].args.length (bj i).2])(bT:∀i (h:i<ts.length),ba I (.agg #[.int .i64 ts[i].head,.slice (bj i).1 ts[i].args.length (bj i).2]) ts[i]):
 Cells I ad (sm ts bj)∧cF I (sm ts bj) ts:=by
 refine⟨fun j v au=> ?_,wc ts bj,fun i aj=>⟨bj i,(Fl ts bj i aj).1,(Fl ts bj i aj).2,bT i aj⟩⟩;have av:j<ts.length*2:=by rw[←wc ts bj];exact(List.getElem?_eq_some_iff.1 au).1
 have aj:j/2<ts.length:=by omega
 have ab:=Fl ts bj (j/2) aj;have ae:=aW (j/2) aj;rcases Nat.mod_two_eq_zero_or_one j with e|e
 have xt:j/2*2=j:=by omega
 rw[xt]at ab;rw[ab.1]at au;have:=ae 0 v (by simpa using au);rwa[Nat.add_zero,xt]at this;have xt:j/2*2+1=j:=by omega
 rw[xt]at ab;rw[ab.2]at au;have:=ae 1 v (by simpa using au);rwa[xt]at this
theorem yY:∀(ts:List T) (bj:Nat→Option Addr×Nat),∀u∈sm ts bj,u.oneCell'=true
  | [],_,u,hu=>by simp[sm]at hu
  |t::ts,bj,u,hu=>by
   simp only[sm,List.mem_cons]at hu;rcases hu with rfl|rfl|hu
   rfl;rfl;exact yY ts _ u hu
theorem ba.open{I:aa}{h:Int}{ad:Option Addr}{n c:Nat}{t:T}(ax:ba I (.agg #[.int .i64 h,.slice ad n c]) t):
 h=t.head∧n=t.args.length∧dZ t.head∧t.args.length≤c∧t.args.length≤4398046511104∧∃bj:Nat→Option Addr×Nat,(∀i (h:i<t.args.length),At I ad (i*2) [.int .i64 t.args[i].head,.slice (bj i).1 t.args[i].args.length (bj i).2])∧
 (∀i (h:i<t.args.length),ba I (.agg #[.int .i64 t.args[i].head,.slice (bj i).1 t.args[i].args.length (bj i).2]) t.args[i]):=by
 obtain⟨et,ts⟩:=t;obtain⟨qn,cJ,bj,he,an,aq,al,aW,bT⟩:=ax.elim;simp at he;obtain⟨rfl,rfl,rfl,rfl⟩:=he;exact⟨rfl,rfl,an,aq,al,bj,aW,bT⟩
theorem ba.shape{I:aa}{v:Value}{t:T}(h:ba I v t):∃ad c,v=.agg #[.int .i64 t.head,.slice ad t.args.length c]∧dZ t.head:=by
 obtain⟨s,t,an,ao⟩:=h;obtain⟨ad,c,bj,ts,aq,al,aW,e1,bT⟩:=ao;exact⟨ad,c,rfl,an⟩
theorem ba.args{I:aa}{s:Value}{t:T}{h:Int}(ax:ba I (.agg #[.int .i64 h,s]) t):ed I s t.args:=by
 generalize e:Value.agg #[.int .i64 h,s]=v at ax;obtain⟨s',t,an,ao⟩:=ax;have jc:h=t.head∧s=s':=by simpa using e
 rw[jc.2];exact ao
def jd:T:=.mk 0 []
theorem sn(I:aa):ba I (.agg #[.int .i64 0,.slice none 0 0]) jd:=ba.mk _ (.mk 0 []) (by unfold dZ;simp[T.head]) (ed.nil I)
theorem ajK{p:Prop}[Decidable p](h:p):dF [.bool true]=.bool (decide p):=by simp[dF,h]
theorem Ve{p:Prop}[Decidable p](h:¬p):dF [.bool false]=.bool (decide p):=by simp[dF,h]
theorem xu{a b:Bool}(h:a=b):dF [.bool a]=.bool b:=by simp[dF,h]
mutual
def T.size:T→Nat
  |.mk _ e7=>1+bG e7
def bG:List T→Nat
  | []=>0
  |t::r=>t.size+bG r
end
theorem T.size_pos(t:T):1≤t.size:=by cases t;simp[T.size]
theorem ajL(e7:List T)(k:Nat)(h:k<e7.length):bG (e7.drop k)=e7[k].size+bG (e7.drop (k+1)):=by
 rw[List.drop_eq_getElem_cons h];simp[bG]
theorem pt:∀(e7:List T) (k:Nat) (h:k<e7.length),e7[k].size≤bG e7
  |t::r,0,_=>by simp[bG]
  |t::r,k+1,h=>by have:=pt r k (by simpa using h);simp[bG];omega
theorem xv:∀(e7:List T),e7.length≤bG e7
  | []=>by simp[bG]
  |t::r=>by have:=xv r;have:=t.size_pos;simp[bG];omega
def k3(a b:Int):Int:=if a<b then-1 else if a>b then 1 else 0
mutual
def l_:T→T→Int
  |.mk h e7,.mk g bs=>
    if 1+bG e7≠1+bG bs then k3 (1+bG e7:Nat) (1+bG bs:Nat)
    else if h≠g then k3 h g
    else if e7.length≠bs.length then k3 e7.length bs.length
    else nG e7 bs
def nG:List T→List T→Int
  |a::e7,b::bs=>if l_ a b≠0 then l_ a b else nG e7 bs
  |_,_=>0
end
theorem Jg(a b:Int):-1≤k3 a b∧k3 a b≤1:=by
 unfold k3;split;omega;split<;>omega
mutual
theorem Vf:∀(a b:T),-1≤l_ a b∧l_ a b≤1
  |.mk h e7,.mk g bs=>by unfold l_;split;exact Jg _ _;split;exact Jg _ _;split;exact Jg _ _;exact Vg e7 bs
theorem Vg:∀(a b:List T),-1≤nG a b∧nG a b≤1
  | [],_=>by simp[nG]
  |_::_,[]=>by simp[nG]
  |a::e7,b::bs=>by unfold nG;split;exact Vf a b;exact Vg e7 bs
end
theorem NR{a b:Int}(h:k3 a b=0):a=b:=by
 unfold k3 at h;split at h;omega;split at h<;>omega
mutual
theorem Vh:∀(a b:T),l_ a b=0→a=b
  |.mk h e7,.mk g bs,e=>by
   unfold l_ at e;split at e;have:=NR e;omega;split at e;exact absurd (NR e) (by assumption);split at e;have:=NR e;omega;rename_i ab ae aF;have NS:h=g:=by omega
   have Jh:e7.length=bs.length:=by omega
   rw[NS,Vi e7 bs Jh e]
theorem Vi:∀(a b:List T),a.length=b.length→nG a b=0→a=b
  | [],[],_,_=>rfl
  | [],_::_,h,_=>by simp at h
  |_::_,[],h,_=>by simp at h
  |a::e7,b::bs,h,e=>by
   unfold nG at e;split at e;rename_i cu;exact absurd e cu;rename_i aB;have NT:l_ a b=0:=by omega
   rw[Vh a b NT,Vi e7 bs (by simpa using h) e]
end
mutual
theorem Vj:∀(a:T),l_ a a=0
  |.mk h e7=>by simp[l_,Vk e7]
theorem Vk:∀(a:List T),nG a a=0
  | []=>by simp[nG]
  |a::e7=>by simp[nG,Vj a,Vk e7]
end
theorem NU(a b:T):l_ a b=0↔a=b:=⟨Vh a b,fun h=>by subst h;exact Vj a⟩
def cO:T→List Int→Option T
  |t,[]=>some t
  |t,x::r=>if h:0≤x∧x.toNat<t.args.length then cO (t.args[x.toNat]'h.2) r else none
instance:DecidableEq T:=fun a b=>if h:l_ a b=0 then .isTrue ((NU a b).1 h)else .isFalse fun e=>h ((NU a b).2 e)
theorem ot(a b:List T):bG (a++b)=bG a+bG b:=by
 induction a with
 |nil=>simp[bG]
 |cons x r aY=>simp[bG,aY];omega
theorem Ji(l:List T)(k:Nat)(h:k<l.length):bG (l.take (k+1))=bG (l.take k)+l[k].size:=by
 rw[List.take_succ_eq_append_getElem h,ot];simp[bG]
section
variable {K:Type} [DecidableEq K]
def da:List K→List K→List K
  | [],_=> []
  |t::r,left=>if t∈left then da r (left.erase t)else t::da r left
theorem qo(x:K):∀(l m:List K),(da l m).count x=l.count x-m.count x
  | [],m=>by simp[da]
  |t::r,m=>by simp only[da];by_cases h:t∈m;rw[if_pos h,qo x r,List.count_cons,List.count_erase];have:=List.count_pos_iff.2 h;by_cases e:t=x;subst e;simp;omega;simp[e];rw[if_neg h,List.count_cons,qo x r,List.count_cons];by_cases e:t=x;subst e;have:=List.count_eq_zero.2 h;simp[this];simp[e]
theorem we{l m:List K}{x:K}:x∈da l m↔m.count x<l.count x:=by
 rw[←List.count_pos_iff,qo];omega
theorem Jj{l m:List K}:da l m= []↔∀x,l.count x≤m.count x:=by
 constructor;intro h x;have:x∉da l m:=by rw[h];simp
 rw[we]at this;omega;intro h
 cases aC:da l m with
 |nil=>rfl
 |cons y r=>
   have:y∈da l m:=by rw[aC];simp
   rw[we]at this
   have:=h y;omega
variable (g:K→K→Bool)
def pv(a b:List K):Bool:=decide (0<a.length)&&b.all fun u=>a.any fun t=>g t u
def hf(a b:List K):Int:=
  if(da a b).length+(da b a).length=0 then 0 else if pv g (da a b) (da b a)=true then 1 else if pv g (da b a) (da a b)=true then-1 else 2
variable {g}
theorem Vl{a b eQ b':List K}(h:a.Perm eQ)(k:b.Perm b'):pv g a b=pv g eQ b':=by
 unfold pv;rw[h.length_eq];congr 1;rw[Bool.eq_iff_iff,List.all_eq_true,List.all_eq_true];constructor;intro q u hu;have:=q u (k.mem_iff.2 hu);rw[List.any_eq_true]at this⊢;obtain⟨t,ar,he⟩:=this;exact⟨t,h.mem_iff.1 ar,he⟩;intro q u hu;have:=q u (k.mem_iff.1 hu);rw[List.any_eq_true]at this⊢;obtain⟨t,ar,he⟩:=this;exact⟨t,h.mem_iff.2 ar,he⟩
theorem Vm{l m o8 eI:List K}(h:∀x,l.count x-m.count x=o8.count x-eI.count x):(da l m).Perm (da o8 eI):=by
 rw[List.perm_iff_count];intro x;rw[qo,qo,h]
theorem Jk{a b eQ b':List K}(h:a.Perm eQ)(k:b.Perm b'):hf g a b=hf g eQ b':=by
 have ab:(da a b).Perm (da eQ b'):=Vm fun x=>by rw[h.count_eq,k.count_eq]
 have ae:(da b a).Perm (da b' eQ):=Vm fun x=>by rw[h.count_eq,k.count_eq]
 unfold hf;rw[ab.length_eq,ae.length_eq,Vl ab ae,Vl ae ab]
theorem Fm{a b:List K}:hf g a b=0↔a.Perm b:=by
 have az:a.Perm b↔(da a b).length+(da b a).length=0:=by rw[List.perm_iff_count];constructor;intro h;have aQ:=Jj.2 fun x=>Nat.le_of_eq (h x);have aT:=Jj.2 fun x=>Nat.le_of_eq (h x).symm;rw[aQ,aT];rfl;intro h x;have aQ:=Jj.1 (List.eq_nil_of_length_eq_zero (show(da a b).length=0 by omega)) x;have aT:=Jj.1 (List.eq_nil_of_length_eq_zero (show(da b a).length=0 by omega)) x;omega
 rw[az];unfold hf;by_cases h:(da a b).length+(da b a).length=0;rw[if_pos h];simp[h];rw[if_neg h];constructor;intro q;split at q<;>(try split at q)<;>simp at q;intro q;exact absurd q h
theorem AV{a b:List K}:hf g a b=1↔pv g (da a b) (da b a)=true:=by
 unfold hf;by_cases h:(da a b).length+(da b a).length=0;rw[if_pos h];have:da a b= []:=List.eq_nil_of_length_eq_zero ah;rw[this];simp[pv];rw[if_neg h];by_cases ae:pv g (da a b) (da b a)=true;rw[if_pos ae];simp[ae];rw[if_neg ae];simp only[ae,iff_false];split<;>simp
theorem NV{a b:List K}:pv g (da a b) (da b a)=true↔(∃x,b.count x<a.count x)∧∀u,a.count u<b.count u→∃t,b.count t<a.count t∧g t u=true:=by
 unfold pv;rw[Bool.and_eq_true,decide_eq_true_eq,List.all_eq_true];constructor;rintro⟨ab,ae⟩;refine⟨?_,fun u hu=> ?_⟩;obtain⟨x,af⟩:=List.exists_mem_of_length_pos ab;exact⟨x,we.1 af⟩;have:=ae u (we.2 hu);rw[List.any_eq_true]at this;obtain⟨t,ar,he⟩:=this;exact⟨t,we.1 ar,he⟩;rintro⟨⟨x,af⟩,ae⟩;refine⟨List.length_pos_of_mem (we.2 af),fun u hu=> ?_⟩;obtain⟨t,ar,he⟩:=ae u (we.1 hu);exact List.any_eq_true.2 ⟨t,we.2 ar,he⟩
structure AW(g:K→K→Bool)(Ok:K→Prop):Prop where
  AX:∀x,g x x=false
  jH:∀x y z,Ok x→Ok y→Ok z→g x y=true→g y z=true→g x z=true
theorem Jl{α:Type}{p q:α→Bool}:∀{l:List α},(∀x∈l,p x=true→q x=true)→(∃x∈l,q x=true∧p x=false)→l.countP p<l.countP q
  | [],_,h=>by obtain⟨x,af,_⟩:=h;cases af
  |y::r,NW,h=>by
   have hle:r.countP p≤r.countP q:=List.countP_mono_left fun x af=>NW x (List.mem_cons_of_mem _ af);have aw:=NW y (List.mem_cons_self ..);rw[List.countP_cons,List.countP_cons];obtain⟨x,af,ab,ae⟩:=h;rcases List.mem_cons.1 af with rfl|af
   rw[ab,ae];simp;omega;have aY:=Jl (l:=r) (fun x af=>NW x (List.mem_cons_of_mem _ af)) ⟨x,af,ab,ae⟩;by_cases e:p y=true;rw[e,aw e];simp;omega;simp only[e,Bool.false_eq_true,if_false];omega
theorem Vn{Ok:K→Prop}(bQ:AW g Ok){a b c:List K}(bk:∀t∈a,Ok t)(al:∀t∈b,Ok t)(aq:∀t∈c,Ok t)(ab:hf g a b=1)(ae:hf g b c=1):hf g a c=1:=by
 rw[AV,NV]at ab ae⊢;obtain⟨⟨ou,m6⟩,ab⟩:=ab;obtain⟨⟨uZ,hG⟩,ae⟩:=ae;have Vo:∀{x:K} {n:Nat},n<a.count x→Ok x:=fun h=>bk _ (List.count_pos_iff.1 ah);have Vp:∀{x:K} {n:Nat},n<b.count x→Ok x:=fun h=>al _ (List.count_pos_iff.1 ah);have ajM:∀{x:K} {n:Nat},n<c.count x→Ok x:=fun h=>aq _ (List.count_pos_iff.1 ah);have jH:=bQ.jH
 have key:∀(n:Nat) (w:K),(b++c).countP (fun t=>g t w)≤n→(a.count w<b.count w∨b.count w<c.count w)→∃x,g x w=true∧c.count x<a.count x:=by
  intro n
  induction n with
  |zero=>
   intro w aD hw;have a2:∀t∈b++c,¬g t w=true:=by have:=List.countP_eq_zero.1 (Nat.le_zero.1 aD);intro t ar;simpa using this t ar
   rcases hw with hw|hw
   obtain⟨x,af,ao⟩:=ab w hw;refine⟨x,ao,?_⟩;have:c.count x=0:=List.count_eq_zero.2 fun hm=>a2 x (List.mem_append_right _ hm) ao;omega;obtain⟨x,af,ao⟩:=ae w hw;exact absurd ao (a2 x (List.mem_append_left _ (List.count_pos_iff.1 ah)))
  |succ n aY=>
   intro w aD hw
   have step:∀x,g x w=true→Ok x→Ok w→(a.count x<b.count x∨b.count x<c.count x)→∃y,g y w=true∧c.count y<a.count y:=by
    intro x ao af ku eO
    have M4:x∈b++c:=by
     rcases eO with h|h
     exact List.mem_append_left _ (List.count_pos_iff.1 ah);exact List.mem_append_right _ (List.count_pos_iff.1 ah)
    have cE:∀t∈b++c,Ok t:=fun t ar=>by rcases List.mem_append.1 ar with h|h;exact al t h;exact aq t h
    have av:(b++c).countP (fun t=>g t x)<(b++c).countP (fun t=>g t w):=
      Jl (fun t ar h=>jH _ _ _ (cE t ar) af ku h ao) ⟨x,M4,ao,bQ.AX x⟩
    obtain⟨y,aw,Vq⟩:=aY x ah eO;exact⟨y,jH _ _ _ (Vo Vq) af ku aw ao,Vq⟩
   rcases hw with hw|hw
   obtain⟨x,af,ao⟩:=ab w hw;by_cases eO:a.count x<b.count x∨b.count x<c.count x;exact step x ao (Vo af) (Vp hw) eO;exact⟨x,ao,by omega⟩;obtain⟨x,af,ao⟩:=ae w hw;by_cases eO:a.count x<b.count x∨b.count x<c.count x;exact step x ao (Vp af) (ajM hw) eO;exact⟨x,ao,by omega⟩
 refine⟨?_,fun u hu=> ?_⟩;by_cases eO:∃w,a.count w<b.count w∨b.count w<c.count w;obtain⟨w,hw⟩:=eO;obtain⟨x,_,af⟩:=key _ w (Nat.le_refl _) hw;exact⟨x,af⟩;have ix:∀w,¬(a.count w<b.count w∨b.count w<c.count w):=fun w h=>eO ⟨w,h⟩;have:=ix ou;exact⟨ou,by omega⟩;obtain⟨x,ao,af⟩:=key _ u (Nat.le_refl _) ah;exact⟨x,af,ao⟩
theorem Vr(a:List K):hf g a a=0:=Fm.2 (List.Perm.refl _)
theorem ajN{Ok:K→Prop}(bQ:AW g Ok){a b:List K}(bk:∀t∈a,Ok t)(al:∀t∈b,Ok t)(ab:hf g a b=1):hf g b a= -1:=by
 have ae:hf g b a≠1:=fun h=>by have:=Vn bQ bk al bk ab h;rw[Vr]at this;cases this
 have aF:hf g b a≠0:=fun h=>by have:=Fm.1 h;rw[Fm.2 this.symm]at ab;cases ab
 rw[AV]at ab;unfold hf at ae aF⊢;by_cases e:(da b a).length+(da a b).length=0;rw[if_pos e]at aF;exact absurd rfl aF;rw[if_neg e]at ae⊢;by_cases aT:pv g (da b a) (da a b)=true;rw[if_pos aT]at ae;exact absurd rfl ae;rw[if_neg aT,if_pos ab]
theorem ajO{a b:List K}(h:hf g a b= -1):hf g b a=1:=by
 rw[AV];unfold hf at h;split at h;cases h;split at h;cases h;split at h;assumption;cases h
theorem Jm{Ok:K→Prop}(bQ:AW g Ok):∀(l:List K),0<l.length→(∀x∈l,Ok x)→∃m∈l,∀x∈l,g x m=false
  | [x],_,_=>⟨x,by simp,fun y aw=>by simp at aw;subst aw;exact bQ.AX _⟩
  |x::y::r,_,hk=>by
   obtain⟨m,hm,ar⟩:=Jm bQ (y::r) (by simp) (fun z a2=>hk z (List.mem_cons_of_mem _ a2));by_cases h:g x m=true;refine⟨x,List.mem_cons_self ..,fun z a2=> ?_⟩;rcases List.mem_cons.1 a2 with rfl|a2
   exact bQ.AX _;cases q:g z x;rfl;have:=bQ.jH z x m (hk z (List.mem_cons_of_mem _ a2)) (hk x (List.mem_cons_self ..)) (hk m (List.mem_cons_of_mem _ hm)) q h;rw[ar z a2]at this;cases this;refine⟨m,List.mem_cons_of_mem _ hm,fun z a2=> ?_⟩;rcases List.mem_cons.1 a2 with rfl|a2
   simpa using h;exact ar z a2
theorem Vs{L:Type}[DecidableEq L]{g':L→L→Bool}{f:K→L}{a b:List K}(aM:∀x∈a,∀y∈b,g x y=true→g' (f x) (f y)=true){Ok:L→Prop}(bQ:AW g' Ok)(bk:∀x∈a,Ok (f x))(al:∀x∈b,Ok (f x))(h:hf g a b=1):hf g' (a.map f) (b.map f)=1:=by
 rw[AV]at h;have af:∀x∈da a b,x∈a:=fun x af=>List.count_pos_iff.1 (by have:=we.1 af;omega);have aw:∀y∈da b a,y∈b:=fun x af=>List.count_pos_iff.1 (by have:=we.1 af;omega);unfold pv at h;rw[Bool.and_eq_true,decide_eq_true_eq,List.all_eq_true]at h;have NX:∀(a b:List K),∃s,a.Perm (s++da a b)∧b.Perm (s++da b a):=fun a b=>by refine⟨da a (da a b),?_,?_⟩;rw[List.perm_iff_count];intro x;rw[List.count_append,qo,qo];omega;rw[List.perm_iff_count];intro x;rw[List.count_append,qo,qo,qo];omega
 obtain⟨s,db,gr⟩:=NX a b;have aQ:=db.map f;have aT:=gr.map f;rw[Jk aQ aT,AV,NV];rw[List.map_append,List.map_append];have ajP:∀z,(s.map f++(da a b).map f).count z<(s.map f++(da b a).map f).count z→z∈(da b a).map f:=fun z a2=>by rw[List.count_append,List.count_append]at a2;exact List.count_pos_iff.1 ah
 have iy:∀z∈(da a b).map f++(da b a).map f,Ok z:=fun z a2=>by
  rcases List.mem_append.1 a2 with h|h
  obtain⟨x,lr,rfl⟩:=List.mem_map.1 h;exact bk x (af x lr);obtain⟨x,lr,rfl⟩:=List.mem_map.1 h;exact al x (aw x lr)
 have NY:∀u∈(da b a).map f,∃t∈(da a b).map f,g' t u=true:=fun u hu=>by obtain⟨y,Fo,rfl⟩:=List.mem_map.1 hu;have:=h.2 y Fo;rw[List.any_eq_true]at this;obtain⟨x,lr,qp⟩:=this;exact⟨f x,List.mem_map_of_mem lr,aM x (af x lr) y (aw y Fo) qp⟩
 have key:∀(n:Nat) (u:L),((da a b).map f++(da b a).map f).countP (fun t=>g' t u)≤n→Ok u→(∃t∈(da a b).map f,g' t u=true)→∃t,(s.map f++(da b a).map f).count t<(s.map f++(da a b).map f).count t∧g' t u=true:=by
  intro n
  induction n with
  |zero=>intro u aD _ ⟨t,ar,fy⟩;have:=List.countP_eq_zero.1 (Nat.le_zero.1 aD) t (List.mem_append_left _ ar);exact absurd fy this
  |succ n aY=>
   intro u aD hu ⟨t,ar,fy⟩;by_cases q:(s.map f++(da b a).map f).count t<(s.map f++(da a b).map f).count t;exact⟨t,q,fy⟩;have NZ:t∈(da b a).map f:=by have ab:=List.count_pos_iff.2 ar;rw[List.count_append,List.count_append]at q;exact List.count_pos_iff.1 ah
   have N0:=iy t (List.mem_append_left _ ar);have cE:=iy
   have av:((da a b).map f++(da b a).map f).countP (fun z=>g' z t)<((da a b).map f++(da b a).map f).countP (fun z=>g' z u):=
     Jl (fun z a2 nH=>bQ.jH _ _ _ (cE z a2) N0 hu nH fy) ⟨t,List.mem_append_left _ ar,fy,bQ.AX t⟩
   obtain⟨w,lx,ku⟩:=aY t ah N0 (NY t NZ);have ajQ:Ok w:=iy w (List.mem_append_left _ (by rw[List.count_append,List.count_append]at lx;exact List.count_pos_iff.1 ah));exact⟨w,lx,bQ.jH _ _ _ ajQ N0 hu ku fy⟩
 refine⟨?_,fun u hu=> ?_⟩;obtain⟨x,lr⟩:=List.exists_mem_of_length_pos h.1;obtain⟨m,hm,xw⟩:=Jm bQ ((da a b).map f++(da b a).map f) (by rw[List.length_append,List.length_map];omega) iy;have Fp:m∉(da b a).map f:=fun Fp=>by obtain⟨t,ar,fy⟩:=NY m Fp;rw[xw t (List.mem_append_left _ ar)]at fy;cases fy
 have Jn:m∈(da a b).map f:=by rcases List.mem_append.1 hm with h|h;exact h;exact absurd h Fp
 refine⟨m,?_⟩;rw[List.count_append,List.count_append,List.count_eq_zero.2 Fp];have:=List.count_pos_iff.2 Jn;omega;have tr:=ajP u hu;exact key _ u (Nat.le_refl _) (iy u (List.mem_append_right _ tr)) (NY u tr)
end
section
inductive G where
  |mk:Nat→List G→G
def G.head:G→Nat|.mk h _=>h
def G.args:G→List G|.mk _ a=>a
theorem G.eta:∀a:G,a=.mk a.head a.args|.mk _ _=>rfl
mutual
def fe(w:Nat→Nat):G→Nat
  |.mk h lC=>w h+nI w lC
def nI(w:Nat→Nat):List G→Nat
  | []=>0
  |a::r=>fe w a+nI w r
end
mutual
def eG(w:Nat→Nat):G→G→Prop
  |.mk h lC,b=>fe w b<fe w (.mk h lC)∨(fe w (.mk h lC)=fe w b∧(b.head<h∨(h=b.head∧(b.args.length<lC.length∨(lC.length=b.args.length∧j3 w lC b.args)))))
def j3(w:Nat→Nat):List G→List G→Prop
  |a::r,b::q=>eG w a b∨(a=b∧j3 w r q)
  |_,_=>False
end
variable {w:Nat→Nat}
theorem wg(a b:G):eG w a b↔fe w b<fe w a∨(fe w a=fe w b∧(b.head<a.head∨(a.head=b.head∧(b.args.length<a.args.length∨(a.args.length=b.args.length∧j3 w a.args b.args))))):=by
 cases a;rw[eG];rfl
mutual
theorem pw:∀a:G,¬eG w a a
  |.mk h lC=>by rw[wg];rintro(ab|⟨_,ab|⟨_,ab|⟨_,ab⟩⟩⟩);omega;omega;omega;exact Vt lC ab
theorem Vt:∀l:List G,¬j3 w l l
  | []=>by simp[j3]
  |a::r=>by rw[j3];rintro(h|⟨_,h⟩);exact pw a h;exact Vt r h
end
mutual
theorem xx:∀a b c:G,eG w a b→eG w b c→eG w a c
  |.mk h lC,b,c,ab,ae=>by
   rw[wg]at ab ae⊢;rcases ab with ab|⟨aQ,ab⟩
   left;rcases ae with ae|⟨aT,_⟩<;>omega
   rcases ae with ae|⟨aT,ae⟩
   left;omega;right;refine⟨by omega,?_⟩;rcases ab with ab|⟨f1,ab⟩
   left;rcases ae with ae|⟨f2,_⟩<;>omega
   rcases ae with ae|⟨f2,ae⟩
   left;omega;right;refine⟨by omega,?_⟩;rcases ab with ab|⟨c8,ab⟩
   left;rcases ae with ae|⟨b6,_⟩<;>omega
   rcases ae with ae|⟨b6,ae⟩
   left;omega;exact .inr ⟨by omega,Vu lC b.args c.args ab ae⟩
theorem Vu:∀l m p:List G,j3 w l m→j3 w m p→j3 w l p
  | [],m,p,h,_=>by cases m<;>simp[j3]at h
  |x::l,[],p,h,_=>by simp[j3]at h
  |x::l,y::m,[],_,h=>by simp[j3]at h
  |x::l,y::m,z::p,ab,ae=>by
   rw[j3]at ab ae⊢;rcases ab with ab|⟨rfl,ab⟩
   rcases ae with ae|⟨rfl,_⟩
   exact .inl (xx x y z ab ae);exact .inl ab;rcases ae with ae|⟨rfl,ae⟩
   exact .inl ae;exact .inr ⟨rfl,Vu l m p ab ae⟩
end
mutual
theorem wh:∀a b:G,a=b∨eG w a b∨eG w b a
  |.mk h lC,.mk k bs=>by
   rw[wg,wg];simp only[G.head,G.args];rcases Nat.lt_trichotomy (fe w (.mk h lC)) (fe w (.mk k bs))with ab|ab|ab
   exact .inr (.inr (.inl ab));rcases Nat.lt_trichotomy h k with ae|ae|ae
   exact .inr (.inr (.inr ⟨ab.symm,.inl ae⟩));rcases Nat.lt_trichotomy lC.length bs.length with aF|aF|aF
   exact .inr (.inr (.inr ⟨ab.symm,.inr ⟨ae.symm,.inl aF⟩⟩));rcases Vv lC bs aF with bb|bb|bb
   left;rw[ae,bb];exact .inr (.inl (.inr ⟨ab,.inr ⟨ae,.inr ⟨aF,bb⟩⟩⟩));exact .inr (.inr (.inr ⟨ab.symm,.inr ⟨ae.symm,.inr ⟨aF.symm,bb⟩⟩⟩));exact .inr (.inl (.inr ⟨ab,.inr ⟨ae,.inl aF⟩⟩));exact .inr (.inl (.inr ⟨ab,.inl ae⟩));exact .inr (.inl (.inl ab))
theorem Vv:∀l m:List G,l.length=m.length→l=m∨j3 w l m∨j3 w m l
  | [],[],_=>.inl rfl
  | [],_::_,h=>by simp at h
  |_::_,[],h=>by simp at h
  |x::l,y::m,h=>by
   rw[j3,j3];rcases wh x y with ab|ab|ab
   rcases Vv l m (by simpa using h)with ae|ae|ae
   left;rw[ab,ae];exact .inr (.inl (.inr ⟨ab,ae⟩));exact .inr (.inr (.inr ⟨ab.symm,ae⟩));exact .inr (.inl (.inl ab));exact .inr (.inr (.inl ab))
end
theorem Vw{a b:G}(h:eG w a b)(k:eG w b a):False:=pw a (xx a b a h k)
theorem ajR{a b:G}(h:eG w a b):fe w b≤fe w a:=by
 rw[wg]at h;rcases h with h|⟨h,_⟩<;>omega
def gS(w:Nat→Nat)(a b:G):Prop:=a=b∨eG w a b
theorem gS.refl(a:G):gS w a a:=.inl rfl
theorem gS.trans{a b c:G}(h:gS w a b)(k:gS w b c):gS w a c:=by
 rcases h with rfl|h
 exact k;rcases k with rfl|k
 exact .inr h;exact .inr (xx a b c h k)
theorem eG.ge{a b c:G}(h:eG w a b)(k:gS w b c):eG w a c:=by
 rcases k with rfl|k
 exact h;exact xx a b c h k
theorem ajS{a b:G}(h:gS w a b):fe w b≤fe w a:=by
 rcases h with rfl|h
 exact Nat.le_refl _;exact ajR h
theorem N1{a b:G}:¬eG w a b↔gS w b a:=by
 constructor;intro h;rcases wh (w:=w) a b with ab|ab|ab
 exact .inl ab.symm;exact absurd ab h;exact .inr ab;rintro(rfl|h) k;exact pw _ k;exact Vw h k
theorem Vx{a b:G}(h:gS w a b)(k:gS w b a):a=b:=by
 rcases h with h|h
 exact h;exact absurd k (fun k=>pw a (eG.ge h k))
inductive k4(w:Nat→Nat):List G→List G→Prop
  |nil:k4 w [] []
  |cons {a b:G} {l m:List G}:gS w a b→k4 w l m→k4 w (a::l) (b::m)
theorem k4.len{l m:List G}(h:k4 w l m):l.length=m.length:=by
 induction h with
 |nil=>rfl
 |cons _ _ aY=>simp[aY]
theorem k4.refl:∀l:List G,k4 w l l
  | []=>.nil
  |x::l=>.cons (.refl x) (k4.refl l)
theorem k4.lex{l m:List G}(h:k4 w l m):nI w m≤nI w l∧(l=m∨j3 w l m):=by
 induction h with
 |nil=>exact⟨Nat.le_refl _,.inl rfl⟩
 | @cons a b l m ab ae aY=>
  obtain⟨i1,i2⟩:=aY;refine⟨by have:=ajS ab;simp only[nI];omega,?_⟩;rw[j3];rcases ab with rfl|ab
  rcases i2 with rfl|i2
  exact .inl rfl;exact .inr (.inr ⟨rfl,i2⟩);exact .inr (.inl ab)
theorem k4.mk{l m:List G}(h:k4 w l m)(k:Nat):gS w (.mk k l) (.mk k m):=by
 obtain⟨ab,ae⟩:=h.lex;rcases ae with rfl|ae
 exact .refl _;right;rw[wg];have aQ:fe w (.mk k l)=w k+nI w l:=by rw[fe]
 have aT:fe w (.mk k m)=w k+nI w m:=by rw[fe]
 rcases Nat.lt_or_ge (nI w m) (nI w l)with aF|aF
 left;omega;exact .inr ⟨by omega,.inr ⟨rfl,.inr ⟨h.len,ae⟩⟩⟩
theorem k4.Fq{l m:List G}(h:k4 w l m)(cu:l≠m)(k:Nat):eG w (.mk k l) (.mk k m):=by
 rcases h.mk k with ab|ab
 injection ab with _ ab;exact absurd ab cu;exact ab
theorem k4.set{a b:G}(h:gS w a b):∀(l r:List G),k4 w (l++a::r) (l++b::r)
  | [],r=>.cons h (.refl r)
  |x::l,r=>.cons (.refl x) (k4.set h l r)
theorem ajT{a b:G}(h:eG w a b)(k:Nat)(l r:List G):eG w (.mk k (l++a::r)) (.mk k (l++b::r)):=
  (k4.set (.inr h) l r).Fq (fun e=>by have:=List.append_cancel_left e;injection this with this _;subst this;exact pw _ h) k
theorem Vy{x:G}:∀{l:List G},x∈l→fe w x≤nI w l
  |y::l,h=>by
   rcases List.mem_cons.1 h with rfl|h
   simp only[nI];omega;have:=Vy h;simp only[nI];omega
theorem Jo(hw:∀h,1≤w h){x:G}{h:Nat}{lC:List G}(af:x∈lC):fe w x<fe w (.mk h lC):=by
 have:=Vy (w:=w) af;have:=hw h;simp only[fe];omega
theorem Vz(hw:∀h,1≤w h){x:G}{h:Nat}{lC:List G}(af:x∈lC):eG w (.mk h lC) x:=by
 rw[wg];exact .inl (Jo hw af)
theorem VA(hw:∀h,1≤w h)(a:G):1≤fe w a:=by
 cases a with
 |mk h lC=>have:=hw h;simp only[fe];omega
abbrev qq(w:Nat→Nat)(a b:G):Prop:=eG w b a
theorem ajU:∀(k:Nat) (P:List G→Prop),(∀l,l.length=k→(∀x∈l,Acc (qq w) x)→(∀m,m.length=k→(∀x∈m,Acc (qq w) x)→j3 w l m→P m)→P l)→∀l,l.length=k→(∀x∈l,Acc (qq w) x)→P l:=by
 intro k
 induction k with
 |zero=>intro P ev l aA af;refine ev l aA af fun m hm _ h=> ?_;rw[List.eq_nil_of_length_eq_zero aA]at h;cases m<;>simp[j3]at h
 |succ k aY=>
  intro P ev l aA af
  cases l with
  |nil=>simp at aA
  |cons x l=>
    have N2:=af x (List.mem_cons_self ..)
    have key:∀x,Acc (qq w) x→∀l,l.length=k→(∀y∈l,Acc (qq w) y)→P (x::l):=by
     intro x N2
     induction N2 with
     |intro x af ajV=>
      refine aY (fun l=>P (x::l)) fun l aA aw an=> ?_;refine ev (x::l) (by simp[aA]) (fun z a2=> ?_) fun m hm Jn VB=> ?_;rcases List.mem_cons.1 a2 with rfl|a2
      exact Acc.intro _ af;exact aw z a2
      cases m with
      |nil=>simp at hm
      |cons y m=>
       rw[j3]at VB;rcases VB with h|⟨rfl,h⟩
       exact ajV y h m (by simpa using hm) fun z a2=>Jn z (List.mem_cons_of_mem _ a2);exact an m (by simpa using hm) (fun z a2=>Jn z (List.mem_cons_of_mem _ a2)) h
    exact key x N2 l (by simpa using aA) fun y aw=>af y (List.mem_cons_of_mem _ aw)
theorem ajW(hw:∀h,1≤w h):∀(n:Nat) (t:G),fe w t=n→Acc (qq w) t:=by
 intro n
 induction n using Nat.strongRecOn with
 |_ n aY=>
   have key:∀(h k:Nat) (l:List G),l.length=k→fe w (.mk h l)=n→Acc (qq w) (.mk h l):=by
    intro h
    induction h using Nat.strongRecOn with
    |_ h ajX=>
     intro k
     induction k using Nat.strongRecOn with
     |_ k N3=>
      intro l aA aD;refine ajU k (fun l=>fe w (.mk h l)=n→Acc (qq w) (.mk h l)) (fun l aA af an aD=> ?_) l aA (fun x af=>aY _ (aD▸Jo hw af) x rfl) aD;refine Acc.intro _ fun y aw=> ?_;have Fo:eG w (.mk h l) y:=aw;rw[wg]at Fo;rcases Fo with ab|⟨aQ,ab⟩
      exact aY _ ah y rfl;have xy:=y.eta;simp only[show(G.mk h l).head=h from rfl,show(G.mk h l).args=l from rfl]at ab;rcases ab with ab|⟨aT,ab⟩
      rw[xy];exact ajX _ ab _ _ rfl (by rw[←xy];omega);rcases ab with ab|⟨dA,ab⟩
      rw[xy,←aT];exact N3 _ ah _ rfl (by rw[aT,←xy];omega);have th:fe w (.mk h y.args)=n:=by rw[aT,←xy];omega
      rw[xy,←aT];exact an y.args ah (fun x af=>aY _ (th▸Jo hw af) x rfl) ab th
   intro t ar
   rw[t.eta]at ar⊢
   exact key _ _ _ rfl ar
theorem AY(hw:∀h,1≤w h):WellFounded (qq w):=⟨fun t=>ajW hw _ t rfl⟩
end
section
variable {K:Type} [DecidableEq K] {g:K→K→Bool}
theorem C4(bQ:AW g (fun _=>True)){a b s x y:List K}(bk:a.Perm (s++x))(al:b.Perm (s++y))(af:x≠[])(aH:∀u∈y,∃t∈x,g t u=true):hf g a b=1:=by
 rw[Jk bk al,AV,NV]
 have key:∀(n:Nat) (u:K),(x++y).countP (fun t=>g t u)≤n→(∃t∈x,g t u=true)→∃t,(s++y).count t<(s++x).count t∧g t u=true:=by
  intro n
  induction n with
  |zero=>intro u aD ⟨t,ar,fy⟩;exact absurd fy (List.countP_eq_zero.1 (Nat.le_zero.1 aD) t (List.mem_append_left _ ar))
  |succ n aY=>
   intro u aD ⟨t,ar,fy⟩;by_cases q:(s++y).count t<(s++x).count t;exact⟨t,q,fy⟩;have AZ:t∈y:=by have ab:=List.count_pos_iff.2 ar;rw[List.count_append,List.count_append]at q;exact List.count_pos_iff.1 ah
   have av:(x++y).countP (fun z=>g z t)<(x++y).countP (fun z=>g z u):=
     Jl (fun z a2 nH=>bQ.jH _ _ _ trivial trivial trivial nH fy) ⟨t,List.mem_append_left _ ar,fy,bQ.AX t⟩
   obtain⟨v,N4,Jp⟩:=aY t ah (aH t AZ);exact⟨v,N4,bQ.jH _ _ _ trivial trivial trivial Jp fy⟩
 refine⟨?_,fun u hu=> ?_⟩
 obtain⟨m,hm,xw⟩:=Jm bQ (x++y) (by
  cases x with
  |nil=>exact absurd rfl af
  |cons=>simp) (fun _ _=>trivial)
 have Jq:m∉y:=fun Jq=>by obtain⟨t,ar,fy⟩:=aH m Jq;rw[xw t (List.mem_append_left _ ar)]at fy;cases fy
 have ajY:m∈x:=by rcases List.mem_append.1 hm with h|h;exact h;exact absurd h Jq
 refine⟨m,?_⟩;rw[List.count_append,List.count_append,List.count_eq_zero.2 Jq];have:=List.count_pos_iff.2 ajY;omega;have rn:u∈y:=by rw[List.count_append,List.count_append]at hu;exact List.count_pos_iff.1 ah
 exact key _ u (Nat.le_refl _) (aH u rn)
def ov(g:K→K→Bool)(n m:List K):Prop:=∃x s k,m.Perm (x::s)∧n.Perm (k++s)∧∀u∈k,g x u=true
theorem N5{n m nJ eI:List K}(h:ov g n m)(aD:nJ.Perm n)(hm:eI.Perm m):ov g nJ eI:=by
 obtain⟨x,s,k,ab,ae,aF⟩:=h;exact⟨x,s,k,hm.trans ab,aD.trans ae,aF⟩
theorem VC{m eI:List K}(h:Acc (ov g) m)(p:m.Perm eI):Acc (ov g) eI:=
  Acc.intro _ fun n aD=>h.inv (N5 aD (List.Perm.refl _) p)
theorem ajZ(x:K)(af:∀y,g x y=true→∀m,Acc (ov g) m→Acc (ov g) (y::m)):∀m,Acc (ov g) m→Acc (ov g) (x::m):=by
 intro m hm
 induction hm with
 |intro m hm aY=>
  refine Acc.intro _ fun n ⟨a,s,k,ab,ae,aF⟩=> ?_;by_cases e:a=x;subst e;have A0:m.Perm s:=ab.cons_inv
  have:∀k:List K,(∀u∈k,g a u=true)→Acc (ov g) (k++m):=by
   intro k
   induction k with
   |nil=>intro _;exact Acc.intro _ hm
   |cons u k N3=>intro hk;exact af u (hk u (List.mem_cons_self ..)) _ (N3 fun v ax=>hk v (List.mem_cons_of_mem _ ax))
  exact VC (this k aF) ((List.Perm.append_left k A0).trans ae.symm)
  have fJ:x∈s:=by
   have:x∈a::s:=ab.mem_iff.1 (List.mem_cons_self ..);rcases List.mem_cons.1 this with h|h
   exact absurd h.symm e;exact h
  have mE:s.Perm (x::s.erase x):=List.perm_cons_erase fJ;have n_:m.Perm (a::s.erase x):=by have:(x::m).Perm (x::a::s.erase x):=ab.trans ((mE.cons a).trans (List.Perm.swap ..));exact this.cons_inv
  have Fs:n.Perm (x::(k++s.erase x)):=ae.trans ((List.Perm.append_left k mE).trans List.perm_middle);exact VC (aY (k++s.erase x) ⟨a,s.erase x,k,n_,List.Perm.refl _,aF⟩) Fs.symm
theorem aj0(hw:WellFounded (fun a b:K=>g b a=true)):∀m,Acc (ov g) m:=by
 have add:∀x m,Acc (ov g) m→Acc (ov g) (x::m):=by
  intro x
  induction x using hw.induction with
  |_ x aY=>exact ajZ x aY
 intro m
 induction m with
 |nil=>refine Acc.intro _ fun n ⟨a,s,k,ab,_,_⟩=> ?_;have:=ab.length_eq;simp at this
 |cons x m aY=>exact add x m aY
theorem VD{n m nJ eI:List K}(h:Relation.TransGen (ov g) n m)(aD:nJ.Perm n)(hm:eI.Perm m):Relation.TransGen (ov g) nJ eI:=by
 induction h generalizing eI with
 |single h=>exact .single (N5 h aD hm)
 |tail ab ae aY=>exact .tail (aY (List.Perm.refl _)) (N5 ae (List.Perm.refl _) hm)
theorem VE:∀(x s y:List K),x≠[]→(∀u∈y,∃t∈x,g t u=true)→Relation.TransGen (ov g) (y++s) (x++s)
  | [],_,_,h,_=>absurd rfl h
  | [t],s,y,_,aH=>.single ⟨t,s,y,List.Perm.refl _,List.Perm.refl _,fun u hu=>by obtain⟨v,ax,h⟩:=aH u hu;rw[List.mem_singleton]at ax;subst ax;exact h⟩
  |t::t'::x,s,y,_,aH=>by
   have az:(y.filter (fun u=>g t u)++y.filter (fun u=> !g t u)).Perm y:=List.filter_append_perm _ _;have ab:ov g (y.filter (fun u=>g t u)++(t'::x++s)) (t::t'::x++s):=⟨t,t'::x++s,_,List.Perm.refl _,List.Perm.refl _,fun u hu=>(List.mem_filter.1 hu).2⟩
   have ae:=VE (t'::x) (y.filter (fun u=>g t u)++s) (y.filter (fun u=> !g t u)) (by simp) (fun u hu=>by
    obtain⟨Ft,N6⟩:=List.mem_filter.1 hu;obtain⟨v,ax,h⟩:=aH u Ft;rcases List.mem_cons.1 ax with rfl|ax
    simp[h]at N6;exact⟨v,ax,h⟩)
   refine .tail (VD ae ?_ ?_) ab;rw[←List.append_assoc];exact List.Perm.append_right s (az.symm.trans List.perm_append_comm);rw[←List.append_assoc,←List.append_assoc];exact List.Perm.append_right s List.perm_append_comm
theorem aj1(a b:List K):∃s,a.Perm (s++da a b)∧b.Perm (s++da b a):=by
 refine⟨da a (da a b),?_,?_⟩;rw[List.perm_iff_count];intro x;rw[List.count_append,qo,qo];omega;rw[List.perm_iff_count];intro x;rw[List.count_append,qo,qo,qo];omega
theorem N7{a b:List K}(h:hf g a b=1):∃s x y,a.Perm (s++x)∧b.Perm (s++y)∧x≠[]∧∀u∈y,∃t∈x,g t u=true:=by
 obtain⟨s,ab,ae⟩:=aj1 a b;rw[AV]at h;unfold pv at h;rw[Bool.and_eq_true,decide_eq_true_eq,List.all_eq_true]at h;refine⟨s,da a b,da b a,ab,ae,fun e=>by rw[e]at h;simp at h,fun u hu=> ?_⟩;have:=h.2 u hu;rw[List.any_eq_true]at this;exact this
theorem aj2(hw:WellFounded (fun a b:K=>g b a=true)):WellFounded (fun a b:List K=>hf g b a=1):=by
 refine Subrelation.wf (r:=Relation.TransGen (ov g)) (fun{a b} h=> ?_) (WellFounded.transGen ⟨aj0 hw⟩);obtain⟨s,x,y,ab,ae,aF,bb⟩:=N7 h;exact VD (VE x s y aF bb) (ae.trans List.perm_append_comm) (ab.trans List.perm_append_comm)
end
section
structure aE where
  name:ByteArray
  cX:Int
  wt:Int
  jH:Bool
def aE.cs(s:aE):List Value:= [.string s.name,.int .i64 s.cX,.int .i64 s.wt,.bool s.jH]
def aE.v(s:aE):Value:=.agg s.cs.toArray
def aE.ok(s:aE):Prop:=dZ s.cX∧dZ s.wt∧s.name.size≤maxLen
def xz(a b:ByteArray):Bool:=a.toList==b.toList
inductive cP(I:aa):Value→List aE→Prop
  |mk (ad:Option Addr) (c:Nat) (gs:List aE) (aq:gs.length≤c) (al:gs.length≤4398046511104) (aW:∀i (h:i<gs.length),At I ad (i*4) gs[i].cs) (an:∀s∈gs,s.ok):cP I (.slice ad gs.length c) gs
theorem cP.mono{I J:aa}{v:Value}{gs:List aE}(h:cP I v gs)(aA:I.le J):cP J v gs:=by
 obtain⟨ad,c,gs,aq,al,aW,an⟩:=h;exact⟨ad,c,gs,aq,al,fun i aj=>(aW i aj).mono aA,an⟩
theorem cP.shape{I:aa}{v:Value}{gs:List aE}(h:cP I v gs):∃ad c,v=.slice ad gs.length c:=by
 obtain⟨ad,c,gs,_,_,_,_⟩:=h;exact⟨ad,c,rfl⟩
theorem cP.open{I:aa}{ad:Option Addr}{n c:Nat}{gs:List aE}(h:cP I (.slice ad n c) gs):n=gs.length∧gs.length≤c∧gs.length≤4398046511104∧(∀i (h:i<gs.length),At I ad (i*4) gs[i].cs)∧∀s∈gs,s.ok:=by
 generalize e:Value.slice ad n c=v at h;obtain⟨qn,cJ,gs,aq,al,aW,an⟩:=h;cases e;exact⟨rfl,aq,al,aW,an⟩
theorem cP.take{I:aa}{ad:Option Addr}{c:Nat}{gs:List aE}(h:cP I (.slice ad gs.length c) gs){k:Nat}(hk:k≤gs.length):cP I (.slice ad k c) (gs.take k):=by
 obtain⟨_,aq,al,aW,an⟩:=h.open;have e:(gs.take k).length=k:=by rw[List.length_take];omega
 have:=cP.mk (I:=I) ad c (gs.take k) ah ah (fun i aj=>by have:(gs.take k)[i]=gs[i]'(by omega):=List.getElem_take;rw[this];exact aW i ah) (fun s ao=>an s (List.mem_of_mem_take ao));rwa[e]at this
theorem cP.of{I:aa}{ad:Option Addr}{n c:Nat}{gs:List aE}{xs:List Value}(aW:Cells I ad xs)(af:xs=gs.flatMap aE.cs)(aD:n=gs.length)(aq:n≤c)(al:n≤4398046511104)(an:∀s∈gs,s.ok):cP I (.slice ad n c) gs:=by
 subst aD;subst af;refine⟨ad,c,gs,aq,al,fun i aj=>aW.at _ fun j v au=> ?_,an⟩;clear aW aq al an
 induction gs generalizing i with
 |nil=>simp at aj
 |cons s r aY=>
   have ao:s.cs.length=4:=rfl
   cases i with
   |zero=>simp only[List.getElem_cons_zero]at au;have av:=(List.getElem?_eq_some_iff.1 au).1;rw[List.flatMap_cons,List.getElem?_append_left ah];simpa using au
   |succ i=>simp only[List.getElem_cons_succ]at au;have:=aY i (by simpa using aj) au;rw[List.flatMap_cons,List.getElem?_append_right ah,ao,←this];congr 1;omega
def qs(a b:aE):Bool:=(a.name==b.name)&&(a.cX==b.cX&&(a.wt==b.wt&&a.jH==b.jH))
structure Jr(P:Program)(t ts nb iz:TypeId):Prop where
  str:∃f0 f1 f2 f3:Field,P.underlying t=some (.struct #[f0,f1,f2,f3])∧(f0.type=ts∧f0.offset=0∧f0.name≠ "_")∧(f1.type=nb∧f1.offset=1∧f1.name≠ "_")∧(f2.type=nb∧f2.offset=2∧f2.name≠ "_")∧(f3.type=iz∧f3.offset=3∧f3.name≠ "_")
  us:P.underlying ts=some .string
  Fu:P.underlying nb=some (.int .i64)
  Fv:P.underlying iz=some .bool
  held:P.stoodInHeld t=false
  guard:P.eqGuardType P.depth t=false
theorem Js{P:Program}{t:TypeId}{u:TypeDesc}(hu:P.underlying t=some u)(aD:(match u with|.struct _|.array _ _=>true|_=>false)=false){cs:Array Value}{i:Nat}{v:Value}(ax:cs[i]? =some v)(w:World):(part t cs i).run P w=.ok v w:=by
 have ab:(underlying t).run P w=.ok u w:=by simp[underlying,program,Sem.run,hu]
 have Iy:(isAgg t).run P w=.ok false w:=by simp only[isAgg,Sem.run_bind,ab,Result.andThen];cases u<;>simp at aD<;>rfl
 simp[part,Iy,ax]
theorem aj3{P:Program}{t ts nb iz:TypeId}(ty:Jr P t ts nb iz)(a b:aE)(w:World):(Op.equal t a.v b.v).run P w=.ok (qs a b) w:=by
 obtain⟨f0,f1,f2,f3,ao,⟨aQ,aT,dA⟩,⟨du,dy,gv⟩,⟨ab,ae,aF⟩,c8,b6,hs⟩:=ty.str;have hu:(underlying t).run P w=.ok (.struct #[f0,f1,f2,f3]) w:=by simp[underlying,program,Sem.run,ao]
 have lD:(underlying ts).run P w=.ok .string w:=by simp[underlying,program,Sem.run,ty.us]
 have aj4:(underlying nb).run P w=.ok (.int .i64) w:=by simp[underlying,program,Sem.run,ty.Fu]
 have tr:(underlying iz).run P w=.ok .bool w:=by simp[underlying,program,Sem.run,ty.Fv]
 have dj:∀x y:ByteArray,(Op.equalIn 9999 ts (.string x) (.string y)).run P w=.ok (x==y) w:=fun x y=>by show(Op.equalIn (9998+1) ts (.string x) (.string y)).run P w=_;rw[Op.equalIn];simp only[Sem.run_bind,lD,Result.andThen];rfl
 have cY:∀x y:Int,(Op.equalIn 9999 nb (.int .i64 x) (.int .i64 y)).run P w=.ok (x==y) w:=fun x y=>by show(Op.equalIn (9998+1) nb (.int .i64 x) (.int .i64 y)).run P w=_;rw[Op.equalIn];simp only[Sem.run_bind,aj4,Result.andThen];rfl
 have l7:∀x y:Bool,(Op.equalIn 9999 iz (.bool x) (.bool y)).run P w=.ok (x==y) w:=fun x y=>by show(Op.equalIn (9998+1) iz (.bool x) (.bool y)).run P w=_;rw[Op.equalIn];simp only[Sem.run_bind,tr,Result.andThen];rfl
 have mE:∀s:aE,(part ts s.cs.toArray 0).run P w=.ok (.string s.name) w:=fun s=>Js ty.us rfl rfl w;have n_:∀s:aE,(part nb s.cs.toArray 1).run P w=.ok (.int .i64 s.cX) w:=fun s=>Js ty.Fu rfl rfl w;have Fs:∀s:aE,(part nb s.cs.toArray 2).run P w=.ok (.int .i64 s.wt) w:=fun s=>Js ty.Fu rfl rfl w;have N8:∀s:aE,(part iz s.cs.toArray 3).run P w=.ok (.bool s.jH) w:=fun s=>Js ty.Fv rfl rfl w;have aj5:=ty.held;show(Op.equalIn (9999+1) t (.agg a.cs.toArray) (.agg b.cs.toArray)).run P w=_;rw[Op.equalIn];simp only[Sem.run_bind,hu,Result.andThen,program,Sem.run,aj5,Bool.false_eq_true,if_false];unfold qs
 cases fE:(a.name==b.name)<;>cases dT:(a.cX==b.cX)<;>cases sk:(a.wt==b.wt)<;>cases lE:(a.jH==b.jH)<;>
   simp[Sem.run_bind,Result.andThen,aQ,aT,dA,du,dy,gv,ab,ae,aF,c8,b6,hs,mE,n_,Fs,N8,dj,cY,l7,fE,dT,sk,lE,List.forIn_cons,List.forIn_nil]
variable {C:Ctx} {σ:Env} {ds:List dN} {I:aa} {δ:List ay}
def Fw:BinOp→aE→aE→Option Bool
  |.eql,a,b=>some (qs a b)
  |.neq,a,b=>some (!(qs a b))
  |_,_,_=>none
theorem Lg.VF{op:BinOp}{t t' ts nb iz:TypeId}{x y:Operand}{a b:aE}{z:Bool}(ty:Jr C.P t ts nb iz)(af:bp σ x=some a.v)(aw:bp σ y=some b.v)(a2:Fw op a b=some z):cz C σ ds I δ (.binOp op t x y t') (.bool z):=by
 have aM:∀w,(eqGuard op t x y a.v b.v).run C.P w=.ok () w:=fun w=>by have aC:=ty.guard;cases op<;>simp[Fw]at a2<;>simp[eqGuard,aE.v,program,Sem.run,aC]
 have he:∀w,(Op.equal t a.v b.v).run C.P w=.ok (qs a b) w:=aj3 ty a b;refine tf af aw aM (fun w=> ?_);have ae:∀f:Bool→Bool,(do pure (Value.bool (f (←Op.equal t a.v b.v))):Sem Value).run C.P w=.ok (.bool (f (qs a b))) w:=fun f=>by simp only[Sem.run_bind,he,Result.andThen];rfl
 cases op<;>simp only[Fw,Option.some.injEq,reduceCtorEq]at a2;subst a2;exact ae id;subst a2;exact ae not
theorem N9:Jr Tryz.prog 66 9 3 4:=
  ⟨⟨_,_,_,_,underlying66,⟨rfl,rfl,by decide⟩,⟨rfl,rfl,by decide⟩,⟨rfl,rfl,by decide⟩,rfl,rfl,by decide⟩,underlying9,underlying3,underlying4,by kernel_rfl,by kernel_rfl⟩
end
mutual
def dd:Nat→T→List (Nat×T)
  |d,.mk h ts=>(d,.mk h ts)::jI (d+1) ts
def jI:Nat→List T→List (Nat×T)
  |_,[]=> []
  |d,t::r=>dd d t++jI d r
end
mutual
theorem xA:∀(d:Nat) (t:T),(dd d t).length=t.size
  |d,.mk h ts=>by simp[dd,T.size,N_ (d+1) ts];omega
theorem N_:∀(d:Nat) (ts:List T),(jI d ts).length=bG ts
  |_,[]=>rfl
  |d,t::r=>by simp[jI,bG,xA d t,N_ d r]
end
mutual
theorem VG:∀(d:Nat) (t:T) (x:Nat×T),x∈dd d t→x.1+x.2.size≤d+t.size
  |d,.mk h ts,x,af=>by
   simp only[dd,List.mem_cons]at af;rcases af with rfl|af
   simp;have:=VH (d+1) ts x af;simp[T.size];omega
theorem VH:∀(d:Nat) (ts:List T) (x:Nat×T),x∈jI d ts→x.1+x.2.size≤d+bG ts
  |_,[],x,af=>by simp[jI]at af
  |d,t::r,x,af=>by
   simp only[jI,List.mem_append]at af;rcases af with af|af
   have:=VG d t x af;simp[bG];omega;have:=VH d r x af;simp[bG];omega
end
def ow(st:List (Nat×T)):List (Nat×T):=st.reverse.flatMap fun x=>dd x.1 x.2
theorem VI(st:List (Nat×T))(x:Nat×T):ow (st++ [x])=dd x.1 x.2++ow st:=by simp[ow]
theorem VJ(st us:List (Nat×T)):ow (st++us)=ow us++ow st:=by simp[ow]
theorem VK:∀(d:Nat) (ts:List T),jI d ts=(ts.map fun t=>(d,t)).flatMap fun x=>dd x.1 x.2
  |_,[]=>rfl
  |d,t::r=>by simp[jI,VK d r]
def kids(d:Nat)(ts:List T)(l:List Nat):List (Nat×T):=l.map fun i=>(d,ts.getD i jd)
theorem aj6(ts:List T):(List.range ts.length).map (fun i=>ts.getD i jd)=ts:=by
 apply List.ext_getElem;simp;intro i ab ae;simp at ab;simp[ab]
theorem VL(d:Nat)(ts:List T):ow (kids d ts (List.range ts.length).reverse)=jI d ts:=by
 rw[VK,ow,kids,←List.map_reverse,List.reverse_reverse];congr 1;have:(fun i=>(d,ts.getD i jd))=(fun t=>(d,t))∘(fun i=>ts.getD i jd):=rfl;rw[this,←List.map_map,aj6]
theorem aj7(st:List (Nat×T)):st.length≤(ow st).length:=by
 have key:∀l:List (Nat×T),l.length≤(l.flatMap fun x=>dd x.1 x.2).length:=fun l=>by
  induction l with
  |nil=>simp
  |cons x r aY=>have:=x.2.size_pos;simp[xA]at aY⊢;omega
 have:=key st.reverse;simpa[ow]using this
theorem VM(n k:Nat)(h:k<n):(List.range n).reverse=(List.range n).reverse.take k++(n-1-k)::(List.range n).reverse.drop (k+1):=by
 have aA:k<(List.range n).reverse.length:=by simpa using h
 have hk:(List.range n).reverse[k]=n-1-k:=by simp[List.getElem_reverse]
 rw[←hk];have ab:=List.take_append_drop k (List.range n).reverse;rw[List.drop_eq_getElem_cons aA]at ab;exact ab.symm
theorem VN(n k:Nat)(h:k<n):(List.range n).reverse.take (k+1)=(List.range n).reverse.take k++ [n-1-k]:=by
 have aA:k<(List.range n).reverse.length:=by simpa using h
 have hk:(List.range n).reverse[k]=n-1-k:=by simp[List.getElem_reverse]
 rw[List.take_succ_eq_append_getElem aA,hk]
def nK(I:aa)(xs:List Value)(st:List (Nat×T)):Prop:=
  xs.length=st.length*3∧∀i (h:i<st.length),∃s:Option Addr×Nat,xs[i*3]? =some (.int .i64 st[i].2.head)∧xs[i*3+1]? =some (.slice s.1 st[i].2.args.length s.2)∧xs[i*3+2]? =some (.int .i64 st[i].1)∧
    ba I (.agg #[.int .i64 st[i].2.head,.slice s.1 st[i].2.args.length s.2]) st[i].2
theorem nK.mono{I J:aa}{xs:List Value}{st:List (Nat×T)}(h:nK I xs st)(aA:I.le J):nK J xs st:=
  ⟨h.1,fun i aj=>let⟨s,ab,ae,aF,bb⟩:=h.2 i aj;⟨s,ab,ae,aF,bb.mono aA⟩⟩
theorem nK.one{I:aa}{d:Nat}{t:T}{a:Option Addr}{c:Nat}(h:ba I (.agg #[.int .i64 t.head,.slice a t.args.length c]) t):nK I [.int .i64 t.head,.slice a t.args.length c,.int .i64 d] [(d,t)]:=
  ⟨rfl,fun i aj=>by
   have:i=0:=by simp at aj;omega
   subst this;exact⟨(a,c),rfl,rfl,rfl,h⟩⟩
theorem nK.app{I:aa}{xs ys:List Value}{ts us:List (Nat×T)}(h:nK I xs ts)(k:nK I ys us):nK I (xs++ys) (ts++us):=by
 refine⟨by simp[h.1,k.1];omega,fun i aj=> ?_⟩;by_cases av:i<ts.length;obtain⟨s,ab,ae,aF,bb⟩:=h.2 i av;have e:(ts++us)[i]=ts[i]:=List.getElem_append_left av;rw[e];exact⟨s,by rw[List.getElem?_append_left (by rw[h.1];omega)];exact ab,by rw[List.getElem?_append_left (by rw[h.1];omega)];exact ae,by rw[List.getElem?_append_left (by rw[h.1];omega)];exact aF,bb⟩;have gJ:i-ts.length<us.length:=by simp at aj;omega
 obtain⟨s,ab,ae,aF,bb⟩:=k.2 (i-ts.length) gJ;have e:(ts++us)[i]=us[i-ts.length]:=List.getElem_append_right ah;rw[e];refine⟨s,?_,?_,?_,bb⟩;rw[List.getElem?_append_right (by rw[h.1];omega),h.1,←ab];congr 1;omega;rw[List.getElem?_append_right (by rw[h.1];omega),h.1,←ae];congr 1;omega;rw[List.getElem?_append_right (by rw[h.1];omega),h.1,←aF];congr 1;omega
theorem nK.take{I:aa}{xs:List Value}{ts:List (Nat×T)}{x:Nat×T}(h:nK I xs (ts++ [x])):nK I (xs.take (ts.length*3)) ts:=by
 refine⟨by rw[List.length_take,h.1];simp only[List.length_append,List.length_cons,List.length_nil];omega,fun i aj=> ?_⟩;obtain⟨s,ab,ae,aF,bb⟩:=h.2 i (by simp;omega);have e:(ts++ [x])[i]'(by simp;omega)=ts[i]:=List.getElem_append_left aj;rw[e]at ab ae aF bb;exact⟨s,by rw[List.getElem?_take_of_lt ah];exact ab,by rw[List.getElem?_take_of_lt ah];exact ae,by rw[List.getElem?_take_of_lt ah];exact aF,bb⟩
theorem nK.last{I:aa}{xs:List Value}{ts:List (Nat×T)}{x:Nat×T}(h:nK I xs (ts++ [x])):
 ∃s:Option Addr×Nat,kU true 3 (xs.drop (ts.length*3))=some (.agg #[.int .i64 x.2.head,.slice s.1 x.2.args.length s.2,.int .i64 x.1])∧ba I (.agg #[.int .i64 x.2.head,.slice s.1 x.2.args.length s.2]) x.2:=by
 obtain⟨s,ab,ae,aF,bb⟩:=h.2 ts.length (by simp);have e:(ts++ [x])[ts.length]'(by simp)=x:=by simp
 rw[e]at ab ae aF bb;refine⟨s,?_,bb⟩;obtain⟨pk,aQ⟩:=List.getElem?_eq_some_iff.1 ab;obtain⟨ql,aT⟩:=List.getElem?_eq_some_iff.1 ae;obtain⟨aj8,dA⟩:=List.getElem?_eq_some_iff.1 aF;rw[List.drop_eq_getElem_cons pk,List.drop_eq_getElem_cons ql,List.drop_eq_getElem_cons aj8,aQ,aT,dA];rfl
section
attribute [local irreducible] aK bf bJ
def aj9(ts:List T)(bj:Nat→Option Addr×Nat)(_:aa)(i:Nat)(vs:List Value):Prop:=
  ∃aj:i<ts.length,vs= [.int .i64 i,.agg #[.int .i64 ts[i].head,.slice (bj i).1 ts[i].args.length (bj i).2]]
theorem aj_ {I:aa} {ts:List T} {ad:Option Addr} {c b:Nat} {bj:Nat→Option Addr×Nat} (al:ts.length≤4398046511104)
 (aW:∀i (h:i<ts.length),At I ad (i*2) [.int .i64 ts[i].head,.slice (bj i).1 ts[i].args.length (bj i).2]):
 Iter Tryz.prog 218 [.pointer (some ⟨b,0,none⟩)] I [.box b 37 [.slice ad ts.length c]] (aj9 ts bj) (List.range ts.length).reverse:=by
 intro fs J δ C5 aB aw;refine a1 func218 ntmps218 fun aG=> ?_;refine a8 ?_;refine aI (gG rfl rfl rfl ah) ?_;refine a8 ?_;refine ek (fun m aL ai δ'=>∃(k:Nat) (gA:List ay),m=ts.length-k∧k≤ts.length∧aL= [(0,fs),(1,.pointer (some ⟨b,0,none⟩)),(3,.int .i64 ((ts.length:Int)-1-k))]∧I.le ai∧δ'=.box b 37 [.slice ad ts.length c]::gA∧J ((List.range ts.length).reverse.take k) ai gA) ts.length [(0,fs),(1,.pointer (some ⟨b,0,none⟩)),(3,.int .i64 ((ts.length:Int)-1))] ⟨0,δ,rfl,Nat.zero_le _,by simp,aa.le_refl _,rfl,aB⟩ ⟨rfl,rfl,rfl,trivial⟩ ?_;rintro m _ I0 _ ⟨k,gA,rfl,hk,rfl,bO,rfl,cj⟩;refine aP ?_;refine bF rfl (fun aV=> ?_) (fun aV=> ?_);have aC:0≤(ts.length:Int)-1-k:=by simpa using aV
 have av:k<ts.length:=by omega
 obtain⟨j,au⟩:∃j:Nat,j=ts.length-1-k:=⟨_,rfl⟩
 have Fx:(ts.length:Int)-1-k=(j:Nat):=by omega
 rw[Fx];have iA:j<ts.length:=by omega
 have db:=(aW j iA).isSome;have af:=VM ts.length k av;rw[←au]at af;have hG:=VN ts.length k av;rw[←au]at hG;refine bA ?_;refine aI (cC ((aW j iA).mono bO)) ?_;refine e8 rfl rfl rfl ((aw _ j _ _ _ _ af bO cj ⟨iA,rfl⟩)) (List.perm_append_comm (l₁:= [_])) ?_;rintro u0 ox Oa nc ⟨rfl,Fy⟩;refine aK.view (View.perm (List.perm_append_comm (l₂:= [_]))) ?_;rw[←hG]at Fy;refine br ?_;refine aI (gG rfl rfl rfl ah) ?_;refine go2 ?_;refine cV (ts.length-(k+1)) [(0,fs),(1,.pointer (some ⟨b,0,none⟩)),(3,.int .i64 ((j:Int)-1))] ah ⟨k+1,Oa,rfl,av,?_,aa.le_trans bO nc,rfl,Fy⟩ ⟨rfl,rfl,rfl,trivial⟩;rw[show(j:Int)-1=(ts.length:Int)-1-((k+1:Nat):Int)by omega];have aC:¬0≤(ts.length:Int)-1-k:=by simpa using aV
 have bV:k=ts.length:=by omega
 have cE:(List.range ts.length).reverse.take k=(List.range ts.length).reverse:=List.take_of_length_le (by simp;omega);rw[cE]at cj;refine a8 ?_;refine pb (rs:= []) rfl (List.Perm.refl _) .nil (List.Sublist.refl _) ⟨gA,cj,rfl⟩
theorem aka{I:aa}{s:Value}:
 aS Tryz.prog 190 [s] I [] (fun v ai δ'=>∃b,v=.func (.func 218) #[] #[.pointer (some ⟨b,0,none⟩)]∧δ'= [.box b 37 (c9 s)]):=by
 refine a1 func190 ntmps190 fun aG=> ?_;refine go2 ?_;refine bw fun e2=> ?_;refine b_ ?_;refine dY ?_;exact⟨e2,rfl,rfl⟩
theorem VO{I:aa}{h s:Value}:
 aS Tryz.prog 143 [.agg #[h,s]] I [] (fun v ai δ'=>∃b,v=.func (.func 189) #[] #[.pointer (some ⟨b,0,none⟩)]∧δ'= [.box b 41 [h,s]]):=by
 refine a1 func143 ntmps143 fun aG=> ?_;refine go2 ?_;refine bw fun e2=> ?_;refine b_ ?_;refine dY ?_;exact⟨e2,rfl,rfl⟩
end
theorem Lg.aK.gK {C:Ctx} {Q:Exit→Act→World→Prop} {σ:Env} {ds:List dN} {I:aa} {δ:List ay} {ops:Array Oper} {rest:List Oper} {A:Option Addr} {c n size:Nat} {e:TypeId} {xs:List Value} (aH:Has δ (.row (.slice A n c) e size n xs)) (aD:0<n)
 (h:A.isSome=true→n≤c→aK C ops Q rest σ ds I δ):aK C ops Q rest σ ds I δ:=by
 intro a w he ao ar;have an:w.ownsRow 0 e size (.slice A n c) n xs:=ao.dQ _ aH.mem;rcases an.2 with⟨ab,ae⟩|⟨g,cap,cur,ab,_,_,aF,_⟩
 omega;cases ab;exact h rfl aF a w he ao ar
theorem VP(d:Nat)(u:T):dd d u=(d,u)::jI (d+1) u.args:=by cases u;rfl
def akb(I:aa)(x:Nat×T)(vs:List Value):Prop:=
  ∃a c,vs= [.int .i64 x.1,.agg #[.int .i64 x.2.head,.slice a x.2.args.length c]]∧ba I (.agg #[.int .i64 x.2.head,.slice a x.2.args.length c]) x.2
theorem VQ{I:aa}{t:T}{ad:Option Addr}{c b:Nat}(ax:ba I (.agg #[.int .i64 t.head,.slice ad t.args.length c]) t)(g_:t.size≤1000000000):
 Iter Tryz.prog 189 [.pointer (some ⟨b,0,none⟩)] I [.box b 41 [.int .i64 t.head,.slice ad t.args.length c]] akb (dd 1 t):=by
 intro fs J δ C5 aB aw;refine a1 func189 ntmps189 fun aG=> ?_;refine a8 ?_;refine c_ fun hH=> ?_;refine bh fun b3=> ?_;refine a8 ?_;refine Uc (fun m aL c0 ai δ'=>∃(pre st:List (Nat×T)) (cX:Option Addr) (dH:Nat) (xs:List Value) (gA:List ay),m=(ow st).length∧aL= [(0,fs),(1,.pointer (some ⟨b,0,none⟩)),(3,.pointer (some ⟨b3,0,none⟩))]∧I.le ai∧δ'=.box b3 275 [.slice cX st.length dH]:: .row (.slice cX st.length dH) 274 3 st.length xs:: .box b 41 [.int .i64 t.head,.slice ad t.args.length c]::(q8 c0++gA)∧J pre ai gA∧nK ai xs st∧pre++ow st=dd 1 t) (ow [(1,t)]).length [(0,fs),(1,.pointer (some ⟨b,0,none⟩)),(3,.pointer (some ⟨b3,0,none⟩))] ⟨[],[(1,t)],_,_,_,δ,rfl,rfl,aa.le_refl _,rfl,aB,nK.one ax,by simp[ow]⟩ ⟨rfl,rfl,rfl,trivial⟩ ?_;rintro m _ Jt I0 _ ⟨pre,st,cX,dH,xs,gA,rfl,rfl,bO,rfl,cj,bm,cE⟩;refine bg ?_;refine bF rfl (fun aV=> ?_) (fun aV=> ?_);rcases List.eq_nil_or_concat st with rfl|⟨ew,⟨d,u⟩,rfl⟩
 simp at aV;rw[List.concat_eq_append]at*;have hlen:(ew++ [(d,u)]).length=ew.length+1:=by simp
 rw[hlen];obtain⟨⟨iS,gj⟩,nL,Fz⟩:=bm.last;have k5:=bm.take;dsimp only at nL Fz;rw[VI,VP]at cE;have akc:=VG 1 t (d,u) (by rw[←cE];simp);have bD:=congrArg List.length cE;have qc:=aj7 ew;have lD:=xv u.args;simp only[List.length_append,List.length_cons,xA,N_]at bD;dsimp only at akc;refine a_ ?_;refine aK.gK (Has.there Has.here) ah (fun bo eV=> ?_);refine aR ?_;refine aI (gG rfl rfl rfl ah) ?_;rw[show((ew.length+1:Nat):Int)-1=(ew.length:Nat)by omega];refine aX ?_;refine aI (gH UM rfl (Has.there Has.here) bo nL) ?_;refine bh fun b4=> ?_;refine bg ?_;refine aI (gG rfl rfl rfl ah) ?_;rw[show((ew.length+1:Nat):Int)-1=(ew.length:Nat)by omega];refine aI (m7 underlying275 UN rfl rfl ah) ?_;refine aZ ?_;refine aK.view (View.short _ (bc.there (bc.there bc.here)) (Nat.le_succ _)) ?_;refine a_ ?_;refine e8 rfl rfl rfl ((aw pre (d,u) _ _ _ _ cE.symm bO cj ⟨iS,gj,rfl,Fz⟩)) (List.perm_append_comm (l₁:=_::_::_::_::q8 Jt)) ?_;rintro v29 tt Ju px ⟨rfl,akd⟩;refine aK.view (View.perm (List.perm_append_comm (l₂:=_::_::_::_::q8 Jt))) ?_;refine bA ?_;refine bN rfl aka ?_;rintro yZ qt _ py ⟨Ob,rfl,rfl⟩;refine aR ?_;obtain⟨_,_,Oc,Jv,tr,bj,C6,C7⟩:=(Fz.mono (aa.le_trans px py)).open;refine IN (δb:= [_,_,_]) (B:=fun l ai δ'=>∃(cX:Option Addr) (dH:Nat) (xs:List Value),δ'= [.box b4 274 [.int .i64 u.head,.slice iS u.args.length gj,.int .i64 d],.box b3 275 [.slice cX (ew++kids (d+1) u.args l).length dH],.row (.slice cX (ew++kids (d+1) u.args l).length dH) 274 3 (ew++kids (d+1) u.args l).length xs]∧nK ai xs (ew++kids (d+1) u.args l)) rfl rfl ajc rfl (aj_ tr C6) (List.Perm.refl _) ⟨cX,dH,_,by simp[kids];rfl,by simpa[kids]using k5.mono (aa.le_trans px py)⟩ (by rintro _ _ _ ⟨_,rfl⟩;rfl) (by rintro l en dV _ hle ⟨cX,dH,xs,rfl,an⟩;exact⟨cX,dH,xs,rfl,an.mono hle⟩) ?_ ?_;rintro l r hp qu j ax3 dV _ _ e1 hI hG k6 ⟨cX,dH,xs,rfl,hg⟩ ⟨iA,rfl⟩;have dr:=congrArg List.length hG;have hk2:(ew++kids (d+1) u.args qu).length=ew.length+qu.length:=by simp[kids]
 have VR:ew++kids (d+1) u.args (qu++ [j])=(ew++kids (d+1) u.args qu)++ [(d+1,u.args[j])]:=by simp[kids,iA]
 have y0:(d:Int)+1=((d+1:Nat):Int):=by omega
 simp only[List.length_reverse,List.length_range,List.length_append,List.length_cons]at dr;refine aX ?_;refine bh fun c1=> ?_;refine go2 ?_;refine yP e1 (bc.there bc.here) ?_;refine aP ?_;rw[y0];refine aX ?_;refine c_ fun ake=> ?_;refine gl fun a44 C8=> ?_;refine aR ?_;refine bf.view ((View.drop aO.here).trans (View.drop aO.here)) ?_;refine oc bc.here e1 hI ⟨rfl,_,rfl,a44,C8,xs++ [.int .i64 u.args[j].head,.slice (bj j).1 u.args[j].args.length (bj j).2,.int .i64 ((d+1:Nat):Int)],?_,?_⟩;rw[VR];simp only[List.length_append,List.length_cons,List.length_nil];rfl;rw[VR];exact hg.app (nK.one ((C7 j iA).mono k6));rintro gR wi _ tu ⟨cX,dH,xs,rfl,Od⟩;refine go2 ?_;refine bf.view ((View.drop (aO.there aO.here)).trans ((View.drop (aO.there aO.here)).trans (View.perm (List.perm_middle (l₁:= [_,_,_])).symm))) ?_;refine Ud (ow (ew++kids (d+1) u.args (List.range u.args.length).reverse)).length [(0,fs),(1,.pointer (some ⟨b,0,none⟩)),(3,.pointer (some ⟨b3,0,none⟩))] ?_ ⟨pre++ [(d,u)],_,cX,dH,xs,Ju,rfl,rfl,aa.le_trans bO (aa.le_trans px (aa.le_trans py tu)),rfl,?_,Od,?_⟩ ⟨rfl,rfl,rfl,trivial⟩;rw[VJ,VL,VI,VP];simp;exact C5 _ _ _ _ (aa.le_trans py tu) akd;rw[VJ,VL];simpa using cE;have ch:st= []:=by simpa using aV
 subst ch;have az:pre=dd 1 t:=by simpa[ow]using cE
 subst az;refine a8 ?_;refine pb (rs:= []) rfl (List.perm_append_comm_assoc [_,_,_] _ _) .nil (List.Sublist.cons _ (List.Sublist.cons _ (List.Sublist.refl _))) ⟨gA,cj,rfl⟩
mutual
def pz:T→Nat
  |.mk _ ts=>1+qv ts
def qv:List T→Nat
  | []=>0
  |t::r=>max (pz t) (qv r)
end
def h5(l:List (Nat×T)):Nat:=l.foldl (fun m x=>max m x.1) 0
theorem akf(l:List (Nat×T))(x:Nat×T):h5 (l++ [x])=max (h5 l) x.1:=by simp[h5]
theorem foldl_max(l:List (Nat×T))(m:Nat):l.foldl (fun m x=>max m x.1) m=max m (h5 l):=by
 induction l generalizing m with
 |nil=>simp[h5]
 |cons x r aY=>rw[h5,List.foldl_cons,List.foldl_cons,aY,aY];omega
theorem akg(l r:List (Nat×T)):h5 (l++r)=max (h5 l) (h5 r):=by rw[h5,List.foldl_append,foldl_max];rfl
theorem akh(x:Nat×T)(r:List (Nat×T)):h5 (x::r)=max x.1 (h5 r):=by rw[h5,List.foldl_cons,foldl_max];omega
mutual
theorem VS:∀(d:Nat) (t:T),h5 (dd d t)+1=d+pz t
  |d,.mk h ts=>by
   rw[dd,akh];have:=VT (d+1) ts;simp only[pz];rcases this with⟨rfl,ab⟩|ab
   simp[jI,h5,qv];omega
theorem VT:∀(d:Nat) (ts:List T),(ts= []∧h5 (jI d ts)=0)∨h5 (jI d ts)+1=d+qv ts
  |d,[]=>.inl ⟨rfl,rfl⟩
  |d,t::r=>by
   right;rw[jI,akg];have ab:=VS d t;have aH:1≤pz t:=by cases t;simp[pz]
   simp only[qv];rcases VT d r with⟨an,ae⟩|ae
   subst an;have aF:qv ([]:List T)=0:=by simp[qv]
   rw[ae,aF];omega;omega
end
theorem aki(t:T):h5 (dd 1 t)=pz t:=by have:=VS 1 t;omega
section
attribute [local irreducible] aK bf bJ
theorem u1{cs:List Value}{o:Nat}{x:Value}(h:cs[o]? =some x):kU false 1 (cs.drop o)=some x:=by
 obtain⟨aA,rfl⟩:=List.getElem?_eq_some_iff.1 h;rw[List.drop_eq_getElem_cons aA];rfl
abbrev f_(cX:Option Addr)(dH:Nat)(xs:List Int):ay:=.row (.slice cX xs.length dH) 3 1 xs.length (xs.map (Value.int .i64))
theorem akj{I:aa}{cX:Option Addr}{dH:Nat}{xs:List Int}{x:Int}(al:xs.length≤1000000000):
 aS Tryz.prog 101 [.slice cX xs.length dH,.int .i64 x] I [f_ cX dH xs] (fun v ai δ'=>(∃n:Int,v=.int .i64 n∧(0≤n↔x∈xs))∧δ'= [f_ cX dH xs]):=by
 refine a1 func101 ntmps101 fun aG=> ?_;refine dn ?_;refine ek (fun m aL ai δ'=>∃k:Nat,m=xs.length-k∧aL= [(0,.slice cX xs.length dH),(1,.int .i64 x),(7,.int .i64 xs.length),(8,.int .i64 k)]∧ai=I∧δ'= [f_ cX dH xs]∧k≤xs.length∧x∉xs.take k) (xs.length-0) [(0,.slice cX xs.length dH),(1,.int .i64 x),(7,.int .i64 xs.length),(8,.int .i64 (0:Nat))] ⟨0,rfl,rfl,rfl,rfl,⟨Nat.zero_le _,by simp⟩⟩ ⟨rfl,rfl,rfl,rfl,trivial⟩ ?_;rintro m _ _ _ ⟨k,rfl,rfl,rfl,rfl,az⟩;obtain⟨hk,az⟩:=az;refine aZ ?_;refine bF rfl (fun aV=> ?_) (fun aV=> ?_);have av:k<xs.length:=by simpa using aV
 refine bW ?_;refine aK.gK Has.here ah (fun bo eV=> ?_);refine a8 ?_;refine aI (gH l8 rfl Has.here bo (u1 (x:=.int .i64 xs[k]) (by simp[av]))) ?_;refine aR ?_;refine bF rfl (fun bq=> ?_) (fun bq=> ?_);have heq:x=xs[k]:=by simpa using bq
 refine bW ?_;refine dY ?_;exact⟨⟨k,rfl,by rw[heq];simp⟩,rfl⟩;have cu:x≠xs[k]:=by simpa using bq
 refine aP ?_;refine cV (xs.length-(k+1)) [(0,.slice cX xs.length dH),(1,.int .i64 x),(7,.int .i64 xs.length),(8,.int .i64 (k+1:Nat))] ah ⟨k+1,rfl,rfl,rfl,rfl,⟨av,by rw[List.take_succ_eq_append_getElem av,List.mem_append,List.mem_singleton];exact fun h=>h.elim az cu⟩⟩ ⟨rfl,rfl,rfl,rfl,trivial⟩;have bV:k=xs.length:=by simp at aV;omega
 subst bV;rw[List.take_length]at az;refine bA ?_;refine dY ?_;exact⟨⟨-1,rfl,by simp[az]⟩,rfl⟩
theorem Oe{I:aa}{cX:Option Addr}{dH:Nat}{xs:List Int}{x:Int}(al:xs.length≤1000000000):
 aS Tryz.prog 64 [.slice cX xs.length dH,.int .i64 x] I [f_ cX dH xs] (fun v ai δ'=>v=.bool (decide (x∈xs))∧δ'= [f_ cX dH xs]):=by
 refine a1 func64 ntmps64 fun aG=> ?_;refine br ?_;refine hr rfl (akj al) ?_;rintro mM je _ kA ⟨⟨n7,rfl,akk⟩,rfl⟩;refine a_ ?_;refine dY ?_;exact⟨xu (by simp[akk]),rfl⟩
theorem VU{I:aa}{x:Int}:aS Tryz.prog 202 [.int .i64 x] I [] (fun v ai δ'=>v=.bool false∧δ'= []):=by
 refine a1 func202 ntmps202 fun aG=> ?_;refine dn ?_;refine bn ?_;exact⟨xu (by simp),rfl⟩
theorem VV{I:aa}{a b:Int}:aS Tryz.prog 204 [.int .i64 a,.int .i64 b] I [] (fun v ai δ'=>v=.int .i64 (k3 a b)∧δ'= []):=by
 refine a1 func204 ntmps204 fun aG=> ?_;refine bg ?_;refine bN rfl VU ?_;rintro so jt _ jJ ⟨rfl,rfl⟩;refine aZ ?_;refine bN rfl VU ?_;rintro v10 j4 _ kB ⟨rfl,rfl⟩;refine C1 ?_;refine bF rfl (fun fV=> ?_) (fun fV=> ?_);have ab:a<b:=by simpa using fV
 refine aP ?_;refine bn ?_;exact⟨by simp[dF,k3,ab],rfl⟩;have ab:¬a<b:=by simpa using fV
 refine b_ ?_;refine bF rfl (fun u2=> ?_) (fun u2=> ?_);have ae:b<a:=by simpa using u2
 refine aP ?_;refine bn ?_;exact⟨by simp[dF,k3,ab,ae],rfl⟩;have ae:¬b<a:=by simpa using u2
 refine bg ?_;refine bn ?_;exact⟨by simp[dF,k3,ab,ae],rfl⟩
def nM:List Int→Int
  | []=>0
  |x::r=>if x≠0 then x else nM r
theorem akl{I:aa}{v:Value}{xs:List Int}(h:bY I v xs):aS Tryz.prog 203 [v] I [] (fun v ai δ'=>v=.int .i64 (nM xs)∧δ'= []):=by
 obtain⟨ad,c,xs,aq,al,aW,an⟩:=h;refine a1 func203 ntmps203 fun aG=> ?_;refine ic ?_;refine ek (fun m aL ai δ'=>∃k:Nat,m=xs.length-k∧aL= [(3,.int .i64 0),(6,.slice ad xs.length c),(7,.int .i64 xs.length),(8,.int .i64 k)]∧ai=I∧δ'= []∧k≤xs.length∧nM xs=nM (xs.drop k)) (xs.length-0) [(3,.int .i64 0),(6,.slice ad xs.length c),(7,.int .i64 xs.length),(8,.int .i64 (0:Nat))] ⟨0,rfl,rfl,rfl,rfl,⟨Nat.zero_le _,rfl⟩⟩ ⟨rfl,rfl,rfl,rfl,trivial⟩ ?_;rintro m _ _ _ ⟨k,rfl,rfl,rfl,rfl,az⟩;obtain⟨hk,az⟩:=az;refine aZ ?_;refine bF rfl (fun aV=> ?_) (fun aV=> ?_);have av:k<xs.length:=by simpa using aV
 have db:=C3 aW k av;rw[List.drop_eq_getElem_cons av]at az;refine aP ?_;refine aI (cC (ints_at aW k av)) ?_;refine b_ ?_;refine bF rfl (fun bq=> ?_) (fun bq=> ?_);have cu:xs[k]≠0:=by simpa using bq
 refine bW ?_;refine bn ?_;exact⟨by simp[dF,az,nM,cu],rfl⟩;have heq:xs[k]=0:=by simpa using bq
 refine aP ?_;refine cV (xs.length-(k+1)) [(3,.int .i64 0),(6,.slice ad xs.length c),(7,.int .i64 xs.length),(8,.int .i64 (k+1:Nat))] ah ⟨k+1,rfl,rfl,rfl,rfl,⟨av,by rw[az];simp[nM,heq]⟩⟩ ⟨rfl,rfl,rfl,rfl,trivial⟩;have bV:k=xs.length:=by simp at aV;omega
 subst bV;rw[List.drop_length]at az;refine bW ?_;refine bn ?_;exact⟨by simp[dF,az,nM],rfl⟩
theorem akm:∀(n:Nat) (t:T),t.size≤n→∀(q:Nat),q≤1000000000→∀(I:aa) (v:Value),ba I v t→
 aS Tryz.prog 8 [v,.int .i64 q] I [] (fun v ai δ'=>v=.int .i64 ((min t.size (q+1):Nat):Int)∧δ'= []):=by
 intro n
 induction n with
 |zero=>intro t ar;have:=t.size_pos;omega
 |succ n aY=>
  intro t ar q aC I v ax;obtain⟨h,ts⟩:=t;obtain⟨ad,c,bj,rfl,an,aq,al,aW,bT⟩:=ax.elim;have bD:(T.mk h ts).size=1+bG ts:=by simp[T.size]
  refine a1 func8 ntmps8 fun aG=> ?_;refine go2 ?_;refine bw fun b2=> ?_;refine gk ?_;refine ek (fun m aL ai δ'=>∃k a:Nat,m=ts.length-k∧k≤ts.length∧aL= [(1,.int .i64 q),(2,.pointer (some ⟨b2,0,none⟩)),(5,.int .i64 a),(6,.int .i64 k)]∧I.le ai∧δ'= [.box b2 41 [.int .i64 h,.slice ad ts.length c]]∧a≤q+1∧min (a+bG (ts.drop k)) (q+1)=min (1+bG ts) (q+1)) ts.length [(1,.int .i64 q),(2,.pointer (some ⟨b2,0,none⟩)),(5,.int .i64 (1:Nat)),(6,.int .i64 (0:Nat))] ⟨0,1,rfl,Nat.zero_le _,rfl,aa.le_refl _,rfl,by omega,rfl⟩ ⟨rfl,rfl,rfl,rfl,trivial⟩ ?_;rintro m _ I0 _ ⟨k,a,rfl,hk,rfl,bO,rfl,bk,az⟩;refine aP ?_;by_cases av:k<ts.length;refine a8 ?_;by_cases hle:a≤q;refine b_ ?_;have db:=(aW k av).isSome;have aH:=ajL ts k av;have hm:=pt ts k av;refine a_ ?_;refine aI (cC ((aW k av).mono bO)) ?_;refine go2 ?_;refine aI (gG (c:=((q-a:Nat):Int)) rfl rfl ah ah) ?_;refine bN rfl (aY ts[k] ah (q-a) ah _ _ ((bT k av).mono bO)) ?_;rintro _ oy _ qw ⟨rfl,rfl⟩;refine b_ ?_;refine cV (ts.length-(k+1)) [(1,.int .i64 q),(2,.pointer (some ⟨b2,0,none⟩)),(5,.int .i64 ((a+min ts[k].size (q-a+1):Nat):Int)),(6,.int .i64 ((k+1:Nat):Int))] ah ⟨k+1,a+min ts[k].size (q-a+1),rfl,av,rfl,aa.le_trans bO qw,rfl,by omega,by omega⟩ ⟨rfl,rfl,rfl,rfl,trivial⟩;refine fx ?_;refine bn ?_;exact⟨by simp only[dF,bD,←az];congr 2;omega,rfl⟩;refine xo ?_;refine bn ?_;rw[List.drop_eq_nil_of_le ah]at az;simp only[bG]at az;exact⟨by simp only[dF,bD,←az];congr 2;omega,rfl⟩
end
def AtR(t:T)(p:List Int)(v:Value)(I:aa):Prop:=∃u,v=.tuple #[u,.bool (cO t p).isSome]∧ba I u ((cO t p).getD jd)
section
attribute [local irreducible] aK bf bJ
theorem FA(I:aa){ad:Option Addr}{n c:Nat}{xs:List Value}(aq:Cells I ad xs)(aA:xs.length=n*2)(ab:∀u∈xs,u.oneCell'=true)(aD:n≤4398046511104):
 aS Tryz.prog 106 [.slice ad n c] I [] (fun v ai δ'=>∃qn cJ,v=.slice qn n cJ∧δ'= [.row (.slice qn n cJ) 41 2 n xs]):=by
 refine a1 func106 ntmps106 fun aG=> ?_;refine br ?_;refine aI (EJ underlying37 rfl rfl rfl) ?_;refine go2 ?_;refine bF rfl (fun aV=> ?_) (fun aV=> ?_);have l3:ad=none:=by simpa using aV
 subst l3
 have kW:n=0:=by
  rcases Nat.eq_zero_or_pos n with h|h
  exact h;exfalso;have:=aq 0 (xs[0]'(by omega)) (by simp);simp[aa.nw]at this
 subst kW;obtain rfl:xs= []:=List.eq_nil_of_length_eq_zero aA;refine aP ?_;refine bf.view (View.gh 41 2) (dv (rs:= [.tmp 2]) rfl (List.Perm.refl _) (.cons (.tmp rfl) .nil) (List.Sublist.refl _) ⟨none,0,rfl,rfl⟩);refine a8 ?_;refine c_ fun b5=> ?_;refine aX ?_;refine mL rfl rfl (Src.m8 aq) aA ab (fun j5 j6=> ?_);refine a8 ?_;refine dY ?_;refine⟨j5,j6,?_,?_⟩;simp[dF];simp[cat]
theorem Of(p:List Int)(t:T)(I:aa)(v ma:Value)(ax:ba I v t)(az:bY I ma p):
 aS Tryz.prog 188 [v,ma] I [] (fun v ai δ'=>AtR t p v ai∧δ'= []):=by
 obtain⟨ad,c,rfl,ib⟩:=ax.shape;obtain⟨y1,e,p,C9,Jw,wj,j7⟩:=az;refine a1 func188 ntmps188 fun aG=> ?_;refine go2 ?_;refine bw fun b2=> ?_;refine bh fun b4=> ?_;refine bW ?_;refine ek (fun m aL ai δ'=>∃(k:Nat) (u:T) (A1:Option Addr) (cK:Nat),m=p.length-k∧k≤p.length∧aL= [(2,.pointer (some ⟨b2,0,none⟩)),(4,.pointer (some ⟨b4,0,none⟩)),(8,.slice y1 p.length e),(9,.int .i64 p.length),(10,.int .i64 k)]∧ai=I∧δ'= [.box b4 41 [.int .i64 0,.slice none 0 0],.box b2 41 [.int .i64 u.head,.slice A1 u.args.length cK]]∧ba I (.agg #[.int .i64 u.head,.slice A1 u.args.length cK]) u∧cO t p=cO u (p.drop k)) p.length [(2,.pointer (some ⟨b2,0,none⟩)),(4,.pointer (some ⟨b4,0,none⟩)),(8,.slice y1 p.length e),(9,.int .i64 p.length),(10,.int .i64 (0:Nat))] ⟨0,t,ad,c,rfl,Nat.zero_le _,rfl,rfl,rfl,ax,rfl⟩ ⟨rfl,rfl,rfl,rfl,rfl,trivial⟩ ?_;rintro m _ _ _ ⟨k,u,A1,cK,rfl,hk,rfl,rfl,rfl,hu,aW⟩;obtain⟨_,_,Oc,Jv,tr,bj,C6,C7⟩:=hu.open;refine aZ ?_;refine bF rfl (fun aV=> ?_) (fun aV=> ?_);have av:k<p.length:=by simpa using aV
 have db:=C3 wj k av;have xB:p.drop k=p[k]::p.drop (k+1):=List.drop_eq_getElem_cons av;refine aP ?_;refine aI (cC (ints_at wj k av)) ?_;refine aP ?_;by_cases af:p[k]<0;refine Fk ?_;refine bn ?_;have aD:cO t p=none:=by rw[aW,xB];simp[cO,show¬0≤p[k]by omega]
 exact⟨⟨_,by rw[aD];rfl,by rw[aD];exact sn _⟩,rfl⟩;refine aZ ?_;by_cases Og:p[k]<u.args.length;refine bA ?_;obtain⟨i,aj⟩:=Int.eq_ofNat_of_zero_le (show 0≤p[k]by omega);rw[aj];have e0:i<u.args.length:=by omega
 have gr:=(C6 i e0).isSome;refine aX ?_;refine aI (cC (C6 i e0)) ?_;refine bg ?_;refine cV (p.length-(k+1)) [(2,.pointer (some ⟨b2,0,none⟩)),(4,.pointer (some ⟨b4,0,none⟩)),(8,.slice y1 p.length e),(9,.int .i64 p.length),(10,.int .i64 ((k+1:Nat):Int))] ah ⟨k+1,u.args[i],_,_,rfl,av,rfl,rfl,rfl,C7 i e0,?_⟩ ⟨rfl,rfl,rfl,rfl,rfl,trivial⟩;rw[aW,xB];simp[cO,aj,e0];refine ic ?_;refine bn ?_;have aD:cO t p=none:=by rw[aW,xB];simp[cO,show¬(p[k].toNat<u.args.length)by omega]
 exact⟨⟨_,by rw[aD];rfl,by rw[aD];exact sn _⟩,rfl⟩;have bV:k=p.length:=by simp at aV;omega
 subst bV;rw[List.drop_length]at aW;refine cT ?_;refine bn ?_;have aD:cO t p=some u:=by rw[aW];rfl
 exact⟨⟨_,by rw[aD];rfl,by rw[aD];exact hu⟩,rfl⟩
theorem Lg.df.three{δ dx cI VW:List ay}{x y z:ay}(h:aO δ x dx)(k:aO dx y cI)(l:aO cI z VW):df δ [x,y,z] VW:=h.perm.trans (List.Perm.cons _ (df.two k l))
theorem Oh{I:aa}{v:Value}{xs:List Int}(h:bY I v xs):
 aS Tryz.prog 37 [v] I [] (fun v ai δ'=>∃qn cJ,v=.slice qn xs.length cJ∧δ'= [.row (.slice qn xs.length cJ) 3 1 xs.length (xs.map (Value.int .i64))]):=by
 obtain⟨ad,c,xs,aq,al,aW,an⟩:=h;refine a1 func37 ntmps37 fun aG=> ?_;refine br ?_;refine aI (EJ underlying45 rfl rfl rfl) ?_;refine go2 ?_;refine bF rfl (fun aV=> ?_) (fun aV=> ?_);have l3:ad=none:=by simpa using aV
 subst l3
 have kW:xs= []:=by
  rcases xs with _|⟨x,r⟩
  rfl;exact absurd (aW 0 (.int .i64 x) rfl) (by simp[aa.nw])
 subst kW;refine aP ?_;refine bf.view (View.gh 3 1) (dv (rs:= [.tmp 2]) rfl (List.Perm.refl _) (.cons (.tmp rfl) .nil) (List.Sublist.refl _) ⟨none,0,rfl,rfl⟩);refine a8 ?_;refine c_ fun b5=> ?_;refine aX ?_;refine mL rfl rfl (Src.m8 aW) (by simp) (by intro u hu;obtain⟨x,_,rfl⟩:=List.mem_map.1 hu;rfl) (fun j5 j6=> ?_);refine a8 ?_;refine dY ?_;refine⟨j5,j6,?_,?_⟩;simp[dF];simp[cat]
theorem bY.of{I:aa}{ad:Option Addr}{n c:Nat}{xs:List Int}(aD:n=xs.length)(aq:n≤c)(al:n≤17592186044416)(aW:Cells I ad (xs.map (Value.int .i64)))(an:∀x∈xs,dZ x):bY I (.slice ad n c) xs:=by
 subst aD;exact⟨ad,c,xs,aq,al,aW,an⟩
theorem bY.len{I:aa}{v:Value}{xs:List Int}(h:bY I v xs):xs.length≤17592186044416∧∀x∈xs,dZ x:=by
 obtain⟨ad,c,xs,aq,al,aW,an⟩:=h;exact⟨al,an⟩
theorem bY.shape{I:aa}{v:Value}{xs:List Int}(h:bY I v xs):∃ad c,v=.slice ad xs.length c:=by
 obtain⟨ad,c,xs,_,_,_,_⟩:=h;exact⟨ad,c,rfl⟩
theorem bY.rp{I:aa}{a:Option Addr}{n c:Nat}{xs:List Int}(h:bY I (.slice a n c) xs)(i:Nat)(aj:i<xs.length):At I a (i*1) [.int .i64 xs[i]]:=by
 generalize e:Value.slice a n c=v at h;obtain⟨ad,cJ,xs,aq,al,aW,an⟩:=h;cases e;exact ints_at aW i aj
theorem VX{I:aa}{v u:Value}{xs ys:List Int}(h:bY I v xs)(k:bY I u ys)(aA:xs.length+ys.length≤17592186044416):
 aS Tryz.prog 217 [v,u] I [] (fun v ai δ'=>bY ai v (xs++ys)∧δ'= []):=by
 obtain⟨gT,e,ys,ax4,CJ,tv,A2⟩:=k;refine a1 func217 ntmps217 fun aG=> ?_;refine bg ?_;refine bN rfl (Oh h) ?_;rintro v6 wk _ tw ⟨ax5,ax6,rfl,rfl⟩;refine aX ?_;refine mL rfl rfl (Src.m8 (tv.mono tw)) (by simp) (by intro u hu;obtain⟨x,_,rfl⟩:=List.mem_map.1 hu;rfl) (fun FB FC=> ?_);refine aK.dO aO.here ?_;rintro jt cX dH jJ mc eV iT ep;cases mc;refine a8 ?_;refine bn ?_;refine⟨bY.of (by simp) eV ah (by simpa using ep) (fun x af=> ?_),rfl⟩;rcases List.mem_append.1 af with af|af
 exact h.len.2 x af;exact A2 x af
def qx(I:aa)(xs:List Value)(cp:List (List Int)):Prop:=xs.length=cp.length∧∀i (h:i<cp.length),∃v,xs[i]? =some v∧bY I v cp[i]
theorem qx.nil(I:aa):qx I [] []:=⟨rfl,fun i h=>by simp at h⟩
theorem qx.mono{I J:aa}{xs:List Value}{cp:List (List Int)}(h:qx I xs cp)(aA:I.le J):qx J xs cp:=
  ⟨h.1,fun i aj=>let⟨v,ab,ae⟩:=h.2 i aj;⟨v,ab,ae.mono aA⟩⟩
theorem qx.snoc{I:aa}{xs:List Value}{cp:List (List Int)}{v:Value}{p:List Int}(h:qx I xs cp)(k:bY I v p):qx I (xs++ [v]) (cp++ [p]):=by
 refine⟨by simp[h.1],fun i aj=> ?_⟩;by_cases av:i<cp.length;obtain⟨u,ab,ae⟩:=h.2 i av;rw[List.getElem_append_left av];exact⟨u,by rw[List.getElem?_append_left (by rw[h.1];exact av)];exact ab,ae⟩;have gJ:i=cp.length:=by simp at aj;omega
 subst gJ;have e:(cp++ [p])[cp.length]=p:=by simp
 rw[e];exact⟨v,by rw[←h.1];simp,k⟩
inductive y2(I:aa):Value→List (List Int)→Prop
  |mk (ad:Option Addr) (c:Nat) (xs:List Value) (cp:List (List Int)) (aq:cp.length≤c) (al:cp.length≤4398046511104) (aW:Cells I ad xs) (an:qx I xs cp):y2 I (.slice ad cp.length c) cp
theorem y2.of{I:aa}{ad:Option Addr}{n c:Nat}{xs:List Value}{cp:List (List Int)}(aD:n=cp.length)(aq:n≤c)(al:n≤4398046511104)(aW:Cells I ad xs)(an:qx I xs cp):y2 I (.slice ad n c) cp:=by
 subst aD;exact⟨ad,c,xs,cp,aq,al,aW,an⟩
theorem y2.get{I:aa}{ad:Option Addr}{xs:List Value}{cp:List (List Int)}(aW:Cells I ad xs)(an:qx I xs cp)(i:Nat)(h:i<cp.length):
 ∃(FD:Option Addr) (tx:Nat),At I ad (i*1) [.slice FD cp[i].length tx]∧bY I (.slice FD cp[i].length tx) cp[i]:=by
 obtain⟨v,ab,ae⟩:=an.2 i h;generalize he:cp[i]=p at ae;obtain⟨qn,c,p,_,_,_,_⟩:=ae;refine⟨qn,c,aW.at _ fun j u au=> ?_,⟨qn,c,p,‹_›,‹_›,‹_›,‹_›⟩⟩;rcases j with _|j
 simp at au;subst au;simpa using ab;simp at au
end
mutual
def iU:T→List (List Int)
  |.mk _ ts=> []::qy 0 ts
def qy:Nat→List T→List (List Int)
  |_,[]=> []
  |i,t::r=>(iU t).map ((i:Int)::·)++qy (i+1) r
end
mutual
theorem C_:∀t:T,(iU t).length=t.size
  |.mk h ts=>by simp[iU,T.size,VY 0 ts];omega
theorem VY:∀(i:Nat) (ts:List T),(qy i ts).length=bG ts
  |_,[]=>rfl
  |i,t::r=>by simp[qy,bG,C_ t,VY (i+1) r]
end
theorem akn(ts:List T)(k:Nat)(h:k<ts.length):qy k (ts.drop k)=(iU ts[k]).map ((k:Int)::·)++qy (k+1) (ts.drop (k+1)):=by
 rw[List.drop_eq_getElem_cons h];simp[qy]
section
attribute [local irreducible] aK bf bJ
theorem ako:∀(n:Nat) (t:T),t.size≤n→∀(p:List Int) (cur:List (List Int)),p.length+t.size≤1000000000→cur.length+t.size≤1000000000→
 ∀(I:aa) (v ma:Value) (dU qz:Nat) (cX:Option Addr) (dH:Nat) (xs:List Value),ba I v t→bY I ma p→qx I xs cur→
 aS Tryz.prog 216 [v,ma,.pointer (some ⟨dU,0,none⟩),.pointer (some ⟨qz,0,none⟩)] I
 [.row (.slice cX cur.length dH) 45 1 cur.length xs,.box dU 268 [.slice cX cur.length dH],.box qz 305 [.func (.func 216) #[] #[.pointer (some ⟨dU,0,none⟩),.pointer (some ⟨qz,0,none⟩)]]]
 (fun _ ai δ'=>∃(out:List (List Int)) (Oi:Option Addr) (Oj:Nat) (xs':List Value),out=cur++(iU t).map (p++·)∧qx ai xs' out∧δ'= [.row (.slice Oi out.length Oj) 45 1 out.length xs',.box dU 268 [.slice Oi out.length Oj],.box qz 305 [.func (.func 216) #[] #[.pointer (some ⟨dU,0,none⟩),.pointer (some ⟨qz,0,none⟩)]]]):=by
 intro n
 induction n with
 |zero=>intro t ar;have:=t.size_pos;omega
 |succ n aY=>
  intro t ar p cur dr eR I v ma dU qz cX dH xs ax az af;obtain⟨h,ts⟩:=t;obtain⟨ad,c,bj,rfl,an,aq,al,aW,bT⟩:=ax.elim;have bD:(T.mk h ts).size=1+bG ts:=by simp[T.size]
  have Ol:=C_ (.mk h ts);have oz:=xv ts;refine a1 func216 ntmps216 fun aG=> ?_;refine go2 ?_;refine bw fun b4=> ?_;refine aR ?_;refine eU [0,2,5,7,9,11] (fun _=> [.box dU 268 [.slice cX cur.length dH]]) (fun _=>(List.Sublist.cons _ (List.Sublist.cons _ (List.Sublist.cons_cons _ (List.nil_sublist _))))) ?_;refine aR ?_;refine bN rfl (VX az (bY.nil _) (by simp;omega)) ?_;rintro v10 j4 _ kB ⟨xC,rfl⟩;rw[List.append_nil]at xC;obtain⟨rd,rc,rfl⟩:=xC.shape;refine aR ?_;refine c_ fun cG=> ?_;refine aR ?_;refine gl fun Jx Jy=> ?_;refine aX ?_;refine dB ?_;refine aR ?_;refine fU ?_;refine bA ?_;refine bJ.view ((View.drop aO.here).trans (View.perm (List.perm_append_comm (l₁:= [_]) (l₂:= [_,_,_])))) ?_;have hlen:cur.length+1=(cur++ [p]).length:=by simp
  rw[hlen];refine ek (fun m aL ai δ'=>∃(k:Nat) (dT:List (List Int)) (cX:Option Addr) (dH:Nat) (xs:List Value),m=ts.length-k∧k≤ts.length∧aL= [(1,ma),(2,.pointer (some ⟨dU,0,none⟩)),(3,.pointer (some ⟨qz,0,none⟩)),(14,.slice ad ts.length c),(15,.int .i64 ts.length),(16,.int .i64 k)]∧I.le ai∧δ'= [.row (.slice cX dT.length dH) 45 1 dT.length xs,.box dU 268 [.slice cX dT.length dH],.box qz 305 [.func (.func 216) #[] #[.pointer (some ⟨dU,0,none⟩),.pointer (some ⟨qz,0,none⟩)]],.box b4 41 [.int .i64 h,.slice ad ts.length c]]∧qx ai xs dT∧dT++(qy k (ts.drop k)).map (p++·)=cur++(iU (.mk h ts)).map (p++·)) ts.length [(1,ma),(2,.pointer (some ⟨dU,0,none⟩)),(3,.pointer (some ⟨qz,0,none⟩)),(14,.slice ad ts.length c),(15,.int .i64 ts.length),(16,.int .i64 (0:Nat))] ⟨0,cur++ [p],Jx,Jy,xs++ [_],rfl,Nat.zero_le _,rfl,kB,rfl,(af.mono kB).snoc xC,by simp[iU]⟩ ⟨rfl,rfl,rfl,rfl,rfl,rfl,trivial⟩ ?_;rintro m _ I0 _ ⟨k,dT,cX,dH,xs,rfl,hk,rfl,bO,rfl,bm,cE⟩;refine aZ ?_;refine bF rfl (fun aV=> ?_) (fun aV=> ?_);have av:k<ts.length:=by simpa using aV
  have db:=(aW k av).isSome;have hm:=pt ts k av;rw[akn ts k av,List.map_append,←List.append_assoc]at cE;have ax7:dT.length+ts[k].size≤cur.length+(T.mk h ts).size:=by have:=congrArg List.length cE;simp[C_]at this;omega
  refine bg ?_;refine aI (cC ((aW k av).mono bO)) ?_;refine bh fun dp=> ?_;refine a8 ?_;refine eU [0,2,4,6,9,11,13] (fun _=> [.box dp 41 [.int .i64 ts[k].head,.slice (bj k).1 ts[k].args.length (bj k).2],.row (.slice cX dT.length dH) 45 1 dT.length xs,.box dU 268 [.slice cX dT.length dH],.box qz 305 [.func (.func 216) #[] #[.pointer (some ⟨dU,0,none⟩),.pointer (some ⟨qz,0,none⟩)]]]) (fun _=>(List.Sublist.cons_cons _ (List.Sublist.cons_cons _ (List.Sublist.cons_cons _ (List.Sublist.cons_cons _ (List.nil_sublist _)))))) ?_;refine Ay rfl rfl (fun sl=>l4.mk rfl (uX UP rfl rfl) sl) (by first|exact aa.le_refl _|assumption|exact aa.le_trans k7 me) (by intro x af;simp only[List.mem_cons,List.not_mem_nil,or_false]at af;rcases af with rfl|rfl|rfl|rfl<;>simp) ?_;refine Ay rfl rfl (fun sl=>l4.mk rfl (uX fc rfl rfl) sl) (by first|exact aa.le_refl _|assumption|exact aa.le_trans k7 me) (by intro x af;simp only[List.mem_cons,List.not_mem_nil,or_false]at af;rcases af with rfl|rfl|rfl|rfl<;>simp) ?_;refine Ay rfl rfl (fun sl=>l4.mk rfl (CE rfl) sl) (by first|exact aa.le_refl _|assumption|exact aa.le_trans k7 me) (by intro x af;simp only[List.mem_cons,List.not_mem_nil,or_false]at af;rcases af with rfl|rfl|rfl|rfl<;>simp) ?_;refine Ay rfl rfl (fun sl=>l4.mk rfl (CE rfl) sl) (by first|exact aa.le_refl _|assumption|exact aa.le_trans k7 me) (by intro x af;simp only[List.mem_cons,List.not_mem_nil,or_false]at af;rcases af with rfl|rfl|rfl|rfl<;>simp) ?_;refine aX ?_;refine c_ fun Om=> ?_;refine aK.dO aO.here ?_;rintro tz ax8 ax9 k7 akp akq ax_ akr;cases akp;refine aX ?_;refine jY rfl (kY (by first|exact aa.le_refl _|assumption|exact aa.le_trans k7 me) (fun _=>(by intro x af;simp only[List.mem_cons,List.not_mem_nil,or_false]at af;rcases af with rfl|rfl|rfl|rfl<;>simp))) ?_;refine aX ?_;refine bN rfl (VX (az.mono (aa.le_trans bO k7)) (bY.of (xs:= [(k:Int)]) rfl akq ah akr (by intro x af;simp at af;subst af;unfold dZ;omega)) (by simp;omega)) ?_;rintro v26 rq _ me ⟨On,rfl⟩;refine aX ?_;refine jY rfl (kY (by first|exact aa.le_refl _|assumption|exact aa.le_trans k7 me) (fun _=>(by intro x af;simp only[List.mem_cons,List.not_mem_nil,or_false]at af;rcases af with rfl|rfl|rfl|rfl<;>simp))) ?_;refine aX ?_;refine e8 rfl rfl rfl ((cR.fq (caps:= [.pointer (some ⟨dU,0,none⟩),.pointer (some ⟨qz,0,none⟩)]) U4 (aY ts[k] ah (p++ [(k:Int)]) dT (by simp;omega) ah _ _ _ dU qz cX dH xs ((bT k av).mono (aa.le_trans bO (aa.le_trans k7 me))) On (bm.mono (aa.le_trans k7 me))))) (df.three (aO.there aO.here) (aO.there aO.here) (aO.there aO.here)) ?_;rintro v27 u3 _ wm ⟨out,a27,tA,aks,kS,akt,rfl⟩;refine aX ?_;refine dB ?_;refine aP ?_;refine bf.view (View.drop (aO.there (aO.there (aO.there aO.here)))) ?_;refine cV (ts.length-(k+1)) [(1,ma),(2,.pointer (some ⟨dU,0,none⟩)),(3,.pointer (some ⟨qz,0,none⟩)),(14,.slice ad ts.length c),(15,.int .i64 ts.length),(16,.int .i64 ((k+1:Nat):Int))] ah ⟨k+1,out,a27,tA,aks,rfl,av,rfl,aa.le_trans bO (aa.le_trans k7 (aa.le_trans me wm)),rfl,akt,?_⟩ ⟨rfl,rfl,rfl,rfl,rfl,rfl,trivial⟩;rw[←cE,kS];simp;have bV:k=ts.length:=by simp at aV;omega
  subst bV;rw[List.drop_length]at cE;simp only[qy,List.map_nil,List.append_nil]at cE;refine a8 ?_;refine pb (rs:= []) rfl (List.Perm.refl _) .nil (List.Sublist.cons_cons _ (List.Sublist.cons_cons _ (List.Sublist.cons_cons _ (List.nil_sublist _)))) ⟨dT,cX,dH,xs,cE,bm,rfl⟩
theorem VZ(t:T)(g_:t.size≤1000000000)(I:aa)(v:Value)(ax:ba I v t):
 aS Tryz.prog 187 [v] I [] (fun v ai δ'=>y2 ai v (iU t)∧δ'= []):=by
 obtain⟨ad,c,rfl,ib⟩:=ax.shape;refine a1 func187 ntmps187 fun aG=> ?_;refine go2 ?_;refine bw fun e2=> ?_;refine a_ ?_;refine bh fun b3=> ?_;refine a8 ?_;refine bh fun b4=> ?_;refine bW ?_;refine aK.view (View.gh 45 1) ?_;refine e8 rfl rfl rfl ((cR.fq (caps:= [.pointer (some ⟨b3,0,none⟩),.pointer (some ⟨b4,0,none⟩)]) U4 (ako t.size t (Nat.le_refl _) [] [] (by simpa using g_) (by simpa using g_) _ _ _ b3 b4 none 0 [] ax (bY.nil _) (qx.nil _)))) (df.three aO.here (aO.there aO.here) aO.here) ?_;rintro so jt _ jJ ⟨out,FB,FC,aya,kS,aku,rfl⟩;refine a_ ?_;refine aK.dO aO.here ?_;rintro tB cX dH lF mc eV iT ep;cases mc;have bQ:out=iU t:=by simpa using kS
 subst bQ;refine a8 ?_;refine bn ?_;exact⟨y2.of rfl eV (by rw[C_];omega) ep (aku.mono lF),rfl⟩
end
def j8:T→List Int→T→T
  |_,[],u=>u
  |t,x::r,u=>.mk t.head (t.args.set x.toNat (j8 (t.args.getD x.toNat jd) r u))
theorem FE{t:T}{x:Int}{r:List Int}(h:(cO t (x::r)).isSome=true):∃i:Nat,x=i∧∃aj:i<t.args.length,(cO t.args[i] r).isSome=true:=by
 unfold cO at h;by_cases bK:0≤x∧x.toNat<t.args.length;rw[dif_pos bK]at h;obtain⟨i,rfl⟩:=Int.eq_ofNat_of_zero_le bK.1;exact⟨i,rfl,bK.2,h⟩;rw[dif_neg bK]at h;cases h
def akv(t:T)(p:List Int)(u:T)(v:Value)(I:aa):Prop:=
  ∃x,v=.tuple #[x,.int .i64 (if(cO t p).isSome then 0 else 6)]∧ba I x (if(cO t p).isSome then j8 t p u else jd)
end Go.Proofs.YtciibkomnoicdaaGreat
