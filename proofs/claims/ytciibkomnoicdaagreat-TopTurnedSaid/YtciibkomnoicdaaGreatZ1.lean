/- Own texts: a small program logic, plain facts, walks through the program's functions. No condition. -/
import Derived.RangeFuncLeaves
import Derived.RangeFuncCalls
import Derived.TacticsIn
import Derived.OrdersIn
import Derived.Maps.AppendAt
import Derived.Laws.MakeOwn
import Derived.Laws.OwnMore
import Derived.Laws.Rows
import Derived.Laws.Wrap64
import Derived.WalkKit
import Derived.KernelRfl
set_option maxRecDepth 10000
set_option maxHeartbeats 4000000
set_option linter.unusedVariables false
set_option linter.unusedSimpArgs false
set_option linter.unnecessarySimpa false
set_option linter.unusedSectionVars false
namespace Go.Proofs.YtciibkomnoicdaaGreat.Lg
open Go Go.RowKit
abbrev Env:=List (Nat×Value)
def look(d:Nat):Env→Option Value
  | []=>none
  | (e,v)::r=>bif Nat.beq e d then some v else look d r
inductive dN
  |mark (r:Nat)
  |call (d:Deferred)
instance:Coe Nat dN:=⟨.mark⟩
def dN.val:dN→Deferred
  |.mark r=> {target:=.collected r,args:= #[]}
  |.call d=>d
def marksOf(ds:List dN):List Deferred:=ds.map dN.val
structure gq(n:Nat)(σ:Env)(ds:List dN)(a:Act):Prop where
  size:a.tmps.size=n
  val:∀d v,look d σ=some v→a.tmps[d]? =some v
  defers:a.defers=marksOf ds
def bp(σ:Env):Operand→Option Value
  |.tmp t=>look t σ
  |.const v=>some v
  |.global g=>some (.pointer (some ⟨g,0,none⟩))
  |.func f=>some (.func (.func f) #[] #[])
def lq(σ:Env):List Operand→Option (List Value)
  | []=>some []
  |x::r=>match bp σ x,lq σ r with
    |some v,some vs=>some (v::vs)
    |_,_=>none
theorem gq.cr{n:Nat}{σ:Env}{ds:List dN}{a:Act}(h:gq n σ ds a){x:Operand}{v:Value}(af:bp σ x=some v):a.eval x=v:=by
 cases x with
 |tmp t=>
   have:=h.val t v af
   simp[Act.eval,this]
 |const u=>simpa[bp,Act.eval]using af
 |global g=>simpa[bp,Act.eval]using af
 |func f=>simpa[bp,Act.eval]using af
theorem gq.EF{n:Nat}{σ:Env}{ds:List dN}{a:Act}(h:gq n σ ds a):∀{xs:List Operand} {vs:List Value},lq σ xs=some vs→xs.map a.eval=vs
  | [],vs,af=>by simp[lq]at af;simp[←af]
  |x::r,vs,af=>by
   simp only[lq]at af
   cases ab:bp σ x with
   |none=>simp[ab]at af
   |some v=>
    cases ae:lq σ r with
    |none=>simp[ab,ae]at af
    |some us=>simp[ab,ae]at af;subst af;simp[h.cr ab,h.EF ae]
theorem tb(d e:Nat)(v:Value)(σ:Env):look d ((e,v)::σ)=if e=d then some v else look d σ:=by
 simp only[look];by_cases h:e=d;simp[h]
 have:Nat.beq e d=false:=by
  cases al:Nat.beq e d with
  |false=>rfl
  |true=>exact absurd (Nat.eq_of_beq_eq_true al) h
 simp[this,h]
theorem gq.put{n:Nat}{σ:Env}{ds:List dN}{a:Act}(h:gq n σ ds a){d:Nat}(aH:Nat.blt d n=true)(v:Value):gq n ((d,v)::σ) ds (a.put (some d) v):=by
 have n3:d<n:=by simpa[Nat.blt_eq]using aH
 refine⟨by simp[Act.put,h.size],fun e u he=> ?_,by simpa[Act.put]using h.defers⟩;rw[tb]at he;by_cases Cz:d=e;subst Cz;simp at he;subst he;simp[Act.put,h.size,n3];simp[Cz]at he;simp[Act.put,Array.getElem?_setIfInBounds_ne Cz,h.val e u he]
theorem gq.TB{n:Nat}{σ:Env}{ds:List dN}{a:Act}(h:gq n σ ds a){o:Option Nat}(bQ:o=none)(v:Value):gq n σ ds (a.put o v):=by
 subst bQ;exact h
def m3:Env→Env→Prop
  | [],_=>True
  | (d,v)::r,σ=>look d σ=some v∧m3 r σ
theorem m3.ok:∀{aL σ:Env},m3 aL σ→∀d v,look d aL=some v→look d σ=some v
  | [],_,_,d,v,h=>by simp[look]at h
  | (e,u)::r,σ,ao,d,v,h=>by rw[tb]at h;by_cases Cz:e=d;subst Cz;simp at h;subst h;exact ao.1;simp[Cz]at h;exact m3.ok ao.2 d v h
theorem gq.sub{n:Nat}{σ aL:Env}{ds:List dN}{a:Act}(h:gq n σ ds a)(ao:m3 aL σ):gq n aL ds a:=
  ⟨h.size,fun d v aH=>h.val d v (ao.ok d v aH),h.defers⟩
abbrev aa:=Nat→Option Obj
def aa.le(I J:aa):Prop:=∀b o,I b=some o→J b=some o
def aa.cell(I:aa)(a:Addr):Option Value:=
  match I a.block with
  |some (.cells c _ _)=>if a.spot.isSome then none else c[a.off]?
  |_=>none
def aa.nw(I:aa):Option Addr→Option Value
  |some a=>I.cell a
  |none=>none
def aa.ins(I:aa)(b:Nat)(o:Obj):aa:=fun k=>if k=b then some o else I k
theorem aa.le_refl(I:aa):I.le I:=fun _ _ h=>h
theorem aa.le_trans{I J K:aa}(h:I.le J)(k:J.le K):I.le K:=fun b o al=>k b o (h b o al)
theorem aa.aeZ{I J:aa}(h:I.le J){a:Addr}{v:Value}(aq:I.cell a=some v):J.cell a=some v:=by
 unfold aa.cell at*
 cases al:I a.block with
 |none=>simp[al]at aq
 |some o=>rw[al]at aq;rw[h _ _ al];exact aq
theorem aa.TC{I J:aa}(h:I.le J){a:Option Addr}{v:Value}(aq:I.nw a=some v):J.nw a=some v:=by
 cases a with
 |none=>simp[aa.nw]at aq
 |some a=>exact aa.aeZ h aq
theorem aa.TD{I:aa}{b:Nat}{o:Obj}(h:I b=none):I.le (I.ins b o):=fun k p hk=>by unfold aa.ins;by_cases e:k=b;subst e;rw[h]at hk;cases hk;simp[e,hk]
abbrev bU:=List (Int×Value)
structure p7(es:Array MapEntry)(clock:Nat)(xs:bU):Prop where
  n4:es.toList.map (fun e=>(e.key,e.val))=xs.map (fun p=>(Value.int .i64 p.1,p.2))
  keys:(xs.map (·.1)).Nodup
  born:(es.toList.map (·.born)).Nodup
  xa:∀e∈es.toList,e.born<clock
inductive ay where
  |box (b:Nat) (e:TypeId) (cs:List Value)
  |row (v:Value) (e:TypeId) (size n:Nat) (xs:List Value)
  |obj (b:Nat) (o:Obj)
  |map (b:Nat) (xs:bU)
def ay.gR:ay→Option Nat
  |.box b _ _=>some b
  |.row v _ _ _ _=>v.ownBlock
  |.obj b _=>some b
  |.map b _=>some b
def ay.holds(w:World):ay→Prop
  |.box b e cs=>w.heap[b]? =some (.cells cs.toArray e (0,0))
  |.row v e size n xs=>w.ownsRow 0 e size v n xs
  |.obj b o=>w.heap[b]? =some o
  |.map b xs=>∃es clock,w.heap[b]? =some (.map es clock)∧p7 es clock xs
abbrev eg(δ:List ay):List Nat:=δ.filterMap ay.gR
structure Sat(w:World)(I:aa)(δ:List ay):Prop where
  gE:∀b o,I b=some o→w.heap[b]? =some o
  dQ:∀x∈δ,x.holds w
  nodup:(eg δ).Nodup
  apart:∀b∈eg δ,I b=none
structure er(w:World)(I:aa)(δ:List ay)(w':World)(ai:aa)(δ':List ay):Prop where
  os:w'.os=w.os
  tape:w'.tape=w.tape
  output:w'.output=w.output
  size:w.heap.size≤w'.heap.size
  same:∀b,b<w.heap.size→b∉eg δ→w'.heap[b]? =w.heap[b]?
  gE:I.le ai
  yA:∀b o,ai b=some o→I b=none→b∈eg δ∨w.heap.size≤b
  vR:∀b∈eg δ',b∈eg δ∨w.heap.size≤b
theorem er.refl(w:World)(I:aa)(δ:List ay):er w I δ w I δ:=
  ⟨rfl,rfl,rfl,Nat.le_refl _,fun _ _ _=>rfl,aa.le_refl _,fun b o ab ae=>(by rw[ab]at ae;cases ae),fun _ h=>.inl h⟩
theorem er.trans{w hp r8:World}{I en dV:aa}{δ dx cI:List ay}(h:er w I δ hp en dx)(k:er hp en dx r8 dV cI):er w I δ r8 dV cI where
  os:=k.os.trans h.os
  tape:=k.tape.trans h.tape
  output:=k.output.trans h.output
  size:=Nat.le_trans h.size k.size
  same:=fun b al aD=>(k.same b (Nat.lt_of_lt_of_le al h.size) (fun hm=>by
   rcases h.vR b hm with ab|ab
   exact aD ab;omega)).trans (h.same b al aD)
  gE:=aa.le_trans h.gE k.gE
  yA:=fun b o ab ae=>by
   cases aF:en b with
   |some p=>exact h.yA b p aF ae
   |none=>
    rcases k.yA b o ab aF with bb|bb
    exact h.vR b bb;exact .inr (Nat.le_trans h.size bb)
  vR:=fun b al=>by
   rcases k.vR b al with bb|bb
   exact h.vR b bb;exact .inr (Nat.le_trans h.size bb)
theorem ay.lt{w:World}{x:ay}(h:x.holds w){b:Nat}(al:x.gR=some b):b<w.heap.size:=by
 cases x with
 |box c e cs=>simp[ay.gR]at al;subst al;exact(Array.getElem?_eq_some_iff.1 h).1
 |obj c o=>simp[ay.gR]at al;subst al;exact(Array.getElem?_eq_some_iff.1 h).1
 |map c xs=>obtain⟨es,clock,h,_⟩:=h;simp[ay.gR]at al;subst al;exact(Array.getElem?_eq_some_iff.1 h).1
 |row v e s n xs=>exact(World.ownsRow.lt h b al).2
theorem Sat.lt{w:World}{I:aa}{δ:List ay}(h:Sat w I δ){b:Nat}(al:b∈eg δ):b<w.heap.size:=by
 obtain⟨x,af,xb⟩:=List.mem_filterMap.1 al;exact ay.lt (h.dQ x af) xb
theorem Sat.Ip{w:World}{I:aa}{δ:List ay}(h:Sat w I δ){b:Nat}{o:Obj}(al:I b=some o):b<w.heap.size:=
  (Array.getElem?_eq_some_iff.1 (h.gE b o al)).1
theorem Sat.cell{w:World}{I:aa}{δ:List ay}(h:Sat w I δ){a:Addr}{v:Value}(aq:I.cell a=some v):w.cell? a=some v:=by
 unfold aa.cell at aq;unfold World.cell?
 cases al:I a.block with
 |none=>simp[al]at aq
 |some o=>rw[al]at aq;rw[h.gE _ _ al];exact aq
theorem ay.kept{w w':World}{x:ay}(h:x.holds w)(ao:∀b,x.gR=some b→w'.heap[b]? =w.heap[b]?):x.holds w':=by
 cases x with
 |box c e cs=>exact(ao c rfl).trans h
 |obj c o=>exact(ao c rfl).trans h
 |map c xs=>obtain⟨es,clock,h,ae⟩:=h;exact⟨es,clock,(ao c rfl).trans h,ae⟩
 |row v e s n xs=>
  obtain⟨ab,ae⟩:=h;refine⟨ab,?_⟩;rcases ae with ae|⟨g,cap,cur,rfl,aF,bb,eX⟩
  exact .inl ae;exact .inr ⟨g,cap,cur,rfl,aF,(ao g rfl).trans bb,eX⟩
theorem Sat.perm{w:World}{I:aa}{δ δ':List ay}(h:Sat w I δ)(az:δ.Perm δ'):Sat w I δ':=
  ⟨h.gE,fun x af=>h.dQ x (az.mem_iff.2 af),(az.filterMap _).nodup_iff.1 h.nodup,fun b al=>h.apart b ((az.filterMap _).mem_iff.2 al)⟩
theorem er.ae0{w w':World}{I ai:aa}{δ dx δ':List ay}(h:er w I δ w' ai δ')(az:δ.Perm dx):er w I dx w' ai δ':=
  have hm:∀b,b∈eg δ↔b∈eg dx:=fun _=>(az.filterMap _).mem_iff
  ⟨h.os,h.tape,h.output,h.size,fun b al aD=>h.same b al (fun k=>aD ((hm b).1 k)),h.gE,fun b o ab ae=>(h.yA b o ab ae).imp (hm b).1 id,fun b al=>(h.vR b al).imp (hm b).1 id⟩
theorem er.kr{w w':World}{I ai:aa}{δ δ' dx:List ay}(h:er w I δ w' ai δ')(az:δ'.Perm dx):er w I δ w' ai dx:=
  ⟨h.os,h.tape,h.output,h.size,h.same,h.gE,h.yA,fun b al=>h.vR b ((az.filterMap _).mem_iff.2 al)⟩
theorem frame{w w':World}{I ai:aa}{fv CA δr:List ay}(h:Sat w I (fv++δr))(et:Sat w' ai CA)(t:er w I fv w' ai CA):
 Sat w' ai (CA++δr)∧er w I (fv++δr) w' ai (CA++δr):=by
 have al:eg (fv++δr)=eg fv++eg δr:=List.filterMap_append;have uM:eg (CA++δr)=eg CA++eg δr:=List.filterMap_append;have eY:=h.nodup;rw[al,List.nodup_append]at eY;have MN:∀b∈eg δr,b<w.heap.size:=fun b hm=>h.lt (by rw[al];exact List.mem_append_right _ hm);have ae1:∀b∈eg δr,w'.heap[b]? =w.heap[b]? :=fun b hm=>t.same b (MN b hm) (fun aq=>eY.2.2 b aq b hm rfl);refine⟨⟨et.gE,?_,?_,?_⟩,⟨t.os,t.tape,t.output,t.size,?_,t.gE,?_,?_⟩⟩;intro x af;rcases List.mem_append.1 af with af|af
 exact et.dQ x af;exact ay.kept (h.dQ x (List.mem_append_right _ af)) fun b xb=>ae1 b (List.mem_filterMap.2 ⟨x,af,xb⟩);rw[uM,List.nodup_append];refine⟨et.nodup,eY.2.1,fun b g3 c aq e=> ?_⟩;subst e;rcases t.vR b g3 with ab|ab
 exact eY.2.2 b ab b aq rfl;have:=MN b aq;omega;intro b hm;rw[uM]at hm;rcases List.mem_append.1 hm with hm|hm
 exact et.apart b hm
 cases iq:ai b with
 |none=>rfl
 |some o=>
   have aD:I b=none:=h.apart b (by rw[al];exact List.mem_append_right _ hm)
   rcases t.yA b o iq aD with ab|ab
   · exact absurd rfl (eY.2.2 b ab b hm)
   · have:=MN b hm;omega
 intro b av aD;exact t.same b av fun hm=>aD (by rw[al];exact List.mem_append_left _ hm);intro b o ab ae;rcases t.yA b o ab ae with aF|aF
 exact .inl (by rw[al];exact List.mem_append_left _ aF);exact .inr aF;intro b hm;rw[uM]at hm;rcases List.mem_append.1 hm with hm|hm
 exact(t.vR b hm).imp (fun aF=>by rw[al];exact List.mem_append_left _ aF) id;exact .inl (by rw[al];exact List.mem_append_right _ hm)
theorem Sat.alloc{w:World}{I:aa}{δ:List ay}(h:Sat w I δ)(x:ay)(o:Obj)(al:x.gR=some w.heap.size)(af:x.holds (w.alloc o)):
 Sat (w.alloc o) I (x::δ)∧er w I δ (w.alloc o) I (x::δ):=by
 have hold:∀b,b<w.heap.size→(w.alloc o).heap[b]? =w.heap[b]? :=fun b al=>heap_alloc_old w o b al;have xc:eg (x::δ)=w.heap.size::eg δ:=by simp[eg,al]
 refine⟨⟨fun b p az=>(hold b (h.Ip az)).trans (h.gE b p az),?_,?_,?_⟩,⟨rfl,rfl,rfl,by simp,fun b av _=>hold b av,aa.le_refl _,fun b p ab ae=>(by rw[ab]at ae;cases ae),?_⟩⟩;intro y aw;rcases List.mem_cons.1 aw with rfl|aw
 exact af;exact ay.kept (h.dQ y aw) fun b EG=>hold b (h.lt (List.mem_filterMap.2 ⟨y,aw,EG⟩));rw[xc,List.nodup_cons];exact⟨fun hm=>by have:=h.lt hm;omega,h.nodup⟩;intro b hm;rw[xc]at hm;rcases List.mem_cons.1 hm with rfl|hm
 cases iq:I w.heap.size with
 |none=>rfl
 |some p=>have:=h.Ip iq;omega
 exact h.apart b hm;intro b hm;rw[xc]at hm;rcases List.mem_cons.1 hm with rfl|hm
 exact .inr (Nat.le_refl _);exact .inl hm
theorem Sat.drew{w:World}{I:aa}{δ:List ay}(h:Sat w I δ):Sat {w with drawn:=w.drawn+1} I δ∧er w I δ {w with drawn:=w.drawn+1} I δ:=
  ⟨⟨h.gE,fun x af=>ay.kept (h.dQ x af) fun _ _=>rfl,h.nodup,h.apart⟩,⟨rfl,rfl,rfl,Nat.le_refl _,fun _ _ _=>rfl,aa.le_refl _,fun b o ab ae=>(by rw[ab]at ae;cases ae),fun _ h=>.inl h⟩⟩
inductive bc:List ay→ay→List ay→ay→Prop
  |here {x x':ay} {r:List ay}:bc (x::r) x (x'::r) x'
  |there {x x' y:ay} {r kR:List ay} (h:bc r x kR x'):bc (y::r) x (y::kR) x'
theorem bc.split{δ δ':List ay}{x x':ay}(h:bc δ x δ' x'):∃l r,δ=l++x::r∧δ'=l++x'::r:=by
 induction h with
 |here=>exact⟨[],_,rfl,rfl⟩
 |there _ aY=>obtain⟨l,r,rfl,rfl⟩:=aY;exact⟨_::l,r,rfl,rfl⟩
theorem Sat.swap {w w':World} {I:aa} {δ δ':List ay} {x x':ay} (h:Sat w I δ) (ao:bc δ x δ' x')
 (CB:w'.os=w.os) (ae2:w'.tape=w.tape) (kS:w'.output=w.output) (bD:w.heap.size≤w'.heap.size)
 (yB:∀b,b<w.heap.size→x.gR≠some b→w'.heap[b]? =w.heap[b]?) (af:x'.holds w')
 (al:∀b,x'.gR=some b→x.gR=some b∨w.heap.size≤b):Sat w' I δ'∧er w I δ w' I δ':=by
 obtain⟨l,r,rfl,rfl⟩:=ao.split;have mE:(l++x::r).Perm ([x]++(l++r)):=List.perm_middle;have n_:(l++x'::r).Perm ([x']++(l++r)):=List.perm_middle;have ab:=h.perm mE;have hQ:x∈l++x::r:=by simp
 have lr:Sat w' I [x']:=by
  refine⟨fun b o bQ=> ?_,fun y aw=>by simp at aw;subst aw;exact af,?_,?_⟩;rw[yB b (h.Ip bQ) (fun e=> ?_)];exact h.gE b o bQ;have:b∈eg (l++x::r):=List.mem_filterMap.2 ⟨x,hQ,e⟩;rw[h.apart b this]at bQ;cases bQ;cases uM:x'.gR<;>simp[eg,uM];intro b hm;have xb:x'.gR=some b:=by simpa[eg]using hm
  rcases al b xb with ae|ae
  exact h.apart b (List.mem_filterMap.2 ⟨x,hQ,ae⟩)
  cases iq:I b with
  |none=>rfl
  |some o=>have:=h.Ip iq;omega
 have t:er w I [x] w' I [x']:=by
  refine⟨CB,ae2,kS,bD,fun b av aD=>yB b av (fun e=>aD (by simp[eg,e])),aa.le_refl _,fun b o ab ae=>(by rw[ab]at ae;cases ae),fun b hm=> ?_⟩;have xb:x'.gR=some b:=by simpa[eg]using hm
  rcases al b xb with ae|ae
  exact .inl (by simp[eg,ae]);exact .inr ae
 obtain⟨f1,f2⟩:=frame (δr:=l++r) ab lr t;exact⟨f1.perm n_.symm,(f2.ae0 mE.symm).kr n_.symm⟩
inductive aO:List ay→ay→List ay→Prop
  |here {x:ay} {r:List ay}:aO (x::r) x r
  |there {x y:ay} {r kR:List ay} (h:aO r x kR):aO (y::r) x (y::kR)
theorem aO.perm{δ δ':List ay}{x:ay}(h:aO δ x δ'):δ.Perm (x::δ'):=by
 induction h with
 |here=>exact .refl _
 |there _ aY=>exact(List.Perm.cons _ aY).trans (List.Perm.swap _ _ _)
theorem Sat.drop{w:World}{I:aa}{x:ay}{δ:List ay}(h:Sat w I (x::δ)):Sat w I δ∧er w I (x::δ) w I δ:=by
 have bT:(eg δ).Sublist (eg (x::δ)):=(List.sublist_cons_self x δ).filterMap _
 exact⟨⟨h.gE,fun y aw=>h.dQ y (List.mem_cons_of_mem _ aw),h.nodup.sublist bT,fun b al=>h.apart b (bT.subset al)⟩,
   ⟨rfl,rfl,rfl,Nat.le_refl _,fun _ _ _=>rfl,aa.le_refl _,fun b o ab ae=>(by rw[ab]at ae;cases ae),fun b al=>.inl (bT.subset al)⟩⟩
theorem Sat.freeze{w:World}{I:aa}{x:ay}{δ:List ay}(h:Sat w I (x::δ)){b:Nat}{o:Obj}(al:x.gR=some b)(bQ:w.heap[b]? =some o):
 Sat w (I.ins b o) δ∧er w I (x::δ) w (I.ins b o) δ∧I.le (I.ins b o):=by
 have aD:I b=none:=h.apart b (by simp[eg,al]);have bT:(eg δ).Sublist (eg (x::δ)):=(List.sublist_cons_self x δ).filterMap _;have eY:b∉eg δ:=by have:=h.nodup;simp only[eg,List.filterMap_cons,al,List.nodup_cons]at this;exact this.1
 refine⟨⟨fun c p az=> ?_,fun y aw=>h.dQ y (List.mem_cons_of_mem _ aw),h.nodup.sublist bT,fun c aq=> ?_⟩,
   ⟨rfl,rfl,rfl,Nat.le_refl _,fun _ _ _=>rfl,aa.TD aD,fun c p ab ae=> ?_,fun c aq=>.inl (bT.subset aq)⟩,aa.TD aD⟩
 unfold aa.ins at az;by_cases e:c=b;subst e;simp at az;subst az;exact bQ;simp[e]at az;exact h.gE c p az;have mF:c≠b:=fun e=>eY (e▸aq);simp[aa.ins,mF,h.apart c (bT.subset aq)];unfold aa.ins at ab;by_cases e:c=b;subst e;exact .inl (by simp[eg,al]);simp[e]at ab;rw[ab]at ae;cases ae
section
structure Ctx where
  P:Program
  r:Option Nat
  n:Nat
  aG:World
  I0:aa
  cl:List ay
def Ctx.F(C:Ctx):Fence:= {Fence.wide with round:=C.r}
def bJ(C:Ctx)(c:Code)(Q:Exit→Act→World→Prop)(σ:Env)(ds:List dN)(I:aa)(δ:List ay):Prop:=
  ∀a w,gq C.n σ ds a→Sat w I δ→er C.aG C.I0 C.cl w I δ→c.wpIn C.F 0 C.P Q a w
def aK(C:Ctx)(ops:Array Oper)(Q:Exit→Act→World→Prop)(rest:List Oper)(σ:Env)(ds:List dN)(I:aa)(δ:List ay):Prop:=
  ∀a w,gq C.n σ ds a→Sat w I δ→er C.aG C.I0 C.cl w I δ→wpListIn C.F 0 C.P ops Q rest a w
def bf(C:Ctx)(Q:Exit→Act→World→Prop)(e:Exit)(σ:Env)(ds:List dN)(I:aa)(δ:List ay):Prop:=
  ∀a w,gq C.n σ ds a→Sat w I δ→er C.aG C.I0 C.cl w I δ→Q e a w
variable {C:Ctx} {Q:Exit→Act→World→Prop} {σ:Env} {ds:List dN} {I:aa} {δ:List ay} {ops:Array Oper} {rest:List Oper}
theorem ae3{id:Nat}{l:List Oper}(h:aK C l.toArray Q l σ ds I δ):bJ C (.region id l.toArray false) Q σ ds I δ:=
  fun a w he ao ar=>wpIn_region_lit (h a w he ao ar)
theorem ae4{x y:Code}(h:bJ C x (Exit.then (y.wpIn C.F 0 C.P Q) Q) σ ds I δ):bJ C (.seq x y) Q σ ds I δ:=
  fun a w he ao ar=>wpIn_seq (h a w he ao ar)
theorem ae5{id:Nat}{c:Code}(h:bJ C c (Exit.inBlock id Q) σ ds I δ):bJ C (.block id c) Q σ ds I δ:=
  fun a w he ao ar=>wpIn_block (h a w he ao ar)
theorem ae6(h:bf C Q .normal σ ds I δ):bJ C .skip Q σ ds I δ:=fun a w he ao ar=>wpIn_skip (h a w he ao ar)
theorem TE{l:Nat}(h:bf C Q .normal σ ds I δ):bJ C (.label l) Q σ ds I δ:=fun a w he ao ar=>wpIn_label (h a w he ao ar)
theorem ae7(h:bf C Q .ret σ ds I δ):bJ C .ret Q σ ds I δ:=fun a w he ao ar=>wpIn_ret (h a w he ao ar)
theorem ae8{id:Nat}(h:bf C Q (.exit id) σ ds I δ):bJ C (.exit id) Q σ ds I δ:=fun a w he ao ar=>wpIn_exit (h a w he ao ar)
theorem bF{x y:Code}{o:Operand}{t:Bool}(aq:bp σ o=some (.bool t))(ar:t=true→bJ C x Q σ ds I δ)(a7:t=false→bJ C y Q σ ds I δ):
    bJ C (.cond o x y) Q σ ds I δ:=
  fun a w he ao gF=>wpIn_cond_split (he.cr aq) (fun h=>ar h a w he ao gF) (fun h=>a7 h a w he ao gF)
theorem ae9{x y:Code}{o:Operand}(aq:bp σ o=some (.bool true))(ar:bJ C x Q σ ds I δ):bJ C (.cond o x y) Q σ ds I δ:=
  fun a w he ao gF=>wpIn_cond_true (he.cr aq) (ar a w he ao gF)
theorem ae_{x y:Code}{o:Operand}(aq:bp σ o=some (.bool false))(ar:bJ C y Q σ ds I δ):bJ C (.cond o x y) Q σ ds I δ:=
  fun a w he ao gF=>wpIn_cond_false (he.cr aq) (ar a w he ao gF)
theorem afa(h:bf C Q .normal σ ds I δ):aK C ops Q [] σ ds I δ:=fun a w he ao ar=>wpListIn_nil (h a w he ao ar)
theorem afb{y:Code}(h:bJ C y Q σ ds I δ):bf C (Exit.then (y.wpIn C.F 0 C.P Q) Q) .normal σ ds I δ:=h
theorem afc{id:Nat}(h:bf C Q .normal σ ds I δ):bf C (Exit.inBlock id Q) .normal σ ds I δ:=h
theorem afd{id:Nat}(h:bf C Q .normal σ ds I δ):bf C (Exit.inBlock id Q) (.exit id) σ ds I δ:=
  fun a w he ao ar=>by simp only[Exit.inBlock,if_true];exact h a w he ao ar
theorem vS{id Iq:Nat}(cu:Nat.beq Iq id=false)(h:bf C Q (.exit Iq) σ ds I δ):bf C (Exit.inBlock id Q) (.exit Iq) σ ds I δ:=
  fun a w he ao ar=>by
   have:¬Iq=id:=fun e=>by subst e;simp at cu
   simp only[Exit.inBlock,if_neg this];exact h a w he ao ar
theorem TF{K:Act→World→Prop}(h:bf C Q .ret σ ds I δ):bf C (Exit.then K Q) .ret σ ds I δ:=h
theorem TG{id:Nat}(h:bf C Q .ret σ ds I δ):bf C (Exit.inBlock id Q) .ret σ ds I δ:=h
theorem afe{K:Act→World→Prop}{id:Nat}(h:bf C Q (.exit id) σ ds I δ):bf C (Exit.then K Q) (.exit id) σ ds I δ:=h
def View(I:aa)(δ:List ay)(ai:aa)(δ':List ay):Prop:=∀w,Sat w I δ→Sat w ai δ'∧er w I δ w ai δ'
theorem aK.view{ai:aa}{δ':List ay}(ax:View I δ ai δ')(h:aK C ops Q rest σ ds ai δ'):aK C ops Q rest σ ds I δ:=
  fun a w he ao ar=>h a w he (ax w ao).1 (ar.trans (ax w ao).2)
theorem bJ.view{c:Code}{ai:aa}{δ':List ay}(ax:View I δ ai δ')(h:bJ C c Q σ ds ai δ'):bJ C c Q σ ds I δ:=
  fun a w he ao ar=>h a w he (ax w ao).1 (ar.trans (ax w ao).2)
theorem bf.view{e:Exit}{ai:aa}{δ':List ay}(ax:View I δ ai δ')(h:bf C Q e σ ds ai δ'):bf C Q e σ ds I δ:=
  fun a w he ao ar=>h a w he (ax w ao).1 (ar.trans (ax w ao).2)
theorem View.perm{δ':List ay}(az:δ.Perm δ'):View I δ I δ':=fun w h=>⟨h.perm az,(er.refl w I δ).kr az⟩
theorem View.drop{x:ay}{δ':List ay}(aH:aO δ x δ'):View I δ I δ':=fun w h=>
  let ab:=h.perm aH.perm
  ⟨ab.drop.1,((er.refl w I δ).kr aH.perm).trans ab.drop.2⟩
theorem View.trans{en dV:aa}{dx cI:List ay}(h:View I δ en dx)(k:View en dx dV cI):View I δ dV cI:=fun w ao=>
  ⟨(k w (h w ao).1).1,(h w ao).2.trans (k w (h w ao).1).2⟩
theorem Sat.sub{w:World}{δ':List ay}(h:Sat w I δ)(ao:δ'.Sublist δ):Sat w I δ'∧er w I δ w I δ':=
  have al:(eg δ').Sublist (eg δ):=ao.filterMap _
  ⟨⟨h.gE,fun x af=>h.dQ x (ao.subset af),h.nodup.sublist al,fun b hm=>h.apart b (al.subset hm)⟩,
    ⟨rfl,rfl,rfl,Nat.le_refl _,fun _ _ _=>rfl,aa.le_refl _,fun b o ab ae=>(by rw[ab]at ae;cases ae),fun b hm=>.inl (al.subset hm)⟩⟩
theorem View.sub{δ':List ay}(ao:δ'.Sublist δ):View I δ I δ':=fun _ h=>h.sub ao
theorem View.nil:View I δ I []:=View.sub (List.nil_sublist _)
def Cells(I:aa)(ad:Option Addr)(xs:List Value):Prop:=∀j v,xs[j]? =some v→I.nw (ad.map (·.add j))=some v
theorem Cells.mono{J:aa}{ad:Option Addr}{xs:List Value}(h:Cells I ad xs)(aA:I.le J):Cells J ad xs:=fun j v au=>aa.TC aA (h j v au)
theorem aK.dO {v:Value} {e:TypeId} {size n:Nat} {xs:List Value} {δ':List ay} (aH:aO δ (.row v e size n xs) δ')
 (h:∀ai ad cap,I.le ai→v=.slice ad n cap→n≤cap→xs.length=n*size→Cells ai ad xs→aK C ops Q rest σ ds ai δ'):aK C ops Q rest σ ds I δ:=by
 intro a w he ao ar;have ab:=ao.perm aH.perm;have t1:=ar.kr aH.perm;obtain⟨aA,af⟩:w.ownsRow 0 e size v n xs:=ab.dQ _ (List.mem_cons_self ..);rcases af with⟨rfl,rfl⟩|⟨g,cap,cur,rfl,_,bK,lu,_,fl,fb⟩
 obtain⟨s2,t2⟩:=ab.drop;have r9:xs= []:=List.eq_nil_of_length_eq_zero (by omega);subst r9;exact h I none 0 (aa.le_refl _) rfl (Nat.le_refl _) aA (fun j v au=>by simp at au) a w he s2 (t1.trans t2);obtain⟨s2,t2,hle⟩:=ab.freeze (b:=g) rfl bK;refine h (I.ins g _) (some ⟨g,0,none⟩) cap hle rfl lu aA (fun j v au=> ?_) a w he s2 (t1.trans t2);have ks:(⟨g,0,none⟩:Addr).add j=⟨g,j,none⟩:=by unfold Addr.add;split<;>simp_all
 have MO:j<n*size:=by rw[←aA];exact(List.getElem?_eq_some_iff.1 au).1
 rw[←fb]at au;rw[List.getElem?_take_of_lt MO]at au;simp only[Option.map_some,aa.nw,aa.cell,ks,aa.ins,if_true];simpa using au
def h_(aG:World)(I:aa)(δ:List ay)(R:Value→aa→List ay→Prop):Ending→World→Prop:=fun e w'=>
  ∃v ai δ',e=.returned v∧Sat w' ai δ'∧er aG I δ w' ai δ'∧R v ai δ'
def aS(P:Program)(f:FuncId)(args:List Value)(I:aa)(δ:List ay)(R:Value→aa→List ay→Prop):Prop:=
  ∀w,Sat w I δ→Calls P f args.toArray w (h_ w I δ R)
theorem aS.mono{P:Program}{f:FuncId}{args:List Value}{R R':Value→aa→List ay→Prop}(h:aS P f args I δ R)(an:∀v ai δ',I.le ai→R v ai δ'→R' v ai δ'):aS P f args I δ R':=
  fun w ao=>(h w ao).mono fun _ _ ⟨v,ai,δ',ab,ae,aF,bb⟩=>⟨v,ai,δ',ab,ae,aF,an _ _ _ aF.gE bb⟩
def TH(P:Program)(b1:Value)(args:Array Value)(w:World)(R:Ending→World→Prop):Prop:=
  ∃d,(Deferred.ofValue b1 args).run P w=.ok d w∧
    ((∃f e7,(invoke d.target d.args).run P w=.ok (.enter f e7) w∧Calls P f e7 w R)∨
     (∃l f tmps e7 body,(invoke d.target d.args).run P w=.ok (.round l f tmps e7 body) w∧RoundIn Fence.wide 0 P l f tmps e7 body w R))
def cR(P:Program)(b1:Value)(args:List Value)(I:aa)(δ:List ay)(R:Value→aa→List ay→Prop):Prop:=
  ∀w,Sat w I δ→TH P b1 args.toArray w (h_ w I δ R)
theorem cR.mono{P:Program}{b1:Value}{args:List Value}{R R':Value→aa→List ay→Prop}(h:cR P b1 args I δ R)(an:∀v ai δ',I.le ai→R v ai δ'→R' v ai δ'):cR P b1 args I δ R':=by
 intro w ao;have hm:∀e w',h_ w I δ R e w'→h_ w I δ R' e w':=fun _ _ ⟨v,ai,δ',ab,ae,aF,bb⟩=>⟨v,ai,δ',ab,ae,aF,an _ _ _ aF.gE bb⟩
 obtain⟨d,aH,h⟩:=h w ao;refine⟨d,aH,?_⟩;rcases h with⟨f,e7,ab,ae⟩|⟨l,f,tmps,e7,body,ab,ae⟩
 exact .inl ⟨f,e7,ab,ae.mono hm⟩;exact .inr ⟨l,f,tmps,e7,body,ab,ae.mono hm⟩
def eb(P:Program)(f:FuncId):Bool:=
  match P.funcs[f]? with
  |some fn=> !(fn.name== "runtime.NumGoroutine")&&fn.body.isSome
  |none=>false
theorem Aq{P:Program}{f:FuncId}(h:eb P f=true)(args:Array Value)(w:World):(callFunc f args).run P w=.ok (.enter f args) w:=by
 unfold eb at h
 cases a7:P.funcs[f]? with
 |none=>simp[a7]at h
 |some fn=>
  simp only[a7,Bool.and_eq_true,Bool.not_eq_true']at h;obtain⟨ab,ae⟩:=h;have aF:fn.body.isNone=false:=by cases al:fn.body<;>simp_all
  simp only[callFunc,Sem.run_bind,program,Sem.run,Result.andThen,a7,ab,aF,Bool.false_eq_true,if_false];rfl
theorem cR.fq{P:Program}{f:FuncId}{caps args:List Value}{R:Value→aa→List ay→Prop}(az:eb P f=true)(h:aS P f (args++caps) I δ R):
 cR P (.func (.func f) #[] caps.toArray) args I δ R:=by
 intro w ao;refine⟨{target:=.fn (.func f) caps.toArray,args:=args.toArray},by simp[Deferred.ofValue],.inl ⟨f,(args++caps).toArray,?_,h w ao⟩⟩;simp only[invoke];rw[Aq az];simp
theorem aS.tc{P:Program}{f:FuncId}{args:List Value}{R:Value→aa→List ay→Prop}(az:eb P f=true)(h:aS P f args I δ R):
    cR P (.func (.func f) #[] #[]) args I δ R:=cR.fq (caps:= []) az (by simpa using h)
def df(δ fv δr:List ay):Prop:=δ.Perm (fv++δr)
theorem df.none:df δ [] δ:=List.Perm.refl _
theorem df.one{x:ay}{δ':List ay}(h:aO δ x δ'):df δ [x] δ':=h.perm
theorem df.two{x y:ay}{δ' nx:List ay}(h:aO δ x δ')(k:aO δ' y nx):df δ [x,y] nx:=h.perm.trans (List.Perm.cons _ k.perm)
theorem df.all:df δ δ []:=by simp[df]
theorem MP{C:Ctx}{l:Nat}(h:C.r=some l):C.F=Fence.wide.inRound l:=by simp[Ctx.F,Fence.inRound,h]
theorem Ir{C:Ctx}(h:C.r=none):C.F=Fence.wide:=by simp[Ctx.F,h];rfl
theorem MQ{n:Nat}{f:FuncId}{args:Array Value}{w:World}{R:Ending→World→Prop}(h:Calls C.P f args w R):CallsIn C.F n C.P f args w R:=by
 have et:=(callsIn_wide (n:=n)).2 h
 cases an:C.r with
 |none=>rw[Ir an];exact et
 |some l=>rw[MP an];exact et.inRound l
theorem TI{l:Nat}{f:FuncId}{tmps:Array Value}{e7 body:Code}{w:World}{R:Ending→World→Prop}(h:RoundIn Fence.wide 0 C.P l f tmps e7 body w R):RoundIn C.F 0 C.P l f tmps e7 body w R:=by
 cases an:C.r with
 |none=>rw[Ir an];exact h
 |some o8=>rw[MP an];exact h
theorem semAt_eq(r:Option Nat)(Is:Operand→Value)(o:Oper)(h:∀c,o.op≠ .defer c):Oper.semAt r Is o=execOp Is o:=by
 cases r with
 |none=>rfl
 |some l=>exact Oper.semAt_some l Is o h
theorem e8 {d:Nat} {x:Operand} {xs:List Operand} {lv:Array TypeId} {ty:TypeId} {pos:String} {after:Array Edge} {b1:Value} {vs:List Value} {fv δr:List ay} {R:Value→aa→List ay→Prop}
 (af:bp σ x=some b1) (fJ:lq σ xs=some vs) (aH:Nat.blt d C.n=true) (ao:cR C.P b1 vs I fv R) (az:df δ fv δr)
 (k:∀v ai δ',I.le ai→R v ai δ'→aK C ops Q rest ((d,v)::σ) ds ai (δ'++δr)):
 aK C ops Q ({dst:=some d,op:=.call {callee:=.value x,args:=xs.toArray,argTypes:=lv},type:=ty,pos:=pos,after:=after,guard:=none}::rest) σ ds I δ:=by
 intro a w he gg ar;have td:=gg.perm az;have te:=ar.kr az;have fl:Sat w I fv:=by have al:eg (fv++δr)=eg fv++eg δr:=List.filterMap_append;have eY:=td.nodup;rw[al,List.nodup_append]at eY;exact⟨td.gE,fun y aw=>td.dQ y (List.mem_append_left _ aw),eY.1,fun b g3=>td.apart b (by rw[al];exact List.mem_append_left _ g3)⟩
 obtain⟨Ar,As,iM⟩:=ao w fl;have It:xs.toArray.map a.eval=vs.toArray:=by simp[he.EF fJ]
 have MR:(resolve a.eval {callee:=.value x,args:=xs.toArray,argTypes:=lv} ty).run C.P w=.ok Ar w:=by simp only[resolve,It,he.cr af];exact As
 refine wpListIn_plain rfl fun K eZ=> ?_;unfold Oper.wpIn;refine⟨fun _ _=>trivial,?_⟩;rw[semAt_eq _ _ _ (by intro c aq;cases aq)];have hk:∀v jE,h_ w I fv R (.returned v) jE→K (a.put (some d) v) jE:=by rintro v jE ⟨jb,ai,δ',ab,ae,aF,bb⟩;cases ab;obtain⟨f1,f2⟩:=frame td ae aF;exact eZ _ _ (k v ai δ' aF.gE bb _ _ (he.put aH v) f1 (te.trans f2))
 have hex:(execOp a.eval {dst:=some d,op:=.call {callee:=.value x,args:=xs.toArray,argTypes:=lv},type:=ty,pos:=pos,after:=after,guard:=none}).run C.P w=(invoke Ar.target Ar.args).run C.P w:=by simp only[execOp,Sem.run_bind,MR,Result.andThen]
 rw[hex];rcases iM with⟨f,e7,ab,ae⟩|⟨l,f,tmps,e7,body,ab,ae⟩
 rw[ab,Oper.uponIn_enter];refine⟨fun h=>(by simp[Ctx.F,Fence.wide]at h),(MQ ae).mono fun e jE an=> ?_⟩;obtain⟨v,ai,δ',rfl,bb⟩:=an;exact hk v jE ⟨v,ai,δ',rfl,bb⟩;rw[ab,Oper.uponIn_round];refine⟨fun h=>(by simp[Ctx.F,Fence.wide]at h),(TI ae).mono fun e jE an=> ?_⟩;obtain⟨v,ai,δ',rfl,bb⟩:=an;exact hk v jE ⟨v,ai,δ',rfl,bb⟩
theorem r_ {d:Nat} {f:FuncId} {xs:List Operand} {lv:Array TypeId} {ty:TypeId} {pos:String} {after:Array Edge} {vs:List Value} {fv δr:List ay} {R:Value→aa→List ay→Prop}
    (dr:eb C.P f=true) (fJ:lq σ xs=some vs) (aH:Nat.blt d C.n=true) (ao:aS C.P f vs I fv R) (az:df δ fv δr)
    (k:∀v ai δ',I.le ai→R v ai δ'→aK C ops Q rest ((d,v)::σ) ds ai (δ'++δr)):
    aK C ops Q ({dst:=some d,op:=.call {callee:=.value (.func f),args:=xs.toArray,argTypes:=lv},type:=ty,pos:=pos,after:=after,guard:=none}::rest) σ ds I δ:=
  e8 rfl fJ aH (ao.tc dr) az k
theorem aff {o:Oper} {d:Nat} {v:Value} (aM:o.guard=none) (o9:o.dst=some d) (aH:Nat.blt d C.n=true) (eY:∀c,o.op≠ .defer c)
 (iM:∀a w,gq C.n σ ds a→Sat w I δ→(execOp a.eval o).run C.P w=.ok (.value v) w) (k:aK C ops Q rest ((d,v)::σ) ds I δ):aK C ops Q (o::rest) σ ds I δ:=by
 intro a w he ao ar;refine wpListIn_plain aM fun K eZ=> ?_;unfold Oper.wpIn;refine⟨fun _ _=>trivial,?_⟩;rw[semAt_eq _ _ _ eY,iM a w he ao,Oper.uponIn_value];refine eZ _ _ ?_;rw[o9];exact k _ _ (he.put aH v) ao ar
theorem q5 {o:Oper} {d:Nat} (aM:o.guard=none) (o9:o.dst=some d) (aH:Nat.blt d C.n=true) (eY:∀c,o.op≠ .defer c)
 (iM:∀a w,gq C.n σ ds a→Sat w I δ→∃v w' ai δ',(execOp a.eval o).run C.P w=.ok (.value v) w'∧Sat w' ai δ'∧er w I δ w' ai δ'∧aK C ops Q rest ((d,v)::σ) ds ai δ'):aK C ops Q (o::rest) σ ds I δ:=by
 intro a w he ao ar;obtain⟨v,w',ai,δ',an,s',t',k⟩:=iM a w he ao;refine wpListIn_plain aM fun K eZ=> ?_;unfold Oper.wpIn;refine⟨fun _ _=>trivial,?_⟩;rw[semAt_eq _ _ _ eY,an,Oper.uponIn_value];refine eZ _ _ ?_;rw[o9];exact k _ _ (he.put aH v) s' (ar.trans t')
theorem Iu {o:Oper} (aM:o.guard=none) (o9:o.dst=none) (eY:∀c,o.op≠ .defer c)
 (iM:∀a w,gq C.n σ ds a→Sat w I δ→∃w' ai δ',(execOp a.eval o).run C.P w=.ok .skip w'∧Sat w' ai δ'∧er w I δ w' ai δ'∧aK C ops Q rest σ ds ai δ'):aK C ops Q (o::rest) σ ds I δ:=by
 intro a w he ao ar;obtain⟨w',ai,δ',an,s',t',k⟩:=iM a w he ao;refine wpListIn_plain aM fun K eZ=> ?_;unfold Oper.wpIn;refine⟨fun _ _=>trivial,?_⟩;rw[semAt_eq _ _ _ eY,an,Oper.uponIn_skip];refine eZ _ _ ?_;exact k _ _ (he.TB o9 _) s' (ar.trans t')
theorem CC {dst:Option Nat} {op:Op} {ty:TypeId} {pos:String} {after:Array Edge} {j t:Nat} {b:Bool} (au:(ops[j]?).bind (·.dst)=some t) (ax:look t σ=some (.bool b))
 (h:aK C ops Q ({dst:=dst,op:=op,type:=ty,pos:=pos,after:=after,guard:=none}::rest) σ ds I δ):
 aK C ops Q ({dst:=dst,op:=op,type:=ty,pos:=pos,after:=after,guard:=some (j,b)}::rest) σ ds I δ:=by
 intro a w he ao ar;have ab:=h a w he ao ar;have aw:yielded ops a.tmps j=some b:=by simp[yielded,au,he.val t _ ax]
 rw[wpListIn,if_pos (by simp[Region.wanted])]at ab;rw[wpListIn,if_pos (by simp[Region.wanted,aw])];exact ab
theorem Iv {d:Nat} {op:Op} {ty:TypeId} {pos:String} {after:Array Edge} {j t:Nat} {b:Bool} {u:Value} (au:(ops[j]?).bind (·.dst)=some t) (ax:look t σ=some u) (cu:u≠ .bool b) (aH:Nat.blt d C.n=true)
 (h:aK C ops Q rest ((d,undef)::σ) ds I δ):
 aK C ops Q ({dst:=some d,op:=op,type:=ty,pos:=pos,after:=after,guard:=some (j,b)}::rest) σ ds I δ:=by
 intro a w he ao ar;have aw:(yielded ops a.tmps j==some b)=false:=by simp only[yielded,au,Option.bind_some,he.val t _ ax];cases u<;>simp_all
 rw[wpListIn,if_neg (by simp[Region.wanted,aw])];exact⟨fun _ _=>trivial,h _ _ (he.put aH _) ao ar⟩
theorem least{p:Nat→Prop}(h:∃m,p m):∃m,p m∧∀k,p k→m≤k:=by
 obtain⟨m,hm⟩:=h
 induction m using Nat.strongRecOn with
 |_ m aY=>by_cases hk:∃k,k<m∧p k;obtain⟨k,hk,az⟩:=hk;exact aY k hk az;exact⟨m,hm,fun k az=>Nat.le_of_not_lt fun av=>hk ⟨k,av,az⟩⟩
def Iw(C:Ctx)(ds:List dN)(Inv:Nat→Env→aa→List ay→Prop)(m:Nat):Act→World→Prop:=fun a w=>
  ∃eI aL ai δ',eI<m∧Inv eI aL ai δ'∧gq C.n aL ds a∧Sat w ai δ'∧er C.aG C.I0 C.cl w ai δ'
theorem ek {c:Code} (Inv:Nat→Env→aa→List ay→Prop) (uN:Nat) (kT:Env) (aB:Inv uN kT I δ) (bT:m3 kT σ)
 (round:∀m aL ai δ',Inv m aL ai δ'→bJ C c (Exit.then (Iw C ds Inv m) Q) aL ds ai δ'):bJ C (.loop c) Q σ ds I δ:=by
 intro a w he ao ar;let J:Nat→Act→World→Prop:=fun m a w=>∃aL ai δ',Inv m aL ai δ'∧gq C.n aL ds a∧Sat w ai δ'∧er C.aG C.I0 C.cl w ai δ'
 have key:∀m a w,J m a w→(Code.loop c).wpIn C.F 0 C.P Q a w:=by
  classical
  intro m a w cj;refine wpIn_loop (fun a w=>∃m,J m a w) (fun a w=>if h:∃m,J m a w then(least h).choose else 0) ⟨m,cj⟩ ?_;intro dW hp hex;obtain⟨aL,ai,δ',aj,o_,kt,l1⟩:=(least hex).choose_spec.1;refine wpIn_mono (round _ aL ai δ' aj dW hp o_ kt l1) ?_;intro e fm r8 aC
  cases e with
  |normal=>
   obtain⟨eI,EH,dV,cI,av,eF,ny,gr,p8⟩:=aC;have Au:∃m,J m fm r8:=⟨eI,EH,dV,cI,eF,ny,gr,p8⟩
   refine⟨Au,?_⟩;simp only[dif_pos hex,dif_pos Au];exact Nat.lt_of_le_of_lt ((least Au).choose_spec.2 _ ⟨EH,dV,cI,eF,ny,gr,p8⟩) av
  |exit id=>exact aC
  |goto l=>exact aC
  |ret=>exact aC
  |panic h3=>exact aC
  |outgrown=>exact aC
 exact key uN a w ⟨kT,I,δ,aB,he.sub bT,ao,ar⟩
theorem cV{Inv:Nat→Env→aa→List ay→Prop}{m:Nat}(eI:Nat)(aL:Env)(av:eI<m)(aj:Inv eI aL I δ)(bT:m3 aL σ):
    bf C (Exit.then (Iw C ds Inv m) Q) .normal σ ds I δ:=
  fun _ _ he ao ar=>⟨eI,aL,I,δ,av,aj,he.sub bT,ao,ar⟩
def MS(C:Ctx)(ds:List dN)(M:Env→aa→List ay→Prop):Act→World→Prop:=fun a w=>
  ∃aL ai δ',M aL ai δ'∧gq C.n aL ds a∧Sat w ai δ'∧er C.aG C.I0 C.cl w ai δ'
theorem mG{x y:Code}(M:Env→aa→List ay→Prop)(af:bJ C x (Exit.then (MS C ds M) Q) σ ds I δ)(aw:∀aL ai δ',M aL ai δ'→bJ C y Q aL ds ai δ'):
 bJ C (.seq x y) Q σ ds I δ:=by
 intro a w he ao ar;refine wpIn_seq (wpIn_mono (af a w he ao ar) ?_);intro e fm r8 aC
 cases e with
 |normal=>obtain⟨aL,ai,δ',hm,o_,kt,l1⟩:=aC;exact aw _ _ _ hm _ _ o_ kt l1
 |exit id=>exact aC
 |goto l=>exact aC
 |ret=>exact aC
 |panic h3=>exact aC
 |outgrown=>exact aC
theorem q6{M:Env→aa→List ay→Prop}(aL:Env)(hm:M aL I δ)(bT:m3 aL σ):bf C (Exit.then (MS C ds M) Q) .normal σ ds I δ:=
  fun _ _ he ao ar=>⟨aL,I,δ,hm,he.sub bT,ao,ar⟩
end
section
variable {C:Ctx} {Q:Exit→Act→World→Prop} {σ:Env} {ds:List dN} {I:aa} {δ:List ay} {ops:Array Oper} {rest:List Oper}
variable {d:Nat} {ty:TypeId} {pos:String} {after:Array Edge}
structure dt(P:Program)(t:TypeId)(agg:Bool)(n:Nat):Prop where
  desc:∃u,P.underlying t=some u∧(match u with|.struct _|.array _ _=>true|_=>false)=agg
  size:(P.info? t).map (·.size)=some n
  one:agg=false→n=1
def pack(agg:Bool)(cs:List Value):Value:=bif agg then .agg cs.toArray else cs.headD undef
def kU:Bool→Nat→List Value→Option Value
  |false,_,c::_=>some c
  |true,0,_=>some (.agg #[])
  |true,1,a::_=>some (.agg #[a])
  |true,2,a::b::_=>some (.agg #[a,b])
  |true,3,a::b::c::_=>some (.agg #[a,b,c])
  |true,4,a::b::c::e::_=>some (.agg #[a,b,c,e])
  |true,5,a::b::c::e::f::_=>some (.agg #[a,b,c,e,f])
  |true,6,a::b::c::e::f::g::_=>some (.agg #[a,b,c,e,f,g])
  |true,7,a::b::c::e::f::g::h::_=>some (.agg #[a,b,c,e,f,g,h])
  |_,_,_=>none
theorem Ix{agg:Bool}{n:Nat}{cs:List Value}{v:Value}(h:kU agg n cs=some v)(ab:agg=false→n=1):
 ∃us:List Value,us.length=n∧v=pack agg us∧∀(j:Nat) (u:Value),us[j]? =some u→cs[j]? =some u:=by
 unfold kU at h;split at h<;>simp at h;all_goals subst h
 rename_i c r;exact⟨[c],by simp[ab rfl],rfl,fun j u au=>by cases j<;>simp_all⟩;exact⟨[],rfl,rfl,fun j u au=>by simp at au⟩;rename_i a r;exact⟨[a],rfl,rfl,fun j u au=>by rcases j with _|j<;>simp_all⟩;rename_i a b r;exact⟨[a,b],rfl,rfl,fun j u au=>by rcases j with _|_|j<;>simp_all⟩;rename_i a b c r;exact⟨[a,b,c],rfl,rfl,fun j u au=>by rcases j with _|_|_|j<;>simp_all⟩;rename_i a b c e r;exact⟨[a,b,c,e],rfl,rfl,fun j u au=>by rcases j with _|_|_|_|j<;>simp_all⟩;rename_i a b c e f r;exact⟨[a,b,c,e,f],rfl,rfl,fun j u au=>by rcases j with _|_|_|_|_|j<;>simp_all⟩;rename_i a b c e f g r;exact⟨[a,b,c,e,f,g],rfl,rfl,fun j u au=>by rcases j with _|_|_|_|_|_|j<;>simp_all⟩;rename_i a b c e f g h r;exact⟨[a,b,c,e,f,g,h],rfl,rfl,fun j u au=>by rcases j with _|_|_|_|_|_|_|j<;>simp_all⟩
theorem EI {P:Program} {t:TypeId} {agg:Bool} {n:Nat} (ar:dt P t agg n) {w:World} {a:Addr} {cs:List Value} (aA:cs.length=n)
 (aq:∀j v,cs[j]? =some v→w.cell? (a.add j)=some v):(Instr.loadAt t (.pointer (some a))).run P w=.ok (pack agg cs) w:=by
 obtain⟨u,hu,TJ⟩:=ar.desc
 have bD:(sizeOf t).run P w=.ok n w:=by
  have h:=ar.size
  cases aC:P.info? t with
  |none=>simp[aC]at h
  |some i=>simp[aC]at h;simp[sizeOf,typeInfo,program,Sem.run,aC,h]
 have MT:(underlying t).run P w=.ok u w:=by simp[underlying,program,Sem.run,hu]
 have Iy:(isAgg t).run P w=.ok agg w:=by simp only[isAgg,Sem.run_bind,MT,Result.andThen];cases u<;>simp at TJ<;>subst TJ<;>rfl
 cases agg with
 |true=>
   have sa:(loadCells a n).run P w=.ok cs.toArray w:=by rw[←aA];exact run_loadCells_list (P:=P) w a cs aq
   simp[Instr.loadAt,Instr.sureAddr,loadVar,Iy,bD,sa,pack]
 |false=>
   have ab:=ar.one rfl
   rw[ab]at aA
   obtain⟨c,rfl⟩:=List.length_eq_one_iff.1 aA
   have aV:w.cell? a=some c:=by have:=aq 0 c rfl;simpa[Addr.add]using this
   simp[Instr.loadAt,Instr.sureAddr,loadVar,Iy,aV,pack]
def cz(C:Ctx)(σ:Env)(ds:List dN)(I:aa)(δ:List ay)(op:Op)(v:Value):Prop:=
  ∀(dst:Option Nat) (ty:TypeId) (pos:String) (after:Array Edge) (g:Option (Nat×Bool)) (a:Act) (w:World),gq C.n σ ds a→Sat w I δ→
    (execOp a.eval {dst:=dst,op:=op,type:=ty,pos:=pos,after:=after,guard:=g}).run C.P w=.ok (.value v) w
theorem cz.MU{op:Op}{v:Value}(h:cz C σ ds I δ op v){a:Act}{w:World}(he:gq C.n σ ds a)(ao:Sat w I δ):∀c,op≠ .defer c:=by
 intro c aq;subst aq;have:=h none 0 "" #[] none a w he ao;simp only[execOp,Sem.run_bind]at this;cases an:(resolve a.eval c 0).run C.P w<;>simp[an]at this
theorem CD{op:Op}{v:Value}(h:cz C σ ds I δ op v)(aH:Nat.blt d C.n=true)(k:aK C ops Q rest ((d,v)::σ) ds I δ):
    aK C ops Q ({dst:=some d,op:=op,type:=ty,pos:=pos,after:=after,guard:=none}::rest) σ ds I δ:=
  fun a w he ao ar=>aff rfl rfl aH (h.MU he ao) (fun a w he ao=>h _ _ _ _ _ a w he ao) k a w he ao ar
theorem CE{x:Operand}{v:Value}(af:bp σ x=some v):
    cz C σ ds I δ (.move x) (v):=
  fun _ _ _ _ _=>(fun a w he _=>by simp[execOp,he.cr af])
theorem afg{x:Operand}{v:Value}(af:bp σ x=some v):
    cz C σ ds I δ (.assign x) (v):=
  fun _ _ _ _ _=>(fun a w he _=>by simp[execOp,he.cr af])
theorem afh{c x y:Operand}{u:Value}(aq:bp σ c=some (.bool true))(af:bp σ x=some u):cz C σ ds I δ (.pick c x y) u:=
  fun _ _ _ _ _ a w he _=>by simp[execOp,asBool,he.cr aq,he.cr af]
theorem afi{c x y:Operand}{v:Value}(aq:bp σ c=some (.bool false))(aw:bp σ y=some v):cz C σ ds I δ (.pick c x y) v:=
  fun _ _ _ _ _ a w he _=>by simp[execOp,asBool,he.cr aq,he.cr aw]
theorem TK{x:Operand}{a:Addr}(af:bp σ x=some (.pointer (some a))):
    cz C σ ds I δ (.nilCheck x) (.pointer (some a)):=
  fun _ _ _ _ _=>(fun a w he _=>by simp[execOp,he.cr af])
theorem afj{x:Operand}{i:Nat}{vs:Array Value}{v:Value}(af:bp σ x=some (.tuple vs))(ax:vs[i]? =some v):
    cz C σ ds I δ (.extract x i) (v):=
  fun _ _ _ _ _=>(fun a w he _=>by simp[execOp,Instr.extract,he.cr af,ax])
theorem afk{f:Fn}{first caps:List Operand}{vs us:List Value}(af:lq σ first=some vs)(aw:lq σ caps=some us):
    cz C σ ds I δ (.makeFunc f first.toArray caps.toArray) (.func f vs.toArray us.toArray):=
  fun _ _ _ _ _=>(fun a w he _=>by simp[execOp,Instr.makeFunc,he.EF af,he.EF aw])
theorem tf {op:BinOp} {t t':TypeId} {x y:Operand} {u v z:Value} (af:bp σ x=some u) (aw:bp σ y=some v)
    (aM:∀w,(eqGuard op t x y u v).run C.P w=.ok () w) (iM:∀w,(binOp op t u v).run C.P w=.ok z w):cz C σ ds I δ (.binOp op t x y t') z:=
  fun _ _ _ _ _ a w he _=>by simp[execOp,he.cr af,he.cr aw,aM,iM]
theorem Av{n:Int}(h:-9223372036854775808≤n∧n≤9223372036854775807):IntKind.i64.wrap n=n:=IntWalk.i64_in n h
theorem CF{P:Program}(op:BinOp)(t:TypeId)(x y:Operand)(k cB:IntKind)(a b:Int)(w:World):(eqGuard op t x y (.int k a) (.int cB b)).run P w=.ok () w:=by
 unfold eqGuard;cases op<;>rfl
theorem afl{P:Program}(op:BinOp)(t:TypeId)(x y:Operand)(a b:Bool)(w:World):(eqGuard op t x y (.bool a) (.bool b)).run P w=.ok () w:=by
 unfold eqGuard;cases op<;>rfl
theorem afm{P:Program}(op:BinOp)(t:TypeId)(x y:Operand)(a b:ByteArray)(w:World):(eqGuard op t x y (.string a) (.string b)).run P w=.ok () w:=by
 unfold eqGuard;cases op<;>rfl
theorem afn{P:Program}(op:BinOp)(t:TypeId)(x y:Operand)(a b:Option Addr)(n m c e:Nat)(w:World):(eqGuard op t x y (.slice a n c) (.slice b m e)).run P w=.ok () w:=by
 unfold eqGuard;cases op<;>rfl
theorem TL{t t':TypeId}{x y:Operand}{a b:Int}(af:bp σ x=some (.int .i64 a))(aw:bp σ y=some (.int .i64 b)):cz C σ ds I δ (.binOp .add t x y t') (.int .i64 (IntKind.i64.wrap (a+b))):=
  tf af aw (fun _=>CF ..) (fun _=>rfl)
theorem tg{t t':TypeId}{x y:Operand}{a b c:Int}(af:bp σ x=some (.int .i64 a))(aw:bp σ y=some (.int .i64 b))(aq:a+b=c)(al:-9223372036854775808≤c∧c≤9223372036854775807):cz C σ ds I δ (.binOp .add t x y t') (.int .i64 c):=by
 have:=TL (C:=C) (ds:=ds) (I:=I) (δ:=δ) (t:=t) (t':=t') af aw;rwa[aq,Av al]at this
theorem TM{t t':TypeId}{x y:Operand}{a b:Int}(af:bp σ x=some (.int .i64 a))(aw:bp σ y=some (.int .i64 b)):cz C σ ds I δ (.binOp .sub t x y t') (.int .i64 (IntKind.i64.wrap (a-b))):=
  tf af aw (fun _=>CF ..) (fun _=>rfl)
theorem gG{t t':TypeId}{x y:Operand}{a b c:Int}(af:bp σ x=some (.int .i64 a))(aw:bp σ y=some (.int .i64 b))(aq:a-b=c)(al:-9223372036854775808≤c∧c≤9223372036854775807):cz C σ ds I δ (.binOp .sub t x y t') (.int .i64 c):=by
 have:=TM (C:=C) (ds:=ds) (I:=I) (δ:=δ) (t:=t) (t':=t') af aw;rwa[aq,Av al]at this
theorem afo{t t':TypeId}{x y:Operand}{a b:Int}(af:bp σ x=some (.int .i64 a))(aw:bp σ y=some (.int .i64 b)):cz C σ ds I δ (.binOp .mul t x y t') (.int .i64 (IntKind.i64.wrap (a*b))):=
  tf af aw (fun _=>CF ..) (fun _=>rfl)
theorem yC{t t':TypeId}{x y:Operand}{a b c:Int}(af:bp σ x=some (.int .i64 a))(aw:bp σ y=some (.int .i64 b))(aq:a*b=c)(al:-9223372036854775808≤c∧c≤9223372036854775807):cz C σ ds I δ (.binOp .mul t x y t') (.int .i64 c):=by
 have:=afo (C:=C) (ds:=ds) (I:=I) (δ:=δ) (t:=t) (t':=t') af aw;rwa[aq,Av al]at this
def vT:BinOp→Int→Int→Option Bool
  |.lss,a,b=>some (decide (a<b))
  |.leq,a,b=>some (decide (a≤b))
  |.gtr,a,b=>some (decide (b<a))
  |.geq,a,b=>some (decide (b≤a))
  |.eql,a,b=>some (decide (a=b))
  |.neq,a,b=>some (decide (a≠b))
  |_,_,_=>none
theorem kV{op:BinOp}{t t':TypeId}{x y:Operand}{a b:Int}{z:Bool}(af:bp σ x=some (.int .i64 a))(aw:bp σ y=some (.int .i64 b))(a2:vT op a b=some z):cz C σ ds I δ (.binOp op t x y t') (.bool z):=
  tf af aw (fun _=>CF ..) (fun w=>by
   cases op<;>simp only[vT,Option.some.injEq,reduceCtorEq]at a2;all_goals subst a2
   all_goals first|rfl|(show Result.ok (Value.bool (!(a==b))) w=_;by_cases h:a=b<;>simp[h]))
theorem yD{op:BinOp}{t t':TypeId}{x y:Operand}{a b:Int}{p:Prop}{ip:Decidable p}(af:bp σ x=some (.int .i64 a))(aw:bp σ y=some (.int .i64 b))(a2:vT op a b=some (@decide p ip))(az:p):cz C σ ds I δ (.binOp op t x y t') (.bool true):=
  kV af aw (by rw[a2];simp[az])
theorem l2{op:BinOp}{t t':TypeId}{x y:Operand}{a b:Int}{p:Prop}{ip:Decidable p}(af:bp σ x=some (.int .i64 a))(aw:bp σ y=some (.int .i64 b))(a2:vT op a b=some (@decide p ip))(az:¬p):cz C σ ds I δ (.binOp op t x y t') (.bool false):=
  kV af aw (by rw[a2];simp[az])
def yE:BinOp→Bool→Bool→Option Bool
  |.eql,a,b=>some (a==b)
  |.neq,a,b=>some (a !=b)
  |_,_,_=>none
theorem vU {op:BinOp} {t t':TypeId} {x y:Operand} {a b z:Bool} (ar:C.P.underlying t=some .bool)
    (af:bp σ x=some (.bool a)) (aw:bp σ y=some (.bool b)) (a2:yE op a b=some z):cz C σ ds I δ (.binOp op t x y t') (.bool z):=
  tf af aw (fun _=>afl ..) (fun w=>by
   have hu:(underlying t).run C.P w=.ok .bool w:=by simp[underlying,program,Sem.run,ar]
   have he:(Op.equal t (.bool a) (.bool b)).run C.P w=.ok (a==b) w:=by show(Op.equalIn (9999+1) t (.bool a) (.bool b)).run C.P w=_;rw[Op.equalIn];simp only[Sem.run_bind,hu,Result.andThen];rfl
   have ae:∀f:Bool→Bool,(do pure (Value.bool (f (←Op.equal t (.bool a) (.bool b)))):Sem Value).run C.P w=.ok (.bool (f (a==b))) w:=fun f=>by simp only[Sem.run_bind,he,Result.andThen];rfl
   cases op<;>simp only[yE,Option.some.injEq,reduceCtorEq]at a2;subst a2;exact ae id;subst a2;exact ae not)
def Iz:BinOp→ByteArray→ByteArray→Option Bool
  |.eql,a,b=>some (a.toList==b.toList)
  |.neq,a,b=>some (!(a.toList==b.toList))
  |_,_,_=>none
theorem MV {op:BinOp} {t t':TypeId} {x y:Operand} {a b:ByteArray} {z:Bool}
    (af:bp σ x=some (.string a)) (aw:bp σ y=some (.string b)) (a2:Iz op a b=some z):cz C σ ds I δ (.binOp op t x y t') (.bool z):=
  tf af aw (fun _=>afm ..) (fun w=>by
   cases op<;>simp only[Iz,Option.some.injEq,reduceCtorEq]at a2;all_goals subst a2
   all_goals rfl)
def IA:BinOp→Option Addr→Option Bool
  |.eql,a=>some a.isNone
  |.neq,a=>some a.isSome
  |_,_=>none
theorem EJ {op:BinOp} {t e:TypeId} {t':TypeId} {x y:Operand} {ad:Option Addr} {n c:Nat} {z:Bool} (ar:C.P.underlying t=some (.slice e))
    (af:bp σ x=some (.slice ad n c)) (aw:bp σ y=some (.slice none 0 0)) (a2:IA op ad=some z):cz C σ ds I δ (.binOp op t x y t') (.bool z):=
  tf af aw (fun _=>afn ..) (fun w=>by
   have hu:(underlying t).run C.P w=.ok (.slice e) w:=by simp[underlying,program,Sem.run,ar]
   have he:(Op.equal t (.slice ad n c) (.slice none 0 0)).run C.P w=.ok ad.isNone w:=by show(Op.equalIn (9999+1) t (.slice ad n c) (.slice none 0 0)).run C.P w=_;rw[Op.equalIn];simp only[Sem.run_bind,hu,Result.andThen];cases ad<;>rfl
   have ae:∀f:Bool→Bool,(do pure (Value.bool (f (←Op.equal t (.slice ad n c) (.slice none 0 0)))):Sem Value).run C.P w=.ok (.bool (f ad.isNone)) w:=fun f=>by simp only[Sem.run_bind,he,Result.andThen];rfl
   cases op<;>simp only[IA,Option.some.injEq,reduceCtorEq]at a2;subst a2;exact ae id;subst a2;have:=ae not;cases ad<;>exact this)
theorem afp{t:TypeId}{x:Operand}{b:Bool}(af:bp σ x=some (.bool b)):cz C σ ds I δ (.unOp .not t x) (.bool (!b)):=
  fun _ _ _ _ _ a w he _=>by simp[execOp,he.cr af,Op.unary]
theorem afq{t e:TypeId}{x:Operand}{ad:Option Addr}{n c:Nat}(ar:C.P.underlying t=some (.slice e))(af:bp σ x=some (.slice ad n c)):
    cz C σ ds I δ (.call {callee:=.builtin .len,args:= #[x],argTypes:= #[t]}) (.int .i64 n):=
  fun _ _ _ _ _=>(fun a w he _=>by
   have hu:(underlying t).run C.P w=.ok (.slice e) w:=by simp[underlying,program,Sem.run,ar]
   simp[execOp,resolve,invoke,builtin,Builtin.len_,he.cr af,hu,goInt])
theorem TN{t:TypeId}{x:Operand}{s:ByteArray}(ar:C.P.underlying t=some .string)(af:bp σ x=some (.string s)):
    cz C σ ds I δ (.call {callee:=.builtin .len,args:= #[x],argTypes:= #[t]}) (.int .i64 s.size):=
  fun _ _ _ _ _=>(fun a w he _=>by
   have hu:(underlying t).run C.P w=.ok .string w:=by simp[underlying,program,Sem.run,ar]
   simp[execOp,resolve,invoke,builtin,Builtin.len_,he.cr af,hu,goInt])
def c9:Value→List Value
  |.agg cs=>cs.toList
  |v=> [v]
theorem xd(v:Value):v.cells=(c9 v).toArray:=by cases v<;>simp[Value.cells,c9]
theorem afr {e:TypeId} {x:Operand} {v:Value} {cs:List Value} (af:bp σ x=some v) (ax:c9 v=cs) (aH:Nat.blt d C.n=true)
    (k:∀b,aK C ops Q rest ((d,.pointer (some ⟨b,0,none⟩))::σ) ds I (.box b e cs::δ)):
    aK C ops Q ({dst:=some d,op:=.box e x,type:=ty,pos:=pos,after:=after,guard:=none}::rest) σ ds I δ:=
  q5 rfl rfl aH (by intro c aq;cases aq) (fun a w he ao=>by subst ax;obtain⟨s',t'⟩:=ao.alloc (.box w.heap.size e (c9 v)) (.cells (c9 v).toArray e) rfl (heap_alloc_new w _);refine⟨_,_,_,_,?_,s',t',k w.heap.size⟩;simp[execOp,Instr.box,newVar,newRow,newObj,Sem.run,he.cr af,xd])
theorem afs {e:TypeId} {z:Value} {cs:List Value} (a2:(C.P.info? e).map (·.zero)=some (some z)) (ax:c9 z=cs) (aH:Nat.blt d C.n=true)
    (k:∀b,aK C ops Q rest ((d,.pointer (some ⟨b,0,none⟩))::σ) ds I (.box b e cs::δ)):
    aK C ops Q ({dst:=some d,op:=.alloc e,type:=ty,pos:=pos,after:=after,guard:=none}::rest) σ ds I δ:=
  q5 rfl rfl aH (by intro c aq;cases aq) (fun a w he ao=>by
   subst ax;obtain⟨s',t'⟩:=ao.alloc (.box w.heap.size e (c9 z)) (.cells (c9 z).toArray e) rfl (heap_alloc_new w _);refine⟨_,_,_,_,?_,s',t',k w.heap.size⟩
   cases aC:C.P.info? e with
   |none=>simp[aC]at a2
   |some i=>simp[aC]at a2;simp[execOp,Instr.alloc,zeroValue,typeInfo,program,newVar,newRow,newObj,Sem.run,aC,a2,xd])
inductive Has:List ay→ay→Prop
  |here {x:ay} {r:List ay}:Has (x::r) x
  |there {x y:ay} {r:List ay} (h:Has r x):Has (y::r) x
theorem Has.mem{δ:List ay}{x:ay}(h:Has δ x):x∈δ:=by
 induction h with
 |here=>exact List.mem_cons_self ..
 |there _ aY=>exact List.mem_cons_of_mem _ aY
theorem MW{w:World}{b j:Nat}{e:TypeId}{cs:List Value}(h:(ay.box b e cs).holds w):w.cell? ⟨b,j,none⟩=cs[j]? :=by
 have et:w.heap[b]? =some (.cells cs.toArray e (0,0)):=h;simp[World.cell?,et]
theorem add_plain(g i j:Nat):(⟨g,i,none⟩:Addr).add j=⟨g,i+j,none⟩:=by unfold Addr.add;split<;>simp_all
theorem p9 {t e:TypeId} {x:Operand} {b off n:Nat} {agg:Bool} {cs:List Value} {v:Value} (ar:dt C.P t agg n) (af:bp σ x=some (.pointer (some ⟨b,off,none⟩))) (bK:Has δ (.box b e cs))
    (ax:kU agg n (cs.drop off)=some v):
    cz C σ ds I δ (.load t x) (v):=
  fun _ _ _ _ _=>(fun a w he ao=>by obtain⟨us,aA,rfl,hu⟩:=Ix ax ar.one;have:=EI ar (w:=w) (a:=⟨b,off,none⟩) aA (fun j v au=>by rw[add_plain,MW (ao.dQ _ bK.mem)];have:=hu j v au;simpa[List.getElem?_drop]using this);simp[execOp,he.cr af,this])
def cS:List Value→Nat→List Value→Option (List Value)
  |cs,_,[]=>some cs
  |_::cs,0,v::vs=>(cS cs 0 vs).map (v::·)
  |c::cs,k+1,vs=>(cS cs k vs).map (c::·)
  | [],_,_::_=>none
theorem EK{P:Program}{b:Nat}{e:TypeId}:∀(vs:List Value) (off i:Nat) (cs:List Value) (w:World),w.heap[b]? =some (.cells cs.toArray e (0,0))→off+i+vs.length≤cs.length→(∀v∈vs,v.oneCell'=true)→
    ∃w',(storeCells ⟨b,off,none⟩ vs i).run P w=.ok () w'∧w'.os=w.os∧w'.tape=w.tape∧w'.output=w.output∧w'.heap.size=w.heap.size∧(∀k,k≠b→w'.heap[k]? =w.heap[k]?)∧
      ∃gu:List Value,w'.heap[b]? =some (.cells gu.toArray e (0,0))∧gu.length=cs.length∧∀j:Nat,gu[j]? =if off+i≤j∧j<off+i+vs.length then vs[j-(off+i)]? else cs[j]?
  | [],off,i,cs,w,hw,_,_=>⟨w,rfl,rfl,rfl,rfl,rfl,fun _ _=>rfl,cs,hw,rfl,fun j=>by rw[if_neg (by simp only[List.length_nil];omega)]⟩
  |v::r,off,i,cs,w,hw,hle,ab=>by
   have hlen:off+i<cs.length:=by simp at hle;omega
   have aq:w.cell? ⟨b,off+i,none⟩=some cs[off+i]:=by simp[World.cell?,hw,hlen]
   have a7:w.frozen? ⟨b,off+i,none⟩=false:=frozen_of_row w b (off+i) cs.toArray e hw;have ch:(store ((⟨b,off,none⟩:Addr).add i) v).run P w=.ok () (w.setCell ⟨b,off+i,none⟩ v):=by rw[add_plain,run_store P w _ v _ (ab v (by simp))];simp[aq,a7]
   have lx:(w.setCell ⟨b,off+i,none⟩ v).heap[b]? =some (.cells (cs.set (off+i) v).toArray e (0,0)):=by rw[heap_setCell_same w b (off+i) cs.toArray e v hw];simp
   obtain⟨w',an,du,dy,gv,oa,p_,gu,pa,yF,vV⟩:=EK r off (i+1) (cs.set (off+i) v) (w.setCell ⟨b,off+i,none⟩ v) lx (by simp at hle⊢;omega) (fun u hu=>ab u (by simp[hu]));refine⟨w',?_,du,dy,gv,oa.trans (by simp),fun k hk=>(p_ k hk).trans (heap_setCell_other w _ k v hk),gu,pa,by simpa using yF,fun j=> ?_⟩;simp only[storeCells,Sem.run_bind,ch,Result.andThen];exact an;rw[vV j];by_cases au:j=off+i;subst au;rw[if_neg (by omega),if_pos (by simp)];simp[hlen];by_cases gw:off+(i+1)≤j∧j<off+(i+1)+r.length;rw[if_pos gw,if_pos (by simp;omega)];have:j-(off+i)=(j-(off+(i+1)))+1:=by omega
   rw[this];rfl;rw[if_neg gw,if_neg (by simp;omega)];rw[List.getElem?_set_ne (by omega)]
theorem CG:∀(cs:List Value) (off:Nat) (vs gu:List Value),cS cs off vs=some gu→off+vs.length≤max cs.length (off)∧gu.length=cs.length∧(vs≠[]→off+vs.length≤cs.length)∧∀j,gu[j]? =if off≤j∧j<off+vs.length then vs[j-off]? else cs[j]?
  |cs,off,[],gu,h=>by
   have:cs=gu:=by cases cs<;>cases off<;>simpa[cS]using h
   subst this;exact⟨by simp;omega,rfl,by simp,fun j=>by rw[if_neg (by simp only[List.length_nil];omega)]⟩
  | [],off,v::vs,gu,h=>by cases off<;>simp[cS]at h
  |c::cs,0,v::vs,gu,h=>by
   simp only[cS,Option.map_eq_some_iff]at h;obtain⟨r,an,rfl⟩:=h;obtain⟨ab,ae,aF,bb⟩:=CG cs 0 vs r an;have hle:vs.length≤cs.length:=by simpa using ab
   refine⟨by simp;omega,by simp[ae],fun _=>by simp;omega,fun j=> ?_⟩
   cases j with
   |zero=>simp
   |succ j=>
     have:=bb j
     simp only[List.getElem?_cons_succ,this]
     by_cases au:j<vs.length
     · rw[if_pos (by omega),if_pos (by simp;omega)];simp
     · rw[if_neg (by omega),if_neg (by simp;omega)]
  |c::cs,k+1,v::vs,gu,h=>by
   simp only[cS,Option.map_eq_some_iff]at h;obtain⟨r,an,rfl⟩:=h;obtain⟨ab,ae,aF,bb⟩:=CG cs k (v::vs) r an;have hle:=aF (by simp);simp only[List.length_cons]at hle;refine⟨by simp;omega,by simp[ae],fun _=>by simp;omega,fun j=> ?_⟩
   cases j with
   |zero=>simp
   |succ j=>
     have:=bb j
     simp only[List.getElem?_cons_succ,this]
     by_cases au:k≤j∧j<k+(v::vs).length
     · rw[if_pos au,if_pos (by omega)]
       congr 1;omega
     · rw[if_neg au,if_neg (by omega)]
theorem MX {t e:TypeId} {x y:Operand} {b off n:Nat} {agg:Bool} {cs vs gu:List Value} {v:Value} {δ':List ay} (ar:dt C.P t agg n) (af:bp σ x=some (.pointer (some ⟨b,off,none⟩))) (aw:bp σ y=some v)
    (ax:c9 v=vs) (EL:Nat.beq vs.length n=true) (ab:vs.all (·.oneCell')=true) (bK:bc δ (.box b e cs) δ' (.box b e gu)) (ch:cS cs off vs=some gu) (k:aK C ops Q rest σ ds I δ'):
    aK C ops Q ({dst:=none,op:=.store t x y,type:=ty,pos:=pos,after:=after,guard:=none}::rest) σ ds I δ:=
  Iu rfl rfl (by intro c aq;cases aq) (fun a w he ao=>by
   obtain⟨l,r,fi,fw⟩:=bK.split;have hw:w.heap[b]? =some (.cells cs.toArray e (0,0)):=ao.dQ (.box b e cs) (by rw[fi];simp);obtain⟨_,aF,bb,eX⟩:=CG _ _ _ _ ch;have aD:vs.length=n:=Nat.eq_of_beq_eq_true EL
   have bD:(sizeOf t).run C.P w=.ok n w:=by
    have h:=ar.size
    cases aC:C.P.info? t with
    |none=>simp[aC]at h
    |some i=>simp[aC]at h;simp[sizeOf,typeInfo,program,Sem.run,aC,h]
   subst aD;have cE:∀u∈vs,u.oneCell'=true:=by simpa using ab
   by_cases r9:vs= [];subst r9;have:gu=cs:=by cases cs<;>cases off<;>simpa[cS]using ch.symm
   subst this;refine⟨w,I,δ',?_,?_,?_,k⟩;simp[execOp,he.cr af,he.cr aw,Instr.storeAt,Instr.sureAddr,storeVar,bD,xd,ax,storeCells];have:δ'=δ:=by rw[fi,fw]
   rw[this];exact ao;have:δ'=δ:=by rw[fi,fw]
   rw[this];exact er.refl _ _ _;obtain⟨w',an,du,dy,gv,oa,p_,sc,pa,yF,vV⟩:=EK (P:=C.P) vs off 0 cs w hw (by have:=bb r9;omega) cE;have fl:sc=gu:=by apply List.ext_getElem?;intro j;rw[vV j,eX j];simp
   subst fl;obtain⟨s',t'⟩:=ao.swap bK du dy gv (by omega) (fun k _ hk=>p_ k (fun e=>hk (by rw[e];rfl))) pa (fun k hk=>.inl hk);refine⟨w',I,δ',?_,s',t',k⟩;simp[execOp,he.cr af,he.cr aw,Instr.storeAt,Instr.sureAddr,storeVar,bD,xd,ax,an])
theorem TO {t:TypeId} {x:Operand} {dE:Array Field} {k:Nat} {f:Field} {a eQ:Addr} (ar:C.P.underlying t=some (.struct dE)) (a7:dE[k]? =some f) (bD:(C.P.info? f.type).map (fun i=>Nat.blt 0 i.size)=some true)
    (af:bp σ x=some (.pointer (some a))) (bk:a.add f.offset=eQ):
    cz C σ ds I δ (.fieldAddr t x k) (.pointer (some eQ)):=
  fun _ _ _ _ _=>(fun ac w he _=>by
   subst bk;have hu:(underlying t).run C.P w=.ok (.struct dE) w:=by simp[underlying,program,Sem.run,ar]
   cases aC:C.P.info? f.type with
   |none=>simp[aC]at bD
   |some i=>
     have aj:¬i.size=0:=by simp[aC,Nat.blt_eq]at bD;omega
     simp[execOp,he.cr af,Instr.fieldAt,Instr.sureAddr,hu,a7,fieldPlace,sizeOf,typeInfo,program,Sem.run,aC,aj])
def At(I:aa)(ad:Option Addr)(m:Nat)(vs:List Value):Prop:=∀j v,vs[j]? =some v→I.nw (ad.map (·.add (m+j)))=some v
theorem At.mono{J:aa}{ad:Option Addr}{m:Nat}{vs:List Value}(h:At I ad m vs)(aA:I.le J):At J ad m vs:=fun j v au=>aa.TC aA (h j v au)
theorem Cells.at{ad:Option Addr}{xs vs:List Value}(h:Cells I ad xs)(m:Nat)(hm:∀j v,vs[j]? =some v→xs[m+j]? =some v):At I ad m vs:=fun j v au=>h _ _ (hm j v au)
theorem At.isSome{ad:Option Addr}{m:Nat}{v:Value}{vs:List Value}(h:At I ad m (v::vs)):ad.isSome=true:=by
 have:=h 0 v rfl
 cases ad with
 |none=>simp[aa.nw]at this
 |some a=>rfl
def dh(ad:Option Addr)(m:Nat):Value:=.pointer (ad.map (·.add m))
theorem add_add(a:Addr)(m k:Nat):(a.add m).add k=a.add (m+k):=by
 unfold Addr.add;by_cases ab:m=0<;>by_cases ae:k=0<;>simp[ab,ae,Nat.add_assoc]
theorem IB {t e:TypeId} {x y:Operand} {ad:Option Addr} {n c i size:Nat} (ar:C.P.underlying t=some (.slice e)) (bD:(C.P.info? e).map (·.size)=some size)
    (af:bp σ x=some (.slice ad n c)) (aw:bp σ y=some (.int .i64 (i:Int))) (aj:i<n) (l3:ad.isSome=true):
    cz C σ ds I δ (.indexAddr t x y) (dh ad (i*size)):=
  fun _ _ _ _ _=>(fun a w he _=>by
   have hu:(underlying t).run C.P w=.ok (.slice e) w:=by simp[underlying,program,Sem.run,ar]
   obtain⟨a0,rfl⟩:=Option.isSome_iff_exists.1 l3
   cases aC:C.P.info? e with
   |none=>simp[aC]at bD
   |some inf=>simp[aC]at bD;simp[execOp,he.cr af,he.cr aw,Instr.indexAt,asIntOf,hu,sizeOf,typeInfo,program,Sem.run,aC,bD,dh];intro hle;omega)
theorem aft {t:TypeId} {x:Operand} {dE:Array Field} {k:Nat} {f:Field} {b o:Nat} (q:Nat) (ar:C.P.underlying t=some (.struct dE)) (a7:dE[k]? =some f) (aC:f.offset=q) (bD:(C.P.info? f.type).map (fun i=>Nat.blt 0 i.size)=some true)
 (af:bp σ x=some (.pointer (some ⟨b,o,none⟩))):cz C σ ds I δ (.fieldAddr t x k) (.pointer (some ⟨b,o+q,none⟩)):=by
 subst aC;exact TO ar a7 bD af (add_plain _ _ _)
theorem afu {t e:TypeId} {x y:Operand} {ad:Option Addr} {n c size:Nat} {i:Int} (ar:C.P.underlying t=some (.slice e)) (bD:(C.P.info? e).map (·.size)=some size)
 (af:bp σ x=some (.slice ad n c)) (aw:bp σ y=some (.int .i64 i)) (aB:0≤i) (aj:i<n) (l3:ad.isSome=true):cz C σ ds I δ (.indexAddr t x y) (dh ad (i.toNat*size)):=by
 obtain⟨k,rfl⟩:=Int.eq_ofNat_of_zero_le aB;exact IB ar bD af aw (by omega) l3
theorem afv {t:TypeId} {x:Operand} {dE:Array Field} {k:Nat} {f:Field} {ad:Option Addr} {m:Nat} (q:Nat) (ar:C.P.underlying t=some (.struct dE)) (a7:dE[k]? =some f) (aC:f.offset=q) (bD:(C.P.info? f.type).map (fun i=>Nat.blt 0 i.size)=some true)
 (af:bp σ x=some (dh ad m)) (l3:ad.isSome=true):cz C σ ds I δ (.fieldAddr t x k) (dh ad (m+q)):=by
 obtain⟨a0,rfl⟩:=Option.isSome_iff_exists.1 l3;subst aC;exact TO ar a7 bD af (add_add a0 m f.offset)
theorem q7 {t:TypeId} {x:Operand} {ad:Option Addr} {m k n:Nat} {agg:Bool} {vs:List Value} {v:Value} (ar:dt C.P t agg n) (aW:At I ad m vs) (af:bp σ x=some (dh ad (m+k)))
    (ax:kU agg n (vs.drop k)=some v) (aD:Nat.blt 0 n=true):cz C σ ds I δ (.load t x) v:=
  fun _ _ _ _ _ a w he ao=>by
   obtain⟨us,aA,rfl,hu⟩:=Ix ax ar.one;have kW:0<n:=by simpa[Nat.blt_eq]using aD
   have IC:ad.isSome=true:=by
    obtain⟨nz,MY⟩:∃nz,us[0]? =some nz:=⟨us[0]'(by omega),by simp⟩
    have ab:=hu 0 nz MY;simp only[List.getElem?_drop]at ab;have:=aW _ _ ab
    cases ad with
    |none=>simp[aa.nw]at this
    |some a=>rfl
   obtain⟨a0,rfl⟩:=Option.isSome_iff_exists.1 IC;have:=EI ar (w:=w) (a:=a0.add (m+k)) aA (fun j v au=>by rw[add_add];have ab:=hu j v au;simp only[List.getElem?_drop]at ab;have ae:=aW _ _ ab;simp only[Option.map_some,aa.nw]at ae;rw[Nat.add_assoc];exact ao.cell ae);simp[execOp,he.cr af,dh,this]
theorem EM {t:TypeId} {x:Operand} {ad:Option Addr} {m n:Nat} {agg:Bool} {vs:List Value} {v:Value} (ar:dt C.P t agg n) (aW:At I ad m vs) (af:bp σ x=some (dh ad m))
    (ax:kU agg n vs=some v) (aD:Nat.blt 0 n=true):cz C σ ds I δ (.load t x) v:=
  q7 (k:=0) ar aW af ax aD
inductive EN(P:Program)(σ:Env)(δ:List ay):ResultVar→Value→Prop
  |tmp {t:Nat} {v:Value} (h:look t σ=some v):EN P σ δ (.tmp t) v
  |cell {a:Nat} {t e:TypeId} {b n:Nat} {agg:Bool} {cs:List Value} {v:Value} (h:look a σ=some (.pointer (some ⟨b,0,none⟩))) (ar:dt P t agg n) (bK:Has δ (.box b e cs)) (ax:kU agg n cs=some v):EN P σ δ (.cell a t) v
inductive m4(P:Program)(σ:Env)(δ:List ay):List ResultVar→List Value→Prop
  |nil:m4 P σ δ [] []
  |cons {r:ResultVar} {v:Value} {rs:List ResultVar} {vs:List Value} (h:EN P σ δ r v) (t:m4 P σ δ rs vs):m4 P σ δ (r::rs) (v::vs)
def dF:List Value→Value
  | [v]=>v
  |vs=>.tuple vs.toArray
def CH(tmps:Array Value):ResultVar→Sem Value
  |.tmp t=>pure (tmps.getD t undef)
  |.cell p t=>do loadVar t (←asAddr (tmps.getD p undef))
theorem afw{P:Program}{n:Nat}{a:Act}{w:World}(he:gq n σ ds a)(MZ:∀x∈δ,x.holds w){rs:List ResultVar}{vs:List Value}(h:m4 P σ δ rs vs):
 (rs.mapM (CH a.tmps)).run P w=.ok vs w:=by
 induction h with
 |nil=>rfl
 |cons ax _ aY=>
  rename_i r v rs vs _
  have vW:(CH a.tmps r).run P w=.ok v w:=by
   cases ax with
   |tmp h=>simp[CH,he.val _ _ h]
   |cell h ar bK ax=>obtain⟨us,aA,rfl,hu⟩:=Ix ax ar.one;have al:=MZ _ bK.mem;have:=EI ar (P:=P) (w:=w) aA (fun j v au=>by rw[add_plain,MW al,Nat.zero_add];exact hu j v au);simp only[Instr.loadAt,Instr.sureAddr,Sem.run_bind,Sem.run_pure,Result.andThen]at this;simp only[CH,Array.getD_eq_getD_getElem?,he.val _ _ h,Option.getD_some,asAddr,Sem.run_bind,Sem.run_pure,Result.andThen];exact this
  simp only[List.mapM_cons,Sem.run_bind,vW,aY,Result.andThen,Sem.run_pure]
theorem M0{P:Program}{fn:Func}{n:Nat}{a:Act}{w:World}(he:gq n σ ds a)(MZ:∀x∈δ,x.holds w){rs:List ResultVar}{vs:List Value}(a7:fn.results=rs.toArray)(h:m4 P σ δ rs vs):
 (results fn a.tmps).run P w=.ok (dF vs) w:=by
 have ab:=afw (P:=P) he MZ h
 have ae:results fn a.tmps=(do let vs←(rs.toArray).mapM (CH a.tmps);pure (if h:vs.size=1 then vs[0]else .tuple vs)):=by
  rw[←a7];have:CH a.tmps=(fun|.tmp t=>pure (a.tmps.getD t undef)|.cell p t=>do loadVar t (←asAddr (a.tmps.getD p undef))):=by funext r;cases r<;>rfl
  rw[this];rfl
 rw[ae];simp only[List.mapM_toArray,Sem.run_bind,Sem.run_map,ab,Result.andThen]
 match vs with
 | []=>simp[dF]
 | [v]=>simp[dF]
 |_::_::_=>simp[dF]
def Aw:Nat→List Value→Env
  |_,[]=> []
  |k,v::r=>(k,v)::Aw (k+1) r
theorem M1:∀(vs:List Value) (k d:Nat) (v:Value),look d (Aw k vs)=some v→k≤d∧vs[d-k]? =some v
  | [],_,_,_,h=>by simp[Aw,look]at h
  |u::r,k,d,v,h=>by
   rw[Aw,tb]at h;by_cases e:k=d;subst e;simp at h;subst h;simp;simp[e]at h;obtain⟨ab,ae⟩:=M1 r (k+1) d v h;refine⟨by omega,?_⟩;have:d-k=(d-(k+1))+1:=by omega
   rw[this];simpa using ae
def dN.M3:dN→ay
  |.mark r=>.obj r (.deferred (some []))
  |.call _=>.row (.slice none 0 0) 0 1 1 []
def q8(ds:List dN):List ay:=ds.map dN.M3
theorem TP{P:Program}{fn:Func}{R:Value→aa→List ay→Prop}{aG:World}{I0:aa}{cl dx:List ay}{tmps:Array Value}{v:Value}(bT:dx.Sublist δ):
    ∀(ds:List dN) (w:World),Sat w I (q8 ds++δ)→er aG I0 cl w I (q8 ds++δ)→(∀w',(∀x∈δ,x.holds w')→(results fn tmps).run P w'=.ok v w')→R v I dx→
      LeavesInM Fence.wide 0 P fn tmps (h_ aG I0 cl R) (marksOf ds) .returning w
  | [],w,ao,ar,an,bL=>⟨v,an w (fun x af=>ao.dQ x af),v,I,dx,rfl,(Sat.sub ao bT).1,ar.trans (Sat.sub ao bT).2,bL⟩
  |.call c::ds,w,ao,ar,an,bL=>by have h:=(ao.dQ (.row (.slice none 0 0) 0 1 1 []) (by simp[q8,dN.M3])).1;exact absurd h (by decide)
  |.mark d::ds,w,ao,ar,an,bL=>by
   have aH:w.heap[d]? =some (.deferred (some [])):=ao.dQ (.obj d (.deferred (some []))) (by simp[q8,dN.M3]);have av:d<w.heap.size:=(Array.getElem?_eq_some_iff.1 aH).1;have lx:(w.putObj d (.deferred none)).heap[d]? =some (.deferred none):=by simp[World.putObj,av]
   obtain⟨s1,t1⟩:=ao.swap (w':=w.putObj d (.deferred none)) (δ':=.obj d (.deferred none)::(q8 ds++δ)) (x:=.obj d (.deferred (some []))) (x':=.obj d (.deferred none)) .here rfl rfl rfl (by simp[World.putObj])
     (fun b _ al=>World.putObj_heap_other (fun e=>al (by rw[e];rfl))) lx (fun b al=>.inl al)
   exact⟨by simp,.inl ⟨d,_,rfl,run_takeDeferred aH,TP bT ds _ s1.drop.1 (ar.trans (t1.trans s1.drop.2)) an bL⟩⟩
theorem aS.intro {P:Program} {f:FuncId} {fn:Func} {c:Code} {n:Nat} {args:List Value} {R:Value→aa→List ay→Prop} (a7:P.funcs[f]? =some fn) (al:fn.body=some c) (aD:fn.ntmps=n) (hle:Nat.ble args.length n=true)
 (h:∀aG,bJ ⟨P,none,n,aG,I,δ⟩ c (bodyPostM Fence.wide 0 P fn (h_ aG I δ R)) (Aw 0 args) [] I δ):aS P f args I δ R:=by
 intro w ao;refine(callsIn_wide (n:=0)).1 (callsIn_of_wp_marks a7 al trivial ?_ rfl);have TQ:args.length≤n:=by simpa[Nat.ble_eq]using hle
 refine h w _ w ⟨by simp[aD];omega,fun d v aH=> ?_,rfl⟩ ao (er.refl _ _ _);obtain⟨_,ae⟩:=M1 args 0 d v aH;have av:d<args.length:=(List.getElem?_eq_some_iff.1 (by simpa using ae)).1;rw[Array.getElem?_append_left (by simpa using av)];simpa using ae
theorem dv {P:Program} {fn:Func} {r:Option Nat} {n:Nat} {aG:World} {I0:aa} {cl δ' dx:List ay} {R:Value→aa→List ay→Prop} {rs:List ResultVar} {vs:List Value}
 (a7:fn.results=rs.toArray) (hm:δ.Perm (q8 ds++δ')) (ax:m4 P σ δ' rs vs) (bT:dx.Sublist δ') (bL:R (dF vs) I dx):
 bf ⟨P,r,n,aG,I0,cl⟩ (bodyPostM Fence.wide 0 P fn (h_ aG I0 cl R)) .ret σ ds I δ:=by
 intro a w he ao ar;show LeavesInM Fence.wide 0 P fn a.tmps _ a.defers .returning w;rw[he.defers];exact TP bT ds w (ao.perm hm) (ar.kr hm) (fun w' th=>M0 he th a7 ax) bL
theorem pb {P:Program} {fn:Func} {r:Option Nat} {n:Nat} {aG:World} {I0:aa} {cl δ' dx:List ay} {R:Value→aa→List ay→Prop} {rs:List ResultVar} {vs:List Value}
    (a7:fn.results=rs.toArray) (hm:δ.Perm (q8 ds++δ')) (ax:m4 P σ δ' rs vs) (bT:dx.Sublist δ') (bL:R (dF vs) I dx):
    bf ⟨P,r,n,aG,I0,cl⟩ (bodyPostM Fence.wide 0 P fn (h_ aG I0 cl R)) .normal σ ds I δ:=
  dv (r:=r) a7 hm ax bT bL
end
end Go.Proofs.YtciibkomnoicdaaGreat.Lg
