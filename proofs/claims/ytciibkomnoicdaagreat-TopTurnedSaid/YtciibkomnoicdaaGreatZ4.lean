/- Own texts: a small program logic, plain facts, walks through the program's functions. No condition. -/
import Derived.Lib.AppendZerosOnto
import Derived.Lib.Overlaps
import Derived.RecoverIn
import Derived.Test.YtciibkomnoicdaaGreatProg
import Derived.Test.YtciibkomnoicdaaGreatZ3
set_option maxRecDepth 10000
set_option maxHeartbeats 4000000
set_option linter.unusedVariables false
set_option linter.unusedSimpArgs false
set_option linter.unnecessarySimpa false
set_option linter.unusedSectionVars false
namespace Go.Proofs.YtciibkomnoicdaaGreat.Lg
open Go Go.RowKit
section
variable {C:Ctx} {Q:Exit→Act→World→Prop} {σ:Env} {ds:List dN} {I:aa} {δ δ':List ay} {rest:List Oper} {ops:Array Oper} {d:Nat} {ty:TypeId} {pos:String} {after:Array Edge}
theorem agM {t AP e:TypeId} {I1:IntKind} {z:Value} {size bytes n c:Nat} {A:Option Addr} {s x:Operand} (ar:C.P.underlying t=some (.slice e)) (Ns:C.P.underlying AP=some (.int I1)) (al:(C.P.info? e).map (fun i=>(i.zero,i.size,i.bytes))=some (some z,size,bytes)) (ky:Nat.beq z.cells.size size=true)
    (ao:bp σ s=some (.slice A 0 c)) (af:bp σ x=some (.int .i64 (n:Int))) (aH:Nat.blt d C.n=true) (aD:0<n) (uV:c<n) (ha:n≤4398046511104) (m9:n*bytes≤70368744177664) (bD:0<size)
    (k:∀g cJ,n≤cJ→aK C ops Q rest ((d,.slice (some ⟨g,0,none⟩) n cJ)::σ) ds I (.row (.slice (some ⟨g,0,none⟩) n cJ) e size n (Builtin.zeroCells z.cells n).toList::δ)):
    aK C ops Q ({dst:=some d,op:=.call {callee:=.builtin .append,args:= #[s,x],argTypes:= #[t,AP]},type:=ty,pos:=pos,after:=after,guard:=none}::rest) σ ds I δ:=
  q5 rfl rfl aH (by intro c aq;cases aq) (fun a w he gg=>by
   cases aC:C.P.info? e with
   |none=>simp[aC]at al
   |some inf=>
    simp[aC]at al;obtain⟨g3,ia,mJ⟩:=al;have AM:z.cells.size=size:=Nat.eq_of_beq_eq_true ky;have NA:=nextslicecap_le uV;have agN:(Builtin.firstCells inf.size 0 (.slice A 0 c)).run C.P w.drew=.ok ([]:List Value).toArray w.drew:=by cases A<;>simp[Builtin.firstCells,loadCells,loadCellsFrom]
    have agO:n*inf.bytes≤281474976710656:=by rw[mJ];omega
    have agP:Builtin.nextslicecap (0+n) c*inf.bytes≤281474976710656:=by rw[mJ,Nat.zero_add];have ab:Builtin.nextslicecap n c*bytes≤(2*n)*bytes:=Nat.mul_le_mul_right _ NA;rw[Nat.mul_assoc]at ab;omega
    have an:=Go.Lib.run_append_grow_zeros (P:=C.P) w t AP ty e inf z .i64 I1 ar Ns aC g3 A 0 c [] agN n aD (by omega) (by omega) (by omega) agO agP;rw[Nat.zero_add]at an;have bV:=grownCap_ge w n c e;have qg:grownCap w n c e≤maxLen:=grownCap_le_maxLen w n c e (by simp only[maxLen];omega);obtain⟨kZ,t0⟩:=gg.drew;have iv:(ay.row (.slice (some ⟨w.heap.size,0,none⟩) n (grownCap w n c e)) e size n (Builtin.zeroCells z.cells n).toList).holds (w.drew.alloc (.cells (([]:List Value).toArray++Builtin.zeroCells z.cells n++Builtin.zeroCells z.cells (grownCap w n c e-n)) e)):=by refine⟨by rw[Array.length_toList,size_zeroCells,AM],.inr ⟨w.heap.size,_,_,rfl,Nat.zero_le _,heap_alloc_new w.drew _,bV,qg,?_,?_⟩⟩;simp only[Array.size_append,size_zeroCells,AM,List.size_toArray,List.length_nil,Nat.zero_add,←Nat.add_mul];congr 1;omega;rw[Array.toList_append,Array.toList_append];simp only[List.nil_append];rw[List.take_left' (by rw[Array.length_toList,size_zeroCells,AM])]
    obtain⟨s',t'⟩:=kZ.alloc (.row (.slice (some ⟨w.heap.size,0,none⟩) n (grownCap w n c e)) e size n (Builtin.zeroCells z.cells n).toList) _ rfl iv;refine⟨_,_,_,_,?_,s',t0.trans t',k w.heap.size (grownCap w n c e) bV⟩;simp[execOp,resolve,invoke,builtin,he.cr ao,he.cr af,an])
theorem I6 {t e:TypeId} {size n i m md ms c v_ cs:Nat} {x y:Operand} {A B:Option Addr} {xs ys:List Value} {G:List ay} (ar:C.P.underlying t=some (.slice e)) (aj:(C.P.info? e).map (·.size)=some size)
    (af:bp σ x=some (.slice (cutAt A c i size) md v_)) (aw:bp σ y=some (.slice B ms cs)) (aH:Nat.blt d C.n=true)
    (ph:bc δ (.row (.slice A n c) e size n xs) G (.row (.slice A n c) e size n (xs.take (i*size)++(ys++xs.drop (i*size+m*size)))))
    (AB:∃b,B=some b∧∀w,Sat w I δ→∀j u,ys[j]? =some u→w.cell? (b.add j)=some u) (hm:Nat.min ms md=m) (agQ:i+m≤n) (aA:ys.length=m*size) (ab:∀u∈ys,u.oneCell'=true) (bo:A.isSome=true) (UC:i<c)
    (k:aK C ops Q rest ((d,.int .i64 (m:Int))::σ) ds I G):
    aK C ops Q ({dst:=some d,op:=.call {callee:=.builtin .copy,args:= #[x,y],argTypes:= #[t,t]},type:=ty,pos:=pos,after:=after,guard:=none}::rest) σ ds I δ:=
  q5 rfl rfl aH (by intro c aq;cases aq) (fun a w he gg=>by
   obtain⟨l,r,fi,_⟩:=ph.split;have rb:w.ownsRow 0 e size (.slice A n c) n xs:=gg.dQ (.row (.slice A n c) e size n xs) (by rw[fi];simp);obtain⟨a0,rfl⟩:=Option.isSome_iff_exists.1 bo;obtain⟨hlen,an⟩:=rb;rcases an with⟨an,_⟩|⟨g,cap,cur,an,xh,hw,lu,qg,fl,fb⟩
   cases an;injection an with aQ aT dA;injection aQ with aQ;subst aQ;subst dA
   have AN:cutAt (some ⟨g,0,none⟩) c i size=some ⟨g,i*size,none⟩:=by
    unfold cutAt;rw[if_neg (by omega)];have ks:(⟨g,0,none⟩:Addr).add (i*size)=⟨g,i*size,none⟩:=by rw[add_plain];simp
    simp[ks]
   rw[AN]at af;obtain⟨b,rfl,EZ⟩:=AB;have hu:(underlying t).run C.P w=.ok (.slice e) w:=by simp[underlying,program,Sem.run,ar]
   cases aC:C.P.info? e with
   |none=>simp[aC]at aj
   |some inf=>
    simp[aC]at aj;have bD:(sizeOf e).run C.P w=.ok inf.size w:=by simp[sizeOf,typeInfo,program,Sem.run,aC]
    have IJ:(loadCells b (m*size)).run C.P w=.ok ys.toArray w:=by rw[←aA];exact run_loadCells_list (P:=C.P) w b ys (EZ w gg)
    have th:w.heap[g]? =some (.cells cur.toList.toArray e (0,0)):=by simpa using hw
    have agf:i*size+m*size≤n*size:=by rw[←Nat.add_mul];exact Nat.mul_le_mul_right _ agQ
    have axY:n*size≤c*size:=Nat.mul_le_mul_right _ lu;obtain⟨w',iM,du,dy,gv,oa,p_,sc,pa,yF,vV⟩:=EK (P:=C.P) ys (i*size) 0 cur.toList w th (by rw[aA];simp[fl];omega) ab
    have iv:(ay.row (.slice (some ⟨g,0,none⟩) n c) e size n (xs.take (i*size)++(ys++xs.drop (i*size+m*size)))).holds w':=by
     refine⟨by rw[List.length_append,List.length_append,List.length_take,List.length_drop,aA,hlen];omega,.inr ⟨g,c,sc.toArray,rfl,xh,pa,lu,qg,by simp[yF,fl],?_⟩⟩;rw[←fb];have eR:cur.toList.length=c*size:=by simp[fl]
     apply List.ext_getElem?;intro q;rw[List.getElem?_take];by_cases yS:q<n*size;rw[if_pos yS,show(sc.toArray.toList)[q]? =sc[q]? from rfl,vV q];by_cases ae:q<i*size;rw[if_neg (by omega),List.getElem?_append_left (by rw[List.length_take,List.length_take,eR];omega),List.getElem?_take,if_pos ae,List.getElem?_take,if_pos yS];rw[List.getElem?_append_right (by rw[List.length_take,List.length_take,eR];omega)];have aQ:(List.take (i*size) (List.take (n*size) cur.toList)).length=i*size:=by rw[List.length_take,List.length_take,eR];omega
     rw[aQ];by_cases aF:q<i*size+m*size;rw[if_pos (by rw[aA];omega),List.getElem?_append_left (by rw[aA];omega)];congr 1;rw[if_neg (by rw[aA];omega),List.getElem?_append_right (by rw[aA];omega),List.getElem?_drop,List.getElem?_take,aA];rw[if_pos (by omega)];congr 1;omega;rw[if_neg yS];symm;rw[List.getElem?_eq_none_iff,List.length_append,List.length_append,List.length_take,List.length_drop,List.length_take,eR,aA];omega
    obtain⟨s',t'⟩:=gg.swap ph du dy gv (by omega) (fun k _ hk=>p_ k (fun e=>hk (by rw[e];rfl))) iv (fun k hk=>.inl hk);refine⟨.int .i64 (m:Int),w',I,G,?_,s',t',k⟩;subst aj;have NB:IntKind.i64.wrap (m:Int)=m:=Av (by simp only[maxLen]at qg;omega);simp[execOp,resolve,invoke,builtin,Builtin.copy_,he.cr af,he.cr aw,hu,bD,Builtin.lenOf,Builtin.firstCells,hm,IJ,iM,goInt,NB])
theorem aK.agR {e:TypeId} {size n c:Nat} (m:Nat) {A:Option Addr} {xs:List Value} {δ':List ay} (aH:aO δ (.row (.slice A n c) e size n xs) δ') (bo:A.isSome=true) (NC:n+m≤c)
 (k:∀zs,zs.length=m*size→aK C ops Q rest σ ds I (.row (.slice A (n+m) c) e size (n+m) (xs++zs)::δ')):aK C ops Q rest σ ds I δ:=by
 intro a w he ao ar;have ab:=ao.perm aH.perm;have t1:=ar.kr aH.perm;obtain⟨a0,rfl⟩:=Option.isSome_iff_exists.1 bo;have rb:w.ownsRow 0 e size (.slice (some a0) n c) n xs:=ab.dQ _ (List.mem_cons_self ..);obtain⟨hlen,an⟩:=rb;rcases an with⟨an,_⟩|⟨g,cap,cur,an,xh,hw,lu,qg,fl,fb⟩
 cases an;injection an with aQ aT dA;injection aQ with aQ;subst aQ;subst dA;have eR:cur.toList.length=c*size:=by simp[fl]
 have hle:n*size+m*size≤c*size:=by rw[←Nat.add_mul];exact Nat.mul_le_mul_right _ NC
 have xk:((cur.toList.drop (n*size)).take (m*size)).length=m*size:=by rw[List.length_take,List.length_drop,eR];omega
 have iv:w.ownsRow 0 e size (.slice (some ⟨g,0,none⟩) (n+m) c) (n+m) (xs++(cur.toList.drop (n*size)).take (m*size)):=by refine⟨by rw[List.length_append,xk,hlen,Nat.add_mul],.inr ⟨g,c,cur,rfl,xh,hw,NC,qg,fl,?_⟩⟩;rw[Nat.add_mul,List.take_add,fb]
 have al:eg (.row (.slice (some ⟨g,0,none⟩) n c) e size n xs::δ')=eg (.row (.slice (some ⟨g,0,none⟩) (n+m) c) e size (n+m) (xs++(cur.toList.drop (n*size)).take (m*size))::δ'):=rfl
 have ax:Sat w I (.row (.slice (some ⟨g,0,none⟩) (n+m) c) e size (n+m) (xs++(cur.toList.drop (n*size)).take (m*size))::δ')∧er w I (.row (.slice (some ⟨g,0,none⟩) n c) e size n xs::δ') w I (.row (.slice (some ⟨g,0,none⟩) (n+m) c) e size (n+m) (xs++(cur.toList.drop (n*size)).take (m*size))::δ'):=by
  refine⟨⟨ab.gE,fun y aw=> ?_,al▸ab.nodup,al▸ab.apart⟩,⟨rfl,rfl,rfl,Nat.le_refl _,fun _ _ _=>rfl,aa.le_refl _,fun b o dj cY=>(by rw[dj]at cY;cases cY),fun b g3=>.inl (al▸g3)⟩⟩;rcases List.mem_cons.1 aw with rfl|aw
  exact iv;exact ab.dQ y (List.mem_cons_of_mem _ aw)
 exact k _ xk a w he ax.1 (t1.trans ax.2)
theorem agS {f:FuncId} {fn:Func} {t tR e:TypeId} {lv:Array TypeId} {size sh og pk ql fE dT sk i:Nat} {A B:Option Addr} {xs ys:List Value} {x y:Operand} {δr:List ay} (a7:C.P.funcs[f]? =some fn) (aD:(fn.name== "runtime.NumGoroutine")=false) (ha:fn.body.isNone=true) (agT:Extern.findNext fn=none) (oe:Extern.find fn=some (Extern.SlicesOverlaps.overlaps #[t,t] #[tR]))
    (ar:C.P.underlying t=some (.slice e)) (bD:(C.P.info? e).map (·.size)=some size) (aB:0<size) (af:bp σ x=some (.slice A pk fE)) (aw:bp σ y=some (.slice (cutAt B dT i size) ql sk)) (az:df δ [.row (.slice A sh fE) e size sh xs,.row (.slice B og dT) e size og ys] δr) (bo:A.isSome=true) (eJ:B.isSome=true) (bq:0<fE) (UC:i<dT):
    cz C σ ds I δ (.call {callee:=.value (.func f),args:= #[x,y],argTypes:=lv}) (.bool false):=
  fun _ _ _ _ _ a w he gg=>by
   have ao:=gg.perm az;obtain⟨a0,rfl⟩:=Option.isSome_iff_exists.1 bo;obtain⟨m_,rfl⟩:=Option.isSome_iff_exists.1 eJ;have nA:w.ownsRow 0 e size (.slice (some a0) sh fE) sh xs:=ao.dQ _ (List.mem_cons_self ..);have pq:w.ownsRow 0 e size (.slice (some m_) og dT) og ys:=ao.dQ _ (List.mem_cons_of_mem _ (List.mem_cons_self ..));obtain⟨_,l5⟩:=nA;obtain⟨_,qm⟩:=pq;rcases l5 with⟨an,_⟩|⟨g,cap,cur,an,_,hw,lu,qg,fl,fb⟩
   cases an;injection an with aQ aT dA;injection aQ with aQ;subst aQ;subst dA;rcases qm with⟨an,_⟩|⟨dy,axZ,agU,an,_,ku,ax0,ax1,agV,UD⟩
   cases an;injection an with aQ aT dA;injection aQ with aQ;subst aQ;subst dA;have cu:g≠dy:=by have:=ao.nodup;intro q;subst q;simp[eg,ay.gR,Value.ownBlock]at this
   have AN:cutAt (some ⟨dy,0,none⟩) dT i size=some ⟨dy,i*size,none⟩:=by
    unfold cutAt;rw[if_neg (by omega)];have ks:(⟨dy,0,none⟩:Addr).add (i*size)=⟨dy,i*size,none⟩:=by rw[add_plain];simp
    simp[ks]
   rw[AN]at aw
   have agW:∀w,(sizeOf e).run C.P w=.ok size w:=fun w=>by
    cases aC:C.P.info? e with
    |none=>simp[aC]at bD
    |some inf=>simp[aC]at bD;simp[sizeOf,typeInfo,program,Sem.run,aC,bD]
   have agX:=Go.Lib.run_overlaps_apart (P:=C.P) w t tR e ar size agW ⟨g,0,none⟩ ⟨dy,i*size,none⟩ pk fE ql sk cu e e cur.size agU.size (by simp[World.shape?,hw]) (by simp[World.shape?,ku]) (by rw[agV];exact Nat.ne_of_gt (Nat.mul_pos (by omega) aB)) (by simp[World.frozen?,hw]) (by simp[World.frozen?,hw]);have AE:(callFunc f #[.slice (some ⟨g,0,none⟩) pk fE,.slice (some ⟨dy,i*size,none⟩) ql sk]).run C.P w=.ok (.value (.bool false)) w:=by simp[callFunc,program,Sem.run,a7,aD,ha,agT,oe,mark];rw[if_neg (by simpa using aD),if_pos (by simpa using ha),agX];rfl
   have xi:a.eval (.func f)=.func (.func f) #[] #[]:=rfl;simp[execOp,resolve,invoke,Deferred.ofValue,he.cr af,he.cr aw,xi,AE]
theorem agY(a:Addr):a.add 0=a:=by
 unfold Addr.add;split<;>simp_all
theorem agZ{A:Option Addr}{c size:Nat}:cutAt A c 0 size=A:=by
 unfold cutAt;split;rfl
 cases A with
 |none=>rfl
 |some a=>simp only[Option.map_some,Nat.zero_mul,agY]
theorem I7{t e:TypeId}{x y:Operand}{A:Option Addr}{n c size:Nat}(ar:C.P.underlying t=some (.slice e))(bD:(C.P.info? e).map (·.size)=some size)(af:bp σ x=some (.slice A n c))(aw:bp σ y=some (.int .i64 ((0:Nat):Int)))(lu:n≤c):
 cz C σ ds I δ (.slice t x (some y) none none) (.slice A n c):=by
 have h:=uQ (C:=C) (σ:=σ) (ds:=ds) (I:=I) (δ:=δ) (m:=0) ar bD af aw (Nat.zero_le _) lu;rw[agZ]at h;exact h
theorem I8{A:Option Addr}{ys xs zs:List Value}(h:Src I δ A ys)(aw:ys=xs++zs)(cu:xs≠[]):∃b,A=some b∧∀w,Sat w I δ→∀j u,xs[j]? =some u→w.cell? (b.add j)=some u:=by
 rcases h with h|⟨b,ab,ae⟩
 rw[h]at aw;have:=congrArg List.length aw;rw[List.length_append,List.length_nil]at this;exact absurd (List.eq_nil_of_length_eq_zero (by omega)) cu;refine⟨b,ab,fun w ao j u au=>ae w ao j u ?_⟩;rw[aw,List.getElem?_append_left (List.getElem?_eq_some_iff.1 au).1];exact au
end
section
variable {C:Ctx} {Q:Exit→Act→World→Prop} {σ:Env} {ds:List dN} {I:aa} {δ δ':List ay} {rest:List Oper} {ops:Array Oper} {d:Nat} {ty:TypeId} {pos:String} {after:Array Edge}
theorem UE{t:TypeId}{dE:Array Field}{x:Operand}{v:Value}(ar:C.P.underlying t=some (.struct dE))(af:bp σ x=some v):cz C σ ds I δ (.makeInterface t x) (.iface t v):=
  fun _ _ _ _ _ a w he _=>by
   have hu:(underlying t).run C.P w=.ok (.struct dE) w:=by simp[underlying,program,Sem.run,ar]
   simp[execOp,he.cr af,Instr.makeInterface,hu,Result.andThen]
theorem UF{t:TypeId}{x:Operand}{v:Value}(af:bp σ x=some (.iface t v))(k:bf C Q (.panic (po (.iface t v))) σ ds I δ):
    aK C ops Q ({dst:=none,op:=.panic x,type:=ty,pos:=pos,after:=after,guard:=none}::rest) σ ds I δ:=
  agJ rfl (by intro c aq;cases aq) (fun a w he ao=>by simp[execOp,he.cr af,Instr.panic,Sem.run]) k
end
section
variable {C:Ctx} {Q:Exit→Act→World→Prop} {σ:Env} {ds:List dN} {I:aa} {δ δ':List ay} {ops:Array Oper} {rest:List Oper}
theorem bJ.at{P:Program}{n:Nat}{w:World}{c:Code}(h:bJ ⟨P,none,n,w,I,δ⟩ c Q σ [] I δ){a:Act}(he:gq n σ [] a)(ao:Sat w I δ):c.wpIn Fence.wide 0 P Q a w:=h a w he ao (er.refl _ _ _)
abbrev ND(f:FuncId):dN:=.call {target:=.fn (.func f) #[],args:= #[]}
theorem ag0{f:FuncId}{ty:TypeId}{pos:String}{after:Array Edge}(an:C.r=none)(k:aK C ops Q rest σ (ND f::ds) I δ):
 aK C ops Q ({dst:=none,op:=.defer {callee:=.value (.func f),args:= #[],argTypes:= #[]},type:=ty,pos:=pos,after:=after,guard:=none}::rest) σ ds I δ:=by
 intro a w he ao ar;refine wpListIn_plain rfl fun K eZ=> ?_;unfold Oper.wpIn;refine⟨fun _ _=>trivial,?_⟩;have CW:C.F.round=none:=an;have hex:(Oper.semAt C.F.round a.eval {dst:=none,op:=.defer {callee:=.value (.func f),args:= #[],argTypes:= #[]},type:=ty,pos:=pos,after:=after,guard:=none}).run C.P w=.ok (.defer {target:=.fn (.func f) #[],args:= #[]}) w:=by rw[CW,Oper.semAt_none];simp[execOp,resolve,Deferred.ofValue,Act.eval]
 rw[hex,Oper.uponIn_defer];exact eZ _ _ (k _ _ ⟨he.size,he.val,by simp[Act.put,he.defers,marksOf,dN.val]⟩ ao ar)
def UG(P:Program)(f:FuncId):Prop:=∀w,CallsDIn Fence.wide 0 P f #[] .returning w fun e om w'=>e=.returned (.tuple #[])∧om=.returning∧w'=w
def UH(P:Program)(eS:Value)(f:FuncId):Prop:=∀w I δ,Sat w I δ→CallsDIn Fence.wide 0 P f #[] (.panicking (po eS)) w fun e om w'=>e=.returned (.tuple #[])∧om=.panicking [{v:=eS,recovered:=true}]∧Sat w' I δ∧er w I δ w' I δ
theorem UI{P:Program}{f:FuncId}(az:eb P f=true)(w:World):(invoke (.fn (.func f) #[]) #[]).run P w=.ok (.enter f #[]) w:=by
 simp only[invoke];rw[Aq az];simp
theorem UJ {P:Program} {fn:Func} {f:FuncId} {n:Nat} {aG:World} {I0:aa} {cl:List ay} {R:Value→aa→List ay→Prop} (az:eb P f=true)
 (a7:fn.results= #[]) (aq:UG P f) (bL:R (.tuple #[]) I δ') (hw:View I δ I δ':=by exact hS):
 bf ⟨P,none,n,aG,I0,cl⟩ (bodyPostM Fence.wide 0 P fn (h_ aG I0 cl R)) .normal σ [ND f] I δ:=by
 intro a w he ao ar;show LeavesInM Fence.wide 0 P fn a.tmps _ a.defers .returning w;rw[he.defers];refine⟨by simp,.inr ⟨(by intro h;cases h),Fn.func f,#[],f,#[],rfl,UI az w,fun _ _=>trivial,(aq w).mono ?_⟩⟩;rintro e om w' ⟨rfl,rfl,rfl⟩;refine⟨.tuple #[],?_,.tuple #[],I,δ',rfl,(hw _ ao).1,ar.trans (hw _ ao).2,bL⟩;simp[results,a7]
theorem NF {P:Program} {fn:Func} {f:FuncId} {eS:Value} {n:Nat} {aG:World} {I0:aa} {cl:List ay} {R:Value→aa→List ay→Prop} (az:eb P f=true)
 (a7:fn.results= #[]) (aq:UH P eS f) (bL:R (.tuple #[]) I δ') (hw:View I δ I δ':=by exact hS):
 xl ⟨P,none,n,aG,I0,cl⟩ (bodyPostM Fence.wide 0 P fn (h_ aG I0 cl R)) (po eS) [ND f] I δ:=by
 intro a w he ao ar;show LeavesInM Fence.wide 0 P fn a.tmps _ a.defers (.panicking (po eS)) w;rw[he];refine⟨by simp,.inr ⟨(by intro h;cases h),Fn.func f,#[],f,#[],rfl,UI az w,fun _ _=>trivial,(aq w I δ ao).mono ?_⟩⟩;rintro e om w' ⟨rfl,rfl,kt,l1⟩;refine⟨.tuple #[],?_,.tuple #[],I,δ',rfl,(hw _ kt).1,(ar.trans l1).trans (hw _ kt).2,bL⟩;simp[results,a7]
end
end Go.Proofs.YtciibkomnoicdaaGreat.Lg
namespace Go.Proofs.YtciibkomnoicdaaGreat
open Go Lg Tryz
theorem l8:dt Tryz.prog 3 false 1:=⟨⟨_,Tryz.underlying3,rfl⟩,by kernel_rfl,fun _=>rfl⟩
theorem rj:(Tryz.prog.info? 3).map (·.size)=some 1:=by kernel_rfl
theorem k0:dt Tryz.prog 4 false 1:=⟨⟨_,Tryz.underlying4,rfl⟩,by kernel_rfl,fun _=>rfl⟩
theorem ag1:(Tryz.prog.info? 4).map (·.size)=some 1:=by kernel_rfl
theorem ag2:dt Tryz.prog 9 false 1:=⟨⟨_,Tryz.underlying9,rfl⟩,by kernel_rfl,fun _=>rfl⟩
theorem UK:dt Tryz.prog 22 false 1:=⟨⟨_,Tryz.underlying22,rfl⟩,by kernel_rfl,fun _=>rfl⟩
theorem ag3:dt Tryz.prog 23 false 1:=⟨⟨_,Tryz.underlying23,rfl⟩,by kernel_rfl,fun _=>rfl⟩
theorem ag4:dt Tryz.prog 25 true 7:=⟨⟨_,Tryz.underlying25,rfl⟩,by kernel_rfl,fun h=>by cases h⟩
theorem ag5:dt Tryz.prog 27 false 1:=⟨⟨_,Tryz.underlying27,rfl⟩,by kernel_rfl,fun _=>rfl⟩
theorem ag6:dt Tryz.prog 28 false 1:=⟨⟨_,Tryz.underlying28,rfl⟩,by kernel_rfl,fun _=>rfl⟩
theorem yW:dt Tryz.prog 30 true 5:=⟨⟨_,Tryz.underlying30,rfl⟩,by kernel_rfl,fun h=>by cases h⟩
theorem NG:dt Tryz.prog 31 false 1:=⟨⟨_,Tryz.underlying31,rfl⟩,by kernel_rfl,fun _=>rfl⟩
theorem Fa:dt Tryz.prog 36 false 1:=⟨⟨_,Tryz.underlying36,rfl⟩,by kernel_rfl,fun _=>rfl⟩
theorem oo:(Tryz.prog.info? 36).map (·.size)=some 1:=by kernel_rfl
theorem I9:dt Tryz.prog 37 false 1:=⟨⟨_,Tryz.underlying37,rfl⟩,by kernel_rfl,fun _=>rfl⟩
theorem ag7:(Tryz.prog.info? 37).map (·.size)=some 1:=by kernel_rfl
theorem fc:dt Tryz.prog 41 true 2:=⟨⟨_,Tryz.underlying41,rfl⟩,by kernel_rfl,fun h=>by cases h⟩
theorem oq:(Tryz.prog.info? 41).map (·.size)=some 2:=by kernel_rfl
theorem ag8:dt Tryz.prog 45 false 1:=⟨⟨_,Tryz.underlying45,rfl⟩,by kernel_rfl,fun _=>rfl⟩
theorem ag9:(Tryz.prog.info? 45).map (·.size)=some 1:=by kernel_rfl
theorem ag_:dt Tryz.prog 48 false 1:=⟨⟨_,Tryz.underlying48,rfl⟩,by kernel_rfl,fun _=>rfl⟩
theorem aha:dt Tryz.prog 51 false 1:=⟨⟨_,Tryz.underlying51,rfl⟩,by kernel_rfl,fun _=>rfl⟩
theorem ahb:dt Tryz.prog 54 false 1:=⟨⟨_,Tryz.underlying54,rfl⟩,by kernel_rfl,fun _=>rfl⟩
theorem ahc:dt Tryz.prog 55 false 1:=⟨⟨_,Tryz.underlying55,rfl⟩,by kernel_rfl,fun _=>rfl⟩
theorem ahd:dt Tryz.prog 60 false 1:=⟨⟨_,Tryz.underlying60,rfl⟩,by kernel_rfl,fun _=>rfl⟩
theorem ahe:(Tryz.prog.info? 60).map (·.size)=some 1:=by kernel_rfl
theorem Fb:dt Tryz.prog 62 true 5:=⟨⟨_,Tryz.underlying62,rfl⟩,by kernel_rfl,fun h=>by cases h⟩
theorem ahf:(Tryz.prog.info? 62).map (·.size)=some 5:=by kernel_rfl
theorem UL:dt Tryz.prog 66 true 4:=⟨⟨_,Tryz.underlying66,rfl⟩,by kernel_rfl,fun h=>by cases h⟩
theorem wa:(Tryz.prog.info? 66).map (·.size)=some 4:=by kernel_rfl
theorem Fc:dt Tryz.prog 68 true 5:=⟨⟨_,Tryz.underlying68,rfl⟩,by kernel_rfl,fun h=>by cases h⟩
theorem xn:(Tryz.prog.info? 68).map (·.size)=some 5:=by kernel_rfl
theorem ahg:dt Tryz.prog 73 false 1:=⟨⟨_,Tryz.underlying73,rfl⟩,by kernel_rfl,fun _=>rfl⟩
theorem I_:(Tryz.prog.info? 73).map (·.size)=some 1:=by kernel_rfl
theorem ahh:dt Tryz.prog 74 true 3:=⟨⟨_,Tryz.underlying74,rfl⟩,by kernel_rfl,fun h=>by cases h⟩
theorem ahi:dt Tryz.prog 75 false 1:=⟨⟨_,Tryz.underlying75,rfl⟩,by kernel_rfl,fun _=>rfl⟩
theorem ahj:dt Tryz.prog 78 true 2:=⟨⟨_,Tryz.underlying78,rfl⟩,by kernel_rfl,fun h=>by cases h⟩
theorem ahk:dt Tryz.prog 82 false 1:=⟨⟨_,Tryz.underlying82,rfl⟩,by kernel_rfl,fun _=>rfl⟩
theorem ahl:dt Tryz.prog 88 true 0:=⟨⟨_,Tryz.underlying88,rfl⟩,by kernel_rfl,fun h=>by cases h⟩
theorem ahm:dt Tryz.prog 102 false 1:=⟨⟨_,Tryz.underlying102,rfl⟩,by kernel_rfl,fun _=>rfl⟩
theorem ahn:dt Tryz.prog 103 false 1:=⟨⟨_,Tryz.underlying103,rfl⟩,by kernel_rfl,fun _=>rfl⟩
theorem aho:dt Tryz.prog 110 false 1:=⟨⟨_,Tryz.underlying110,rfl⟩,by kernel_rfl,fun _=>rfl⟩
theorem ahp:dt Tryz.prog 130 true 6:=⟨⟨_,Tryz.underlying130,rfl⟩,by kernel_rfl,fun h=>by cases h⟩
theorem ahq:dt Tryz.prog 131 false 1:=⟨⟨_,Tryz.underlying131,rfl⟩,by kernel_rfl,fun _=>rfl⟩
theorem ahr:(Tryz.prog.info? 131).map (·.size)=some 1:=by kernel_rfl
theorem ahs:dt Tryz.prog 135 false 1:=⟨⟨_,Tryz.underlying135,rfl⟩,by kernel_rfl,fun _=>rfl⟩
theorem aht:dt Tryz.prog 137 true 1:=⟨⟨_,Tryz.underlying137,rfl⟩,by kernel_rfl,fun h=>by cases h⟩
theorem Ja:dt Tryz.prog 143 true 4:=⟨⟨_,Tryz.underlying143,rfl⟩,by kernel_rfl,fun h=>by cases h⟩
theorem wb:dt Tryz.prog 150 true 2:=⟨⟨_,Tryz.underlying150,rfl⟩,by kernel_rfl,fun h=>by cases h⟩
theorem NH:(Tryz.prog.info? 150).map (·.size)=some 2:=by kernel_rfl
theorem ahu:dt Tryz.prog 163 false 1:=⟨⟨_,Tryz.underlying163,rfl⟩,by kernel_rfl,fun _=>rfl⟩
theorem NI:dt Tryz.prog 170 false 1:=⟨⟨_,Tryz.underlying170,rfl⟩,by kernel_rfl,fun _=>rfl⟩
theorem ahv:dt Tryz.prog 174 true 6:=⟨⟨_,Tryz.underlying174,rfl⟩,by kernel_rfl,fun h=>by cases h⟩
theorem ahw:dt Tryz.prog 183 false 1:=⟨⟨_,Tryz.underlying183,rfl⟩,by kernel_rfl,fun _=>rfl⟩
theorem ahx:dt Tryz.prog 194 false 1:=⟨⟨_,Tryz.underlying194,rfl⟩,by kernel_rfl,fun _=>rfl⟩
theorem ahy:dt Tryz.prog 195 false 1:=⟨⟨_,Tryz.underlying195,rfl⟩,by kernel_rfl,fun _=>rfl⟩
theorem ahz:dt Tryz.prog 199 false 1:=⟨⟨_,Tryz.underlying199,rfl⟩,by kernel_rfl,fun _=>rfl⟩
theorem AS:dt Tryz.prog 201 true 2:=⟨⟨_,Tryz.underlying201,rfl⟩,by kernel_rfl,fun h=>by cases h⟩
theorem ahA:dt Tryz.prog 202 false 1:=⟨⟨_,Tryz.underlying202,rfl⟩,by kernel_rfl,fun _=>rfl⟩
theorem ahB:dt Tryz.prog 204 true 5:=⟨⟨_,Tryz.underlying204,rfl⟩,by kernel_rfl,fun h=>by cases h⟩
theorem ahC:(Tryz.prog.info? 204).map (·.size)=some 5:=by kernel_rfl
theorem ahD:dt Tryz.prog 205 false 1:=⟨⟨_,Tryz.underlying205,rfl⟩,by kernel_rfl,fun _=>rfl⟩
theorem ahE:dt Tryz.prog 222 true 6:=⟨⟨_,Tryz.underlying222,rfl⟩,by kernel_rfl,fun h=>by cases h⟩
theorem ahF:(Tryz.prog.info? 222).map (·.size)=some 6:=by kernel_rfl
theorem ahG:dt Tryz.prog 268 false 1:=⟨⟨_,Tryz.underlying268,rfl⟩,by kernel_rfl,fun _=>rfl⟩
theorem UM:dt Tryz.prog 274 true 3:=⟨⟨_,Tryz.underlying274,rfl⟩,by kernel_rfl,fun h=>by cases h⟩
theorem UN:(Tryz.prog.info? 274).map (·.size)=some 3:=by kernel_rfl
theorem ahH:dt Tryz.prog 275 false 1:=⟨⟨_,Tryz.underlying275,rfl⟩,by kernel_rfl,fun _=>rfl⟩
theorem ahI:dt Tryz.prog 278 false 1:=⟨⟨_,Tryz.underlying278,rfl⟩,by kernel_rfl,fun _=>rfl⟩
theorem UO:dt Tryz.prog 291 true 4:=⟨⟨_,Tryz.underlying291,rfl⟩,by kernel_rfl,fun h=>by cases h⟩
theorem ahJ:(Tryz.prog.info? 291).map (·.size)=some 4:=by kernel_rfl
theorem UP:dt Tryz.prog 305 false 1:=⟨⟨_,Tryz.underlying305,rfl⟩,by kernel_rfl,fun _=>rfl⟩
theorem Jb:dt Tryz.prog 308 true 5:=⟨⟨_,Tryz.underlying308,rfl⟩,by kernel_rfl,fun h=>by cases h⟩
theorem NJ:(Tryz.prog.info? 308).map (·.size)=some 5:=by kernel_rfl
theorem ahK:dt Tryz.prog 315 true 5:=⟨⟨_,Tryz.underlying315,rfl⟩,by kernel_rfl,fun h=>by cases h⟩
theorem UQ:dt Tryz.prog 322 false 1:=⟨⟨_,Tryz.underlying322,rfl⟩,by kernel_rfl,fun _=>rfl⟩
theorem ahL:dt Tryz.prog 330 false 1:=⟨⟨_,Tryz.underlying330,rfl⟩,by kernel_rfl,fun _=>rfl⟩
theorem ahM:dt Tryz.prog 340 false 1:=⟨⟨_,Tryz.underlying340,rfl⟩,by kernel_rfl,fun _=>rfl⟩
theorem UR:dt Tryz.prog 342 true 4:=⟨⟨_,Tryz.underlying342,rfl⟩,by kernel_rfl,fun h=>by cases h⟩
theorem US:(Tryz.prog.info? 342).map (·.size)=some 4:=by kernel_rfl
theorem ahN:dt Tryz.prog 344 false 1:=⟨⟨_,Tryz.underlying344,rfl⟩,by kernel_rfl,fun _=>rfl⟩
theorem UT:dt Tryz.prog 352 false 1:=⟨⟨_,Tryz.underlying352,rfl⟩,by kernel_rfl,fun _=>rfl⟩
theorem ahO:dt Tryz.prog 354 true 3:=⟨⟨_,Tryz.underlying354,rfl⟩,by kernel_rfl,fun h=>by cases h⟩
theorem ahP:(Tryz.prog.info? 354).map (·.size)=some 3:=by kernel_rfl
theorem ahQ:dt Tryz.prog 376 false 1:=⟨⟨_,Tryz.underlying376,rfl⟩,by kernel_rfl,fun _=>rfl⟩
theorem z3:(Tryz.prog.info? 3).map (·.zero)=some (some (.int .i64 0)):=by kernel_rfl
theorem z4:(Tryz.prog.info? 4).map (·.zero)=some (some (.bool false)):=by kernel_rfl
theorem z25:(Tryz.prog.info? 25).map (·.zero)=some (some (.agg #[(.int .i64 0),(.int .i64 0),(.int .i64 0),(.int .i64 0),(.int .i64 0),(.int .i64 0),(.int .i64 0)])):=by kernel_rfl
theorem ahR:(Tryz.prog.info? 30).map (·.zero)=some (some (.agg #[(.int .i64 0),(.slice none 0 0),(.slice none 0 0),(.bool false),(.int .i64 0)])):=by kernel_rfl
theorem ahS:(Tryz.prog.info? 31).map (·.zero)=some (some (.int .i64 0)):=by kernel_rfl
theorem z36:(Tryz.prog.info? 36).map (·.zero)=some (some (.slice none 0 0)):=by kernel_rfl
theorem z41:(Tryz.prog.info? 41).map (·.zero)=some (some (.agg #[(.int .i64 0),(.slice none 0 0)])):=by kernel_rfl
theorem Fe:(Tryz.prog.info? 45).map (·.zero)=some (some (.slice none 0 0)):=by kernel_rfl
theorem ahT:(Tryz.prog.info? 62).map (·.zero)=some (some (.agg #[(.slice none 0 0),(.int .i64 0),(.slice none 0 0),(.int .i64 0),(.int .i64 0)])):=by kernel_rfl
theorem ahU:(Tryz.prog.info? 66).map (·.zero)=some (some (.agg #[(.string ⟨#[]⟩),(.int .i64 0),(.int .i64 0),(.bool false)])):=by kernel_rfl
theorem ahV:(Tryz.prog.info? 68).map (·.zero)=some (some (.agg #[(.bool false),(.int .i64 0),(.slice none 0 0),(.int .i64 0),(.slice none 0 0)])):=by kernel_rfl
theorem ahW:(Tryz.prog.info? 74).map (·.zero)=some (some (.agg #[.nilFunc,.nilFunc,.nilFunc])):=by kernel_rfl
theorem ahX:(Tryz.prog.info? 78).map (·.zero)=some (some (.agg #[(.pointer none),(.int .i64 0)])):=by kernel_rfl
theorem ahY:(Tryz.prog.info? 88).map (·.zero)=some (some (.agg #[])):=by kernel_rfl
theorem ahZ:(Tryz.prog.info? 102).map (·.zero)=some (some (.map none)):=by kernel_rfl
theorem ah0:(Tryz.prog.info? 137).map (·.zero)=some (some (.agg #[.nilFunc])):=by kernel_rfl
theorem ah1:(Tryz.prog.info? 143).map (·.zero)=some (some (.agg #[(.slice none 0 0),(.slice none 0 0),(.int .i64 0),(.int .i64 0)])):=by kernel_rfl
theorem ah2:(Tryz.prog.info? 150).map (·.zero)=some (some (.agg #[(.int .i64 0),(.int .i64 0)])):=by kernel_rfl
theorem ah3:(Tryz.prog.info? 170).map (·.zero)=some (some .nilFunc):=by kernel_rfl
theorem ah4:(Tryz.prog.info? 174).map (·.zero)=some (some (.agg #[(.slice none 0 0),(.slice none 0 0),(.slice none 0 0),(.slice none 0 0),(.slice none 0 0),(.slice none 0 0)])):=by kernel_rfl
theorem ah5:(Tryz.prog.info? 194).map (·.zero)=some (some (.pointer none)):=by kernel_rfl
theorem NK:(Tryz.prog.info? 201).map (·.zero)=some (some (.agg #[(.int .i64 0),(.int .i64 0)])):=by kernel_rfl
theorem ah6:(Tryz.prog.info? 204).map (·.zero)=some (some (.agg #[(.slice none 0 0),(.int .i64 0),(.int .i64 0),(.slice none 0 0),(.slice none 0 0)])):=by kernel_rfl
theorem ah7:(Tryz.prog.info? 205).map (·.zero)=some (some (.pointer none)):=by kernel_rfl
theorem ah8:(Tryz.prog.info? 222).map (·.zero)=some (some (.agg #[(.int .i64 0),(.bool false),(.int .i64 0),(.slice none 0 0),(.int .i64 0),(.slice none 0 0)])):=by kernel_rfl
theorem ah9:(Tryz.prog.info? 268).map (·.zero)=some (some (.slice none 0 0)):=by kernel_rfl
theorem ah_:(Tryz.prog.info? 274).map (·.zero)=some (some (.agg #[(.int .i64 0),(.slice none 0 0),(.int .i64 0)])):=by kernel_rfl
theorem aia:(Tryz.prog.info? 275).map (·.zero)=some (some (.slice none 0 0)):=by kernel_rfl
theorem aib:(Tryz.prog.info? 278).map (·.zero)=some (some (.slice none 0 0)):=by kernel_rfl
theorem aic:(Tryz.prog.info? 291).map (·.zero)=some (some (.agg #[(.int .i64 0),(.slice none 0 0),(.int .i64 0),(.slice none 0 0)])):=by kernel_rfl
theorem aid:(Tryz.prog.info? 305).map (·.zero)=some (some .nilFunc):=by kernel_rfl
theorem aie:(Tryz.prog.info? 308).map (·.zero)=some (some (.agg #[(.int .i64 0),(.slice none 0 0),(.int .i64 0),(.slice none 0 0),(.int .i64 0)])):=by kernel_rfl
theorem aif:(Tryz.prog.info? 315).map (·.zero)=some (some (.agg #[(.int .i64 0),(.bool false),(.slice none 0 0),(.int .i64 0),(.slice none 0 0)])):=by kernel_rfl
theorem aih:(Tryz.prog.info? 330).map (·.zero)=some (some (.map none)):=by kernel_rfl
theorem aii:(Tryz.prog.info? 340).map (·.zero)=some (some (.slice none 0 0)):=by kernel_rfl
theorem aij:(Tryz.prog.info? 342).map (·.zero)=some (some (.agg #[(.int .i64 0),(.slice none 0 0),(.int .i64 0),(.slice none 0 0)])):=by kernel_rfl
theorem aik:(Tryz.prog.info? 346).map (·.zero)=some (some (.agg #[(.map none)])):=by kernel_rfl
theorem ail:(Tryz.prog.info? 354).map (·.zero)=some (some (.agg #[(.int .i64 0),(.int .i64 0),(.slice none 0 0)])):=by kernel_rfl
theorem aim:(Tryz.prog.info? 378).map (·.zero)=some (some (.agg #[(.map none)])):=by kernel_rfl
theorem Jc:(Tryz.prog.info? 3).map (fun i=>(i.zero,i.size,i.bytes))=some (some (.int .i64 0),1,8):=by kernel_rfl
theorem NL:(Tryz.prog.info? 36).map (fun i=>(i.zero,i.size,i.bytes))=some (some (.slice none 0 0),1,24):=by kernel_rfl
theorem ain:(Tryz.prog.info? 37).map (fun i=>(i.zero,i.size,i.bytes))=some (some (.slice none 0 0),1,24):=by kernel_rfl
theorem NM:(Tryz.prog.info? 41).map (fun i=>(i.zero,i.size,i.bytes))=some (some (.agg #[(.int .i64 0),(.slice none 0 0)]),2,32):=by kernel_rfl
theorem aio:(Tryz.prog.info? 45).map (fun i=>(i.zero,i.size,i.bytes))=some (some (.slice none 0 0),1,24):=by kernel_rfl
theorem aip:(Tryz.prog.info? 60).map (fun i=>(i.zero,i.size,i.bytes))=some (some .nilFunc,1,8):=by kernel_rfl
theorem aiq:(Tryz.prog.info? 62).map (fun i=>(i.zero,i.size,i.bytes))=some (some (.agg #[(.slice none 0 0),(.int .i64 0),(.slice none 0 0),(.int .i64 0),(.int .i64 0)]),5,72):=by kernel_rfl
theorem air:(Tryz.prog.info? 66).map (fun i=>(i.zero,i.size,i.bytes))=some (some (.agg #[(.string ⟨#[]⟩),(.int .i64 0),(.int .i64 0),(.bool false)]),4,40):=by kernel_rfl
theorem UU:(Tryz.prog.info? 68).map (fun i=>(i.zero,i.size,i.bytes))=some (some (.agg #[(.bool false),(.int .i64 0),(.slice none 0 0),(.int .i64 0),(.slice none 0 0)]),5,72):=by kernel_rfl
theorem ais:(Tryz.prog.info? 122).map (fun i=>(i.zero,i.size,i.bytes))=some (some (.agg #[(.bool false),(.int .i64 0),(.int .i64 0),(.int .i64 0)]),4,32):=by kernel_rfl
theorem ait:(Tryz.prog.info? 131).map (fun i=>(i.zero,i.size,i.bytes))=some (some .nilFunc,1,8):=by kernel_rfl
theorem aiu:(Tryz.prog.info? 150).map (fun i=>(i.zero,i.size,i.bytes))=some (some (.agg #[(.int .i64 0),(.int .i64 0)]),2,16):=by kernel_rfl
theorem aiv:(Tryz.prog.info? 204).map (fun i=>(i.zero,i.size,i.bytes))=some (some (.agg #[(.slice none 0 0),(.int .i64 0),(.int .i64 0),(.slice none 0 0),(.slice none 0 0)]),5,88):=by kernel_rfl
theorem aiw:(Tryz.prog.info? 222).map (fun i=>(i.zero,i.size,i.bytes))=some (some (.agg #[(.int .i64 0),(.bool false),(.int .i64 0),(.slice none 0 0),(.int .i64 0),(.slice none 0 0)]),6,80):=by kernel_rfl
theorem aix:(Tryz.prog.info? 274).map (fun i=>(i.zero,i.size,i.bytes))=some (some (.agg #[(.int .i64 0),(.slice none 0 0),(.int .i64 0)]),3,40):=by kernel_rfl
theorem aiy:(Tryz.prog.info? 291).map (fun i=>(i.zero,i.size,i.bytes))=some (some (.agg #[(.int .i64 0),(.slice none 0 0),(.int .i64 0),(.slice none 0 0)]),4,64):=by kernel_rfl
theorem aiz:(Tryz.prog.info? 308).map (fun i=>(i.zero,i.size,i.bytes))=some (some (.agg #[(.int .i64 0),(.slice none 0 0),(.int .i64 0),(.slice none 0 0),(.int .i64 0)]),5,72):=by kernel_rfl
theorem aiA:(Tryz.prog.info? 342).map (fun i=>(i.zero,i.size,i.bytes))=some (some (.agg #[(.int .i64 0),(.slice none 0 0),(.int .i64 0),(.slice none 0 0)]),4,64):=by kernel_rfl
theorem aiB:(Tryz.prog.info? 354).map (fun i=>(i.zero,i.size,i.bytes))=some (some (.agg #[(.int .i64 0),(.int .i64 0),(.slice none 0 0)]),3,40):=by kernel_rfl
theorem aiC:jZ Tryz.prog 41 [(.int .i64 0),(.slice none 0 0)] [(0,1),(1,1)]:=⟨⟨_,Tryz.underlying41,by kernel_rfl⟩,by kernel_rfl⟩
theorem aiD:jZ Tryz.prog 62 [(.slice none 0 0),(.int .i64 0),(.slice none 0 0),(.int .i64 0),(.int .i64 0)] [(0,1),(1,1),(2,1),(3,1),(4,1)]:=⟨⟨_,Tryz.underlying62,by kernel_rfl⟩,by kernel_rfl⟩
theorem aiE:jZ Tryz.prog 66 [(.string ⟨#[]⟩),(.int .i64 0),(.int .i64 0),(.bool false)] [(0,1),(1,1),(2,1),(3,1)]:=⟨⟨_,Tryz.underlying66,by kernel_rfl⟩,by kernel_rfl⟩
theorem aiF:jZ Tryz.prog 68 [(.bool false),(.int .i64 0),(.slice none 0 0),(.int .i64 0),(.slice none 0 0)] [(0,1),(1,2),(3,2)]:=⟨⟨_,Tryz.underlying68,by kernel_rfl⟩,by kernel_rfl⟩
theorem aiG:jZ Tryz.prog 78 [(.pointer none),(.int .i64 0)] [(0,1),(1,1)]:=⟨⟨_,Tryz.underlying78,by kernel_rfl⟩,by kernel_rfl⟩
theorem aiH:jZ Tryz.prog 80 [(.pointer none),(.int .i64 0),(.pointer none),(.int .i64 0),(.int .i64 0)] [(0,2),(2,2),(4,1)]:=⟨⟨_,Tryz.underlying80,by kernel_rfl⟩,by kernel_rfl⟩
theorem aiI:jZ Tryz.prog 84 [(.slice none 0 0),(.map none)] [(0,1),(1,1)]:=⟨⟨_,Tryz.underlying84,by kernel_rfl⟩,by kernel_rfl⟩
theorem aiJ:jZ Tryz.prog 86 [(.slice none 0 0)] [(0,1)]:=⟨⟨_,Tryz.underlying86,by kernel_rfl⟩,by kernel_rfl⟩
theorem aiK:jZ Tryz.prog 105 [(.slice none 0 0),(.map none)] [(0,1),(1,1)]:=⟨⟨_,Tryz.underlying105,by kernel_rfl⟩,by kernel_rfl⟩
theorem UW:jZ Tryz.prog 130 [(.slice none 0 0),(.bool false),(.int .i64 0),(.slice none 0 0),(.int .i64 0),(.slice none 0 0)] [(0,1),(1,5)]:=⟨⟨_,Tryz.underlying130,by kernel_rfl⟩,by kernel_rfl⟩
theorem aiL:jZ Tryz.prog 137 [.nilFunc] [(0,1)]:=⟨⟨_,Tryz.underlying137,by kernel_rfl⟩,by kernel_rfl⟩
theorem aiM:jZ Tryz.prog 150 [(.int .i64 0),(.int .i64 0)] [(0,1),(1,1)]:=⟨⟨_,Tryz.underlying150,by kernel_rfl⟩,by kernel_rfl⟩
theorem aiN:jZ Tryz.prog 185 [.nilFunc] [(0,1)]:=⟨⟨_,Tryz.underlying185,by kernel_rfl⟩,by kernel_rfl⟩
theorem aiO:jZ Tryz.prog 197 [(.slice none 0 0),(.slice none 0 0)] [(0,1),(1,1)]:=⟨⟨_,Tryz.underlying197,by kernel_rfl⟩,by kernel_rfl⟩
theorem aiP:jZ Tryz.prog 209 [(.slice none 0 0),(.int .i64 0),(.slice none 0 0),(.slice none 0 0),(.int .i64 0)] [(0,2),(2,1),(3,1),(4,1)]:=⟨⟨_,Tryz.underlying209,by kernel_rfl⟩,by kernel_rfl⟩
theorem aiQ:jZ Tryz.prog 222 [(.int .i64 0),(.bool false),(.int .i64 0),(.slice none 0 0),(.int .i64 0),(.slice none 0 0)] [(0,1),(1,1),(2,2),(4,2)]:=⟨⟨_,Tryz.underlying222,by kernel_rfl⟩,by kernel_rfl⟩
theorem aiR:jZ Tryz.prog 274 [(.int .i64 0),(.slice none 0 0),(.int .i64 0)] [(0,2),(2,1)]:=⟨⟨_,Tryz.underlying274,by kernel_rfl⟩,by kernel_rfl⟩
theorem aiS:jZ Tryz.prog 308 [(.int .i64 0),(.slice none 0 0),(.int .i64 0),(.slice none 0 0),(.int .i64 0)] [(0,2),(2,2),(4,1)]:=⟨⟨_,Tryz.underlying308,by kernel_rfl⟩,by kernel_rfl⟩
theorem aiT:jZ Tryz.prog 315 [(.int .i64 0),(.bool false),(.slice none 0 0),(.int .i64 0),(.slice none 0 0)] [(0,1),(1,1),(2,1),(3,2)]:=⟨⟨_,Tryz.underlying315,by kernel_rfl⟩,by kernel_rfl⟩
theorem aiU:jZ Tryz.prog 324 [(.map none)] [(0,1)]:=⟨⟨_,Tryz.underlying324,by kernel_rfl⟩,by kernel_rfl⟩
theorem aiV:jZ Tryz.prog 342 [(.int .i64 0),(.slice none 0 0),(.int .i64 0),(.slice none 0 0)] [(0,2),(2,2)]:=⟨⟨_,Tryz.underlying342,by kernel_rfl⟩,by kernel_rfl⟩
theorem aiW:jZ Tryz.prog 354 [(.int .i64 0),(.int .i64 0),(.slice none 0 0)] [(0,1),(1,2)]:=⟨⟨_,Tryz.underlying354,by kernel_rfl⟩,by kernel_rfl⟩
theorem aiX:jZ Tryz.prog 362 [(.int .i64 0),(.map none)] [(0,1),(1,1)]:=⟨⟨_,Tryz.underlying362,by kernel_rfl⟩,by kernel_rfl⟩
theorem aiY:eb Tryz.prog 21=true:=by kernel_rfl
theorem aiZ:eb Tryz.prog 38=true:=by kernel_rfl
theorem ai0:eb Tryz.prog 41=true:=by kernel_rfl
theorem ai1:eb Tryz.prog 48=true:=by kernel_rfl
theorem ai2:eb Tryz.prog 49=true:=by kernel_rfl
theorem ai3:eb Tryz.prog 74=true:=by kernel_rfl
theorem ai4:eb Tryz.prog 78=true:=by kernel_rfl
theorem UX:eb Tryz.prog 89=true:=by kernel_rfl
theorem UY:eb Tryz.prog 92=true:=by kernel_rfl
theorem UZ:eb Tryz.prog 93=true:=by kernel_rfl
theorem U0:eb Tryz.prog 114=true:=by kernel_rfl
theorem U1:eb Tryz.prog 121=true:=by kernel_rfl
theorem ai5:eb Tryz.prog 136=true:=by kernel_rfl
theorem ai6:eb Tryz.prog 140=true:=by kernel_rfl
theorem ai7:eb Tryz.prog 141=true:=by kernel_rfl
theorem ai8:eb Tryz.prog 142=true:=by kernel_rfl
theorem ai9:eb Tryz.prog 167=true:=by kernel_rfl
theorem ai_:eb Tryz.prog 168=true:=by kernel_rfl
theorem U2:eb Tryz.prog 173=true:=by kernel_rfl
theorem U3:eb Tryz.prog 189=true:=by kernel_rfl
theorem aja:eb Tryz.prog 196=true:=by kernel_rfl
theorem ajb:eb Tryz.prog 214=true:=by kernel_rfl
theorem U4:eb Tryz.prog 216=true:=by kernel_rfl
theorem ajc:eb Tryz.prog 218=true:=by kernel_rfl
theorem ajd:eb Tryz.prog 231=true:=by kernel_rfl
theorem aje:eb Tryz.prog 235=true:=by kernel_rfl
theorem ajf:eb Tryz.prog 239=true:=by kernel_rfl
theorem U5:eb Tryz.prog 245=true:=by kernel_rfl
theorem U6:eb Tryz.prog 259=true:=by kernel_rfl
theorem U7:eb Tryz.prog 263=true:=by kernel_rfl
theorem ajg:eb Tryz.prog 265=true:=by kernel_rfl
theorem ajh:eb Tryz.prog 269=true:=by kernel_rfl
theorem aji:eb Tryz.prog 272=true:=by kernel_rfl
theorem ajj:eb Tryz.prog 273=true:=by kernel_rfl
theorem NN:eb Tryz.prog 274=true:=by kernel_rfl
theorem ajk:eb Tryz.prog 276=true:=by kernel_rfl
theorem ajl:eb Tryz.prog 279=true:=by kernel_rfl
theorem ajm:eb Tryz.prog 281=true:=by kernel_rfl
theorem ajn:eb Tryz.prog 282=true:=by kernel_rfl
theorem ajo:eb Tryz.prog 283=true:=by kernel_rfl
theorem mixed:Tryz.prog.follows .mixedOrders=true:=by kernel_rfl
class dR(t:TypeId)(a:outParam Bool)(n:outParam Nat):Prop where h:dt Tryz.prog t a n
class jF(t:TypeId)(g:outParam TypeDesc):Prop where h:Tryz.prog.underlying t=some g
class l9(t:TypeId)(n:outParam Nat):Prop where h:(Tryz.prog.info? t).map (·.size)=some n
class gz(t:TypeId)(z:outParam Value):Prop where h:(Tryz.prog.info? t).map (·.zero)=some (some z)
class lB(t:TypeId)(z:outParam Value)(n m:outParam Nat):Prop where h:(Tryz.prog.info? t).map (fun i=>(i.zero,i.size,i.bytes))=some (some z,n,m)
class kz(t:TypeId)(z:outParam (List Value))(p:outParam (List (Nat×Nat))):Prop where h:jZ Tryz.prog t z p
class Fd(t:TypeId)(k:Nat)(q:outParam Nat):Prop where h:∃dE f,Tryz.prog.underlying t=some (.struct dE)∧dE[k]? =some f∧f.offset=q∧(Tryz.prog.info? f.type).map (fun i=>Nat.blt 0 i.size)=some true
instance:dR 3 false 1:=⟨l8⟩
instance:dR 4 false 1:=⟨k0⟩
instance:dR 9 false 1:=⟨ag2⟩
instance:dR 22 false 1:=⟨UK⟩
instance:dR 23 false 1:=⟨ag3⟩
instance:dR 25 true 7:=⟨ag4⟩
instance:dR 27 false 1:=⟨ag5⟩
instance:dR 28 false 1:=⟨ag6⟩
instance:dR 30 true 5:=⟨yW⟩
instance:dR 31 false 1:=⟨NG⟩
instance:dR 36 false 1:=⟨Fa⟩
instance:dR 37 false 1:=⟨I9⟩
instance:dR 41 true 2:=⟨fc⟩
instance:dR 45 false 1:=⟨ag8⟩
instance:dR 48 false 1:=⟨ag_⟩
instance:dR 51 false 1:=⟨aha⟩
instance:dR 54 false 1:=⟨ahb⟩
instance:dR 55 false 1:=⟨ahc⟩
instance:dR 60 false 1:=⟨ahd⟩
instance:dR 62 true 5:=⟨Fb⟩
instance:dR 66 true 4:=⟨UL⟩
instance:dR 68 true 5:=⟨Fc⟩
instance:dR 73 false 1:=⟨ahg⟩
instance:dR 74 true 3:=⟨ahh⟩
instance:dR 75 false 1:=⟨ahi⟩
instance:dR 78 true 2:=⟨ahj⟩
instance:dR 82 false 1:=⟨ahk⟩
instance:dR 88 true 0:=⟨ahl⟩
instance:dR 102 false 1:=⟨ahm⟩
instance:dR 103 false 1:=⟨ahn⟩
instance:dR 110 false 1:=⟨aho⟩
instance:dR 130 true 6:=⟨ahp⟩
instance:dR 131 false 1:=⟨ahq⟩
instance:dR 135 false 1:=⟨ahs⟩
instance:dR 137 true 1:=⟨aht⟩
instance:dR 143 true 4:=⟨Ja⟩
instance:dR 150 true 2:=⟨wb⟩
instance:dR 163 false 1:=⟨ahu⟩
instance:dR 170 false 1:=⟨NI⟩
instance:dR 174 true 6:=⟨ahv⟩
instance:dR 183 false 1:=⟨ahw⟩
instance:dR 194 false 1:=⟨ahx⟩
instance:dR 195 false 1:=⟨ahy⟩
instance:dR 199 false 1:=⟨ahz⟩
instance:dR 201 true 2:=⟨AS⟩
instance:dR 202 false 1:=⟨ahA⟩
instance:dR 204 true 5:=⟨ahB⟩
instance:dR 205 false 1:=⟨ahD⟩
instance:dR 222 true 6:=⟨ahE⟩
instance:dR 268 false 1:=⟨ahG⟩
instance:dR 274 true 3:=⟨UM⟩
instance:dR 275 false 1:=⟨ahH⟩
instance:dR 278 false 1:=⟨ahI⟩
instance:dR 291 true 4:=⟨UO⟩
instance:dR 305 false 1:=⟨UP⟩
instance:dR 308 true 5:=⟨Jb⟩
instance:dR 315 true 5:=⟨ahK⟩
instance:dR 322 false 1:=⟨UQ⟩
instance:dR 330 false 1:=⟨ahL⟩
instance:dR 340 false 1:=⟨ahM⟩
instance:dR 342 true 4:=⟨UR⟩
instance:dR 344 false 1:=⟨ahN⟩
instance:dR 352 false 1:=⟨UT⟩
instance:dR 354 true 3:=⟨ahO⟩
instance:dR 376 false 1:=⟨ahQ⟩
instance:l9 3 1:=⟨rj⟩
instance:l9 4 1:=⟨ag1⟩
instance:l9 36 1:=⟨oo⟩
instance:l9 37 1:=⟨ag7⟩
instance:l9 41 2:=⟨oq⟩
instance:l9 45 1:=⟨ag9⟩
instance:l9 60 1:=⟨ahe⟩
instance:l9 62 5:=⟨ahf⟩
instance:l9 66 4:=⟨wa⟩
instance:l9 68 5:=⟨xn⟩
instance:l9 73 1:=⟨I_⟩
instance:l9 131 1:=⟨ahr⟩
instance:l9 150 2:=⟨NH⟩
instance:l9 204 5:=⟨ahC⟩
instance:l9 222 6:=⟨ahF⟩
instance:l9 274 3:=⟨UN⟩
instance:l9 291 4:=⟨ahJ⟩
instance:l9 308 5:=⟨NJ⟩
instance:l9 342 4:=⟨US⟩
instance:l9 354 3:=⟨ahP⟩
instance:gz 3 (.int .i64 0):=⟨z3⟩
instance:gz 4 (.bool false):=⟨z4⟩
instance:gz 25 (.agg #[(.int .i64 0),(.int .i64 0),(.int .i64 0),(.int .i64 0),(.int .i64 0),(.int .i64 0),(.int .i64 0)]):=⟨z25⟩
instance:gz 30 (.agg #[(.int .i64 0),(.slice none 0 0),(.slice none 0 0),(.bool false),(.int .i64 0)]):=⟨ahR⟩
instance:gz 31 (.int .i64 0):=⟨ahS⟩
instance:gz 36 (.slice none 0 0):=⟨z36⟩
instance:gz 41 (.agg #[(.int .i64 0),(.slice none 0 0)]):=⟨z41⟩
instance:gz 45 (.slice none 0 0):=⟨Fe⟩
instance:gz 62 (.agg #[(.slice none 0 0),(.int .i64 0),(.slice none 0 0),(.int .i64 0),(.int .i64 0)]):=⟨ahT⟩
instance:gz 66 (.agg #[(.string ⟨#[]⟩),(.int .i64 0),(.int .i64 0),(.bool false)]):=⟨ahU⟩
instance:gz 68 (.agg #[(.bool false),(.int .i64 0),(.slice none 0 0),(.int .i64 0),(.slice none 0 0)]):=⟨ahV⟩
instance:gz 74 (.agg #[.nilFunc,.nilFunc,.nilFunc]):=⟨ahW⟩
instance:gz 78 (.agg #[(.pointer none),(.int .i64 0)]):=⟨ahX⟩
instance:gz 88 (.agg #[]):=⟨ahY⟩
instance:gz 102 (.map none):=⟨ahZ⟩
instance:gz 137 (.agg #[.nilFunc]):=⟨ah0⟩
instance:gz 143 (.agg #[(.slice none 0 0),(.slice none 0 0),(.int .i64 0),(.int .i64 0)]):=⟨ah1⟩
instance:gz 150 (.agg #[(.int .i64 0),(.int .i64 0)]):=⟨ah2⟩
instance:gz 170 (.nilFunc):=⟨ah3⟩
instance:gz 174 (.agg #[(.slice none 0 0),(.slice none 0 0),(.slice none 0 0),(.slice none 0 0),(.slice none 0 0),(.slice none 0 0)]):=⟨ah4⟩
instance:gz 194 (.pointer none):=⟨ah5⟩
instance:gz 201 (.agg #[(.int .i64 0),(.int .i64 0)]):=⟨NK⟩
instance:gz 204 (.agg #[(.slice none 0 0),(.int .i64 0),(.int .i64 0),(.slice none 0 0),(.slice none 0 0)]):=⟨ah6⟩
instance:gz 205 (.pointer none):=⟨ah7⟩
instance:gz 222 (.agg #[(.int .i64 0),(.bool false),(.int .i64 0),(.slice none 0 0),(.int .i64 0),(.slice none 0 0)]):=⟨ah8⟩
instance:gz 268 (.slice none 0 0):=⟨ah9⟩
instance:gz 274 (.agg #[(.int .i64 0),(.slice none 0 0),(.int .i64 0)]):=⟨ah_⟩
instance:gz 275 (.slice none 0 0):=⟨aia⟩
instance:gz 278 (.slice none 0 0):=⟨aib⟩
instance:gz 291 (.agg #[(.int .i64 0),(.slice none 0 0),(.int .i64 0),(.slice none 0 0)]):=⟨aic⟩
instance:gz 305 (.nilFunc):=⟨aid⟩
instance:gz 308 (.agg #[(.int .i64 0),(.slice none 0 0),(.int .i64 0),(.slice none 0 0),(.int .i64 0)]):=⟨aie⟩
instance:gz 315 (.agg #[(.int .i64 0),(.bool false),(.slice none 0 0),(.int .i64 0),(.slice none 0 0)]):=⟨aif⟩
instance:gz 330 (.map none):=⟨aih⟩
instance:gz 340 (.slice none 0 0):=⟨aii⟩
instance:gz 342 (.agg #[(.int .i64 0),(.slice none 0 0),(.int .i64 0),(.slice none 0 0)]):=⟨aij⟩
instance:gz 346 (.agg #[(.map none)]):=⟨aik⟩
instance:gz 354 (.agg #[(.int .i64 0),(.int .i64 0),(.slice none 0 0)]):=⟨ail⟩
instance:gz 378 (.agg #[(.map none)]):=⟨aim⟩
instance:lB 3 (.int .i64 0) 1 8:=⟨Jc⟩
instance:lB 36 (.slice none 0 0) 1 24:=⟨NL⟩
instance:lB 37 (.slice none 0 0) 1 24:=⟨ain⟩
instance:lB 41 (.agg #[(.int .i64 0),(.slice none 0 0)]) 2 32:=⟨NM⟩
instance:lB 45 (.slice none 0 0) 1 24:=⟨aio⟩
instance:lB 60 (.nilFunc) 1 8:=⟨aip⟩
instance:lB 62 (.agg #[(.slice none 0 0),(.int .i64 0),(.slice none 0 0),(.int .i64 0),(.int .i64 0)]) 5 72:=⟨aiq⟩
instance:lB 66 (.agg #[(.string ⟨#[]⟩),(.int .i64 0),(.int .i64 0),(.bool false)]) 4 40:=⟨air⟩
instance:lB 68 (.agg #[(.bool false),(.int .i64 0),(.slice none 0 0),(.int .i64 0),(.slice none 0 0)]) 5 72:=⟨UU⟩
instance:lB 122 (.agg #[(.bool false),(.int .i64 0),(.int .i64 0),(.int .i64 0)]) 4 32:=⟨ais⟩
instance:lB 131 (.nilFunc) 1 8:=⟨ait⟩
instance:lB 150 (.agg #[(.int .i64 0),(.int .i64 0)]) 2 16:=⟨aiu⟩
instance:lB 204 (.agg #[(.slice none 0 0),(.int .i64 0),(.int .i64 0),(.slice none 0 0),(.slice none 0 0)]) 5 88:=⟨aiv⟩
instance:lB 222 (.agg #[(.int .i64 0),(.bool false),(.int .i64 0),(.slice none 0 0),(.int .i64 0),(.slice none 0 0)]) 6 80:=⟨aiw⟩
instance:lB 274 (.agg #[(.int .i64 0),(.slice none 0 0),(.int .i64 0)]) 3 40:=⟨aix⟩
instance:lB 291 (.agg #[(.int .i64 0),(.slice none 0 0),(.int .i64 0),(.slice none 0 0)]) 4 64:=⟨aiy⟩
instance:lB 308 (.agg #[(.int .i64 0),(.slice none 0 0),(.int .i64 0),(.slice none 0 0),(.int .i64 0)]) 5 72:=⟨aiz⟩
instance:lB 342 (.agg #[(.int .i64 0),(.slice none 0 0),(.int .i64 0),(.slice none 0 0)]) 4 64:=⟨aiA⟩
instance:lB 354 (.agg #[(.int .i64 0),(.int .i64 0),(.slice none 0 0)]) 3 40:=⟨aiB⟩
instance:kz 41 [(.int .i64 0),(.slice none 0 0)] [(0,1),(1,1)]:=⟨aiC⟩
instance:kz 62 [(.slice none 0 0),(.int .i64 0),(.slice none 0 0),(.int .i64 0),(.int .i64 0)] [(0,1),(1,1),(2,1),(3,1),(4,1)]:=⟨aiD⟩
instance:kz 66 [(.string ⟨#[]⟩),(.int .i64 0),(.int .i64 0),(.bool false)] [(0,1),(1,1),(2,1),(3,1)]:=⟨aiE⟩
instance:kz 68 [(.bool false),(.int .i64 0),(.slice none 0 0),(.int .i64 0),(.slice none 0 0)] [(0,1),(1,2),(3,2)]:=⟨aiF⟩
instance:kz 78 [(.pointer none),(.int .i64 0)] [(0,1),(1,1)]:=⟨aiG⟩
instance:kz 80 [(.pointer none),(.int .i64 0),(.pointer none),(.int .i64 0),(.int .i64 0)] [(0,2),(2,2),(4,1)]:=⟨aiH⟩
instance:kz 84 [(.slice none 0 0),(.map none)] [(0,1),(1,1)]:=⟨aiI⟩
instance:kz 86 [(.slice none 0 0)] [(0,1)]:=⟨aiJ⟩
instance:kz 105 [(.slice none 0 0),(.map none)] [(0,1),(1,1)]:=⟨aiK⟩
instance:kz 130 [(.slice none 0 0),(.bool false),(.int .i64 0),(.slice none 0 0),(.int .i64 0),(.slice none 0 0)] [(0,1),(1,5)]:=⟨UW⟩
instance:kz 137 [.nilFunc] [(0,1)]:=⟨aiL⟩
instance:kz 150 [(.int .i64 0),(.int .i64 0)] [(0,1),(1,1)]:=⟨aiM⟩
instance:kz 185 [.nilFunc] [(0,1)]:=⟨aiN⟩
instance:kz 197 [(.slice none 0 0),(.slice none 0 0)] [(0,1),(1,1)]:=⟨aiO⟩
instance:kz 209 [(.slice none 0 0),(.int .i64 0),(.slice none 0 0),(.slice none 0 0),(.int .i64 0)] [(0,2),(2,1),(3,1),(4,1)]:=⟨aiP⟩
instance:kz 222 [(.int .i64 0),(.bool false),(.int .i64 0),(.slice none 0 0),(.int .i64 0),(.slice none 0 0)] [(0,1),(1,1),(2,2),(4,2)]:=⟨aiQ⟩
instance:kz 274 [(.int .i64 0),(.slice none 0 0),(.int .i64 0)] [(0,2),(2,1)]:=⟨aiR⟩
instance:kz 308 [(.int .i64 0),(.slice none 0 0),(.int .i64 0),(.slice none 0 0),(.int .i64 0)] [(0,2),(2,2),(4,1)]:=⟨aiS⟩
instance:kz 315 [(.int .i64 0),(.bool false),(.slice none 0 0),(.int .i64 0),(.slice none 0 0)] [(0,1),(1,1),(2,1),(3,2)]:=⟨aiT⟩
instance:kz 324 [(.map none)] [(0,1)]:=⟨aiU⟩
instance:kz 342 [(.int .i64 0),(.slice none 0 0),(.int .i64 0),(.slice none 0 0)] [(0,2),(2,2)]:=⟨aiV⟩
instance:kz 354 [(.int .i64 0),(.int .i64 0),(.slice none 0 0)] [(0,1),(1,2)]:=⟨aiW⟩
instance:kz 362 [(.int .i64 0),(.map none)] [(0,1),(1,1)]:=⟨aiX⟩
instance:Fd 25 0 0:=⟨_,_,Tryz.underlying25,rfl,rfl,by kernel_rfl⟩
instance:Fd 25 1 1:=⟨_,_,Tryz.underlying25,rfl,rfl,by kernel_rfl⟩
instance:Fd 25 2 2:=⟨_,_,Tryz.underlying25,rfl,rfl,by kernel_rfl⟩
instance:Fd 25 3 3:=⟨_,_,Tryz.underlying25,rfl,rfl,by kernel_rfl⟩
instance:Fd 25 4 4:=⟨_,_,Tryz.underlying25,rfl,rfl,by kernel_rfl⟩
instance:Fd 25 5 5:=⟨_,_,Tryz.underlying25,rfl,rfl,by kernel_rfl⟩
instance:Fd 25 6 6:=⟨_,_,Tryz.underlying25,rfl,rfl,by kernel_rfl⟩
instance:Fd 30 0 0:=⟨_,_,Tryz.underlying30,rfl,rfl,by kernel_rfl⟩
instance:Fd 30 1 1:=⟨_,_,Tryz.underlying30,rfl,rfl,by kernel_rfl⟩
instance:Fd 41 0 0:=⟨_,_,Tryz.underlying41,rfl,rfl,by kernel_rfl⟩
instance:Fd 41 1 1:=⟨_,_,Tryz.underlying41,rfl,rfl,by kernel_rfl⟩
instance:Fd 58 0 0:=⟨_,_,Tryz.underlying58,rfl,rfl,by kernel_rfl⟩
instance:Fd 58 1 1:=⟨_,_,Tryz.underlying58,rfl,rfl,by kernel_rfl⟩
instance:Fd 58 2 2:=⟨_,_,Tryz.underlying58,rfl,rfl,by kernel_rfl⟩
instance:Fd 58 3 3:=⟨_,_,Tryz.underlying58,rfl,rfl,by kernel_rfl⟩
instance:Fd 58 4 4:=⟨_,_,Tryz.underlying58,rfl,rfl,by kernel_rfl⟩
instance:Fd 58 5 11:=⟨_,_,Tryz.underlying58,rfl,rfl,by kernel_rfl⟩
instance:Fd 58 6 12:=⟨_,_,Tryz.underlying58,rfl,rfl,by kernel_rfl⟩
instance:Fd 58 7 13:=⟨_,_,Tryz.underlying58,rfl,rfl,by kernel_rfl⟩
instance:Fd 62 0 0:=⟨_,_,Tryz.underlying62,rfl,rfl,by kernel_rfl⟩
instance:Fd 62 1 1:=⟨_,_,Tryz.underlying62,rfl,rfl,by kernel_rfl⟩
instance:Fd 62 2 2:=⟨_,_,Tryz.underlying62,rfl,rfl,by kernel_rfl⟩
instance:Fd 62 3 3:=⟨_,_,Tryz.underlying62,rfl,rfl,by kernel_rfl⟩
instance:Fd 62 4 4:=⟨_,_,Tryz.underlying62,rfl,rfl,by kernel_rfl⟩
instance:Fd 66 0 0:=⟨_,_,Tryz.underlying66,rfl,rfl,by kernel_rfl⟩
instance:Fd 66 1 1:=⟨_,_,Tryz.underlying66,rfl,rfl,by kernel_rfl⟩
instance:Fd 66 2 2:=⟨_,_,Tryz.underlying66,rfl,rfl,by kernel_rfl⟩
instance:Fd 66 3 3:=⟨_,_,Tryz.underlying66,rfl,rfl,by kernel_rfl⟩
instance:Fd 68 0 0:=⟨_,_,Tryz.underlying68,rfl,rfl,by kernel_rfl⟩
instance:Fd 68 1 1:=⟨_,_,Tryz.underlying68,rfl,rfl,by kernel_rfl⟩
instance:Fd 68 2 3:=⟨_,_,Tryz.underlying68,rfl,rfl,by kernel_rfl⟩
instance:Fd 78 0 0:=⟨_,_,Tryz.underlying78,rfl,rfl,by kernel_rfl⟩
instance:Fd 78 1 1:=⟨_,_,Tryz.underlying78,rfl,rfl,by kernel_rfl⟩
instance:Fd 80 0 0:=⟨_,_,Tryz.underlying80,rfl,rfl,by kernel_rfl⟩
instance:Fd 80 1 2:=⟨_,_,Tryz.underlying80,rfl,rfl,by kernel_rfl⟩
instance:Fd 80 2 4:=⟨_,_,Tryz.underlying80,rfl,rfl,by kernel_rfl⟩
instance:Fd 84 0 0:=⟨_,_,Tryz.underlying84,rfl,rfl,by kernel_rfl⟩
instance:Fd 84 1 1:=⟨_,_,Tryz.underlying84,rfl,rfl,by kernel_rfl⟩
instance:Fd 86 0 0:=⟨_,_,Tryz.underlying86,rfl,rfl,by kernel_rfl⟩
instance:Fd 105 0 0:=⟨_,_,Tryz.underlying105,rfl,rfl,by kernel_rfl⟩
instance:Fd 105 1 1:=⟨_,_,Tryz.underlying105,rfl,rfl,by kernel_rfl⟩
instance:Fd 130 0 0:=⟨_,_,Tryz.underlying130,rfl,rfl,by kernel_rfl⟩
instance:Fd 130 1 1:=⟨_,_,Tryz.underlying130,rfl,rfl,by kernel_rfl⟩
instance:Fd 137 0 0:=⟨_,_,Tryz.underlying137,rfl,rfl,by kernel_rfl⟩
instance:Fd 143 0 0:=⟨_,_,Tryz.underlying143,rfl,rfl,by kernel_rfl⟩
instance:Fd 143 1 1:=⟨_,_,Tryz.underlying143,rfl,rfl,by kernel_rfl⟩
instance:Fd 143 2 2:=⟨_,_,Tryz.underlying143,rfl,rfl,by kernel_rfl⟩
instance:Fd 143 3 3:=⟨_,_,Tryz.underlying143,rfl,rfl,by kernel_rfl⟩
instance:Fd 150 0 0:=⟨_,_,Tryz.underlying150,rfl,rfl,by kernel_rfl⟩
instance:Fd 150 1 1:=⟨_,_,Tryz.underlying150,rfl,rfl,by kernel_rfl⟩
instance:Fd 181 0 0:=⟨_,_,Tryz.underlying181,rfl,rfl,by kernel_rfl⟩
instance:Fd 181 1 1:=⟨_,_,Tryz.underlying181,rfl,rfl,by kernel_rfl⟩
instance:Fd 181 2 2:=⟨_,_,Tryz.underlying181,rfl,rfl,by kernel_rfl⟩
instance:Fd 181 3 3:=⟨_,_,Tryz.underlying181,rfl,rfl,by kernel_rfl⟩
instance:Fd 181 4 4:=⟨_,_,Tryz.underlying181,rfl,rfl,by kernel_rfl⟩
instance:Fd 181 5 5:=⟨_,_,Tryz.underlying181,rfl,rfl,by kernel_rfl⟩
instance:Fd 181 6 6:=⟨_,_,Tryz.underlying181,rfl,rfl,by kernel_rfl⟩
instance:Fd 185 0 0:=⟨_,_,Tryz.underlying185,rfl,rfl,by kernel_rfl⟩
instance:Fd 197 0 0:=⟨_,_,Tryz.underlying197,rfl,rfl,by kernel_rfl⟩
instance:Fd 197 1 1:=⟨_,_,Tryz.underlying197,rfl,rfl,by kernel_rfl⟩
instance:Fd 204 0 0:=⟨_,_,Tryz.underlying204,rfl,rfl,by kernel_rfl⟩
instance:Fd 204 3 4:=⟨_,_,Tryz.underlying204,rfl,rfl,by kernel_rfl⟩
instance:Fd 207 0 0:=⟨_,_,Tryz.underlying207,rfl,rfl,by kernel_rfl⟩
instance:Fd 207 1 1:=⟨_,_,Tryz.underlying207,rfl,rfl,by kernel_rfl⟩
instance:Fd 209 0 0:=⟨_,_,Tryz.underlying209,rfl,rfl,by kernel_rfl⟩
instance:Fd 209 1 2:=⟨_,_,Tryz.underlying209,rfl,rfl,by kernel_rfl⟩
instance:Fd 209 2 3:=⟨_,_,Tryz.underlying209,rfl,rfl,by kernel_rfl⟩
instance:Fd 209 3 4:=⟨_,_,Tryz.underlying209,rfl,rfl,by kernel_rfl⟩
instance:Fd 217 0 0:=⟨_,_,Tryz.underlying217,rfl,rfl,by kernel_rfl⟩
instance:Fd 217 1 1:=⟨_,_,Tryz.underlying217,rfl,rfl,by kernel_rfl⟩
instance:Fd 217 2 2:=⟨_,_,Tryz.underlying217,rfl,rfl,by kernel_rfl⟩
instance:Fd 217 3 3:=⟨_,_,Tryz.underlying217,rfl,rfl,by kernel_rfl⟩
instance:Fd 217 4 4:=⟨_,_,Tryz.underlying217,rfl,rfl,by kernel_rfl⟩
instance:Fd 217 5 5:=⟨_,_,Tryz.underlying217,rfl,rfl,by kernel_rfl⟩
instance:Fd 222 0 0:=⟨_,_,Tryz.underlying222,rfl,rfl,by kernel_rfl⟩
instance:Fd 222 1 1:=⟨_,_,Tryz.underlying222,rfl,rfl,by kernel_rfl⟩
instance:Fd 222 2 2:=⟨_,_,Tryz.underlying222,rfl,rfl,by kernel_rfl⟩
instance:Fd 222 3 4:=⟨_,_,Tryz.underlying222,rfl,rfl,by kernel_rfl⟩
instance:Fd 274 0 0:=⟨_,_,Tryz.underlying274,rfl,rfl,by kernel_rfl⟩
instance:Fd 274 1 2:=⟨_,_,Tryz.underlying274,rfl,rfl,by kernel_rfl⟩
instance:Fd 308 0 0:=⟨_,_,Tryz.underlying308,rfl,rfl,by kernel_rfl⟩
instance:Fd 308 1 2:=⟨_,_,Tryz.underlying308,rfl,rfl,by kernel_rfl⟩
instance:Fd 308 2 4:=⟨_,_,Tryz.underlying308,rfl,rfl,by kernel_rfl⟩
instance:Fd 315 0 0:=⟨_,_,Tryz.underlying315,rfl,rfl,by kernel_rfl⟩
instance:Fd 315 1 1:=⟨_,_,Tryz.underlying315,rfl,rfl,by kernel_rfl⟩
instance:Fd 315 2 2:=⟨_,_,Tryz.underlying315,rfl,rfl,by kernel_rfl⟩
instance:Fd 315 3 3:=⟨_,_,Tryz.underlying315,rfl,rfl,by kernel_rfl⟩
instance:Fd 324 0 0:=⟨_,_,Tryz.underlying324,rfl,rfl,by kernel_rfl⟩
instance:Fd 342 0 0:=⟨_,_,Tryz.underlying342,rfl,rfl,by kernel_rfl⟩
instance:Fd 342 1 2:=⟨_,_,Tryz.underlying342,rfl,rfl,by kernel_rfl⟩
instance:Fd 346 0 0:=⟨_,_,Tryz.underlying346,rfl,rfl,by kernel_rfl⟩
instance:Fd 354 0 0:=⟨_,_,Tryz.underlying354,rfl,rfl,by kernel_rfl⟩
instance:Fd 354 1 1:=⟨_,_,Tryz.underlying354,rfl,rfl,by kernel_rfl⟩
instance:Fd 362 0 0:=⟨_,_,Tryz.underlying362,rfl,rfl,by kernel_rfl⟩
instance:Fd 362 1 1:=⟨_,_,Tryz.underlying362,rfl,rfl,by kernel_rfl⟩
instance:Fd 378 0 0:=⟨_,_,Tryz.underlying378,rfl,rfl,by kernel_rfl⟩
instance:jF 22 (.slice 66):=⟨Tryz.underlying22⟩
instance:jF 23 (.slice 36):=⟨Tryz.underlying23⟩
instance:jF 27 (.slice 62):=⟨Tryz.underlying27⟩
instance:jF 28 (.slice 122):=⟨Tryz.underlying28⟩
instance:jF 36 (.slice 68):=⟨Tryz.underlying36⟩
instance:jF 37 (.slice 41):=⟨Tryz.underlying37⟩
instance:jF 45 (.slice 3):=⟨Tryz.underlying45⟩
instance:jF 103 (.slice 150):=⟨Tryz.underlying103⟩
instance:jF 163 (.slice 204):=⟨Tryz.underlying163⟩
instance:jF 168 (.slice 131):=⟨Tryz.underlying168⟩
instance:jF 182 (.slice 60):=⟨Tryz.underlying182⟩
instance:jF 195 (.slice 4):=⟨Tryz.underlying195⟩
instance:jF 202 (.slice 354):=⟨Tryz.underlying202⟩
instance:jF 219 (.slice 222):=⟨Tryz.underlying219⟩
instance:jF 248 (.slice 3):=⟨Tryz.underlying248⟩
instance:jF 268 (.slice 45):=⟨Tryz.underlying268⟩
instance:jF 275 (.slice 274):=⟨Tryz.underlying275⟩
instance:jF 278 (.slice 308):=⟨Tryz.underlying278⟩
instance:jF 292 (.slice 291):=⟨Tryz.underlying292⟩
instance:jF 340 (.slice 342):=⟨Tryz.underlying340⟩
instance:jF 382 (.slice 37):=⟨Tryz.underlying382⟩
section
variable {C:Ctx} {Q:Exit→Act→World→Prop} {σ:Env} {ds:List dN} {I:aa} {δ:List ay} {ops:Array Oper} {rest:List Oper} {d:Nat} {ty:TypeId} {pos:String} {after:Array Edge} {t e:TypeId} {x y:Operand} {b off n c i size:Nat} {agg:Bool} {cs:List Value} {v:Value} {ad:Option Addr}
theorem cW{x:ay}(h:Has δ x:=by repeat (first|exact Has.here|apply Has.there)):Has δ x:=h
theorem ajp[h:dR t agg n](af:bp σ x=some (.pointer (some ⟨b,off,none⟩)):=by rfl)(bK:Has δ (.box b e cs):=by repeat (first|exact Has.here|apply Has.there))(ax:kU agg n (cs.drop off)=some v:=by rfl)(ev:C.P=Tryz.prog:=by rfl):cz C σ ds I δ (.load t x) v:=uX (ev▸h.h) af ax bK
theorem ajq[h:dR t true n](af:bp σ x=some (.pointer (some ⟨b,off,none⟩)):=by rfl)(bK:Has δ (.box b e cs):=by repeat (first|exact Has.here|apply Has.there))(ax:I2 n (cs.drop off)=some v:=by rfl)(ev:C.P=Tryz.prog:=by rfl):cz C σ ds I δ (.load t x) v:=agn (ev▸h.h) af ax bK
theorem ajr{k q o:Nat}[h:Fd t k q](af:bp σ x=some (.pointer (some ⟨b,o,none⟩)):=by rfl)(ev:C.P=Tryz.prog:=by rfl):cz C σ ds I δ (.fieldAddr t x k) (.pointer (some ⟨b,o+q,none⟩)):=by
 obtain⟨dE,f,ab,ae,aF,bb⟩:=h.h;exact aft q (ev▸ab) ae aF (ev▸bb) af
theorem ajs{k q m:Nat}[h:Fd t k q](af:bp σ x=some (dh ad m):=by rfl)(bk:ad.isSome=true:=by assumption)(ev:C.P=Tryz.prog:=by rfl):cz C σ ds I δ (.fieldAddr t x k) (dh ad (m+q)):=by
 obtain⟨dE,f,ab,ae,aF,bb⟩:=h.h;exact afv q (ev▸ab) ae aF (ev▸bb) af bk
theorem ajt[h:jF t (.slice e)](af:bp σ x=some (.slice ad n c):=by rfl)(ev:C.P=Tryz.prog:=by rfl):cz C σ ds I δ (.call {callee:=.builtin .len,args:= #[x],argTypes:= #[t]}) (.int .i64 n):=afq (ev▸h.h) af
theorem aju[h:jF t (.slice e)][g:l9 e size](af:bp σ x=some (.slice ad n c):=by rfl)(aw:bp σ y=some (.int .i64 (i:Int)):=by rfl)(aj:i<n:=by omega)(l3:ad.isSome=true:=by assumption)(ev:C.P=Tryz.prog:=by rfl):cz C σ ds I δ (.indexAddr t x y) (dh ad (i*size)):=agp (ev▸h.h) (ev▸g.h) af aw aj l3
theorem ajv{parts:List (Nat×Operand)}{z:List Value}{cp:List (Nat×Nat)}{vs:List (Nat×Value)}[h:kz t z cp](af:yN σ parts=some vs:=by rfl)(a7:CP cp z vs=some cs:=by rfl)(ev:C.P=Tryz.prog:=by rfl):cz C σ ds I δ (.build t parts.toArray) (.agg cs.toArray):=T_ (ev▸h.h) af a7
theorem cC{m:Nat}{vs:List Value}[h:dR t agg n](aW:At I ad m vs)(af:bp σ x=some (dh ad m):=by rfl)(ax:kU agg n vs=some v:=by rfl)(aD:Nat.blt 0 n=true:=by rfl)(ev:C.P=Tryz.prog:=by rfl):cz C σ ds I δ (.load t x) v:=EM (ev▸h.h) aW af ax aD
theorem U8{m k:Nat}{vs:List Value}[h:dR t agg n](aW:At I ad m vs)(af:bp σ x=some (dh ad (m+k)):=by rfl)(ax:kU agg n (vs.drop k)=some v:=by rfl)(aD:Nat.blt 0 n=true:=by rfl)(ev:C.P=Tryz.prog:=by rfl):cz C σ ds I δ (.load t x) v:=q7 (ev▸h.h) aW af ax aD
theorem CY{ops:Array Oper}{i:Nat}{o:Oper}(h:ops.toList[i]? =some o):ops[i]? =some o:=by simpa using h
theorem Ff{l:List ay}(h:∀x∈l,x∈δ:=by first|exact fun _ h=>h|(refine yT ?_ _;exact v8)|exact fun x af=>List.mem_cons_of_mem _ af|exact fun x af=>List.mem_append_right _ af|exact(fun x af=>nomatch (show x∈([]:List ay)from af))|exact v8|(intro x af;(first|(simp only[List.mem_cons,List.not_mem_nil,or_false]at af;repeat' (first|(subst af;simp[c9];done)|rcases af with af|af))|simp_all))):∀x∈l,x∈δ:=h
theorem U9{cm:aa}{b7:Nat→List ay}{bR:h4}(ab:cm.le I:=by exact aa.ag)(ae:∀i,∀x∈b7 i,x∈δ:=by intro i;first|exact fun _ h=>h|(refine yT ?_ i;exact v8)|exact fun x af=>List.mem_cons_of_mem _ af|exact fun x af=>List.mem_append_right _ af|(intro x af;(first|(simp only[List.mem_cons,List.not_mem_nil,or_false]at af;repeat' (first|(subst af;simp[c9];done)|rcases af with af|af))|simp_all))):xe cm I b7 bR δ:=Lg.kY ab ae
theorem ajw {cm:aa} {b7:Nat→List ay} {ord:kX} {bR:h4} {cb:Array Bool} {i d:Nat} {v:Value} (mH:d∉jo ops i→l4 C ops cm (b7 i) ((d,v)::σ) ds i d v)
    (k:hR C ops Q cm b7 ord ((i,d,v)::bR) (cb.setIfInBounds i true) ((d,v)::σ) ds I δ) (o9:(ops[i]?).bind (·.dst)=some d:=by rfl) (aH:Nat.blt d C.n=true:=by rfl) (uP:cm.le I:=by exact aa.ag) (bT:∀x∈b7 i,x∈δ:=by exact Ff):hR C ops Q cm b7 (.ct i ord) bR cb σ ds I δ:=Ay o9 aH mH uP bT k
theorem dg {cm:aa} {b7:Nat→List ay} {ord:kX} {bR:h4} {cb:Array Bool} {i d:Nat} {v:Value} {op:Op} (bQ:ops.toList[i]? =some {dst:=some d,op:=op,type:=ty,pos:=pos,after:=after,guard:=none}) (h:cz C σ ds cm (b7 i) op v)
    (k:hR C ops Q cm b7 ord ((i,d,v)::bR) (cb.setIfInBounds i true) ((d,v)::σ) ds I δ) (aH:Nat.blt d C.n=true:=by rfl) (uP:cm.le I:=by exact aa.ag) (bT:∀x∈b7 i,x∈δ:=by exact Ff):hR C ops Q cm b7 (.ct i ord) bR cb σ ds I δ:=
  Ay (by rw[CY bQ];rfl) aH (fun sl=>l4.mk (CY bQ) h sl) uP bT k
theorem pr {cm:aa} {b7:Nat→List ay} {ord:kX} {bR:h4} {cb:Array Bool} {i d j t:Nat} {b:Bool} {v:Value} {op:Op} (bQ:ops.toList[i]? =some {dst:=some d,op:=op,type:=ty,pos:=pos,after:=after,guard:=some (j,b)}) (au:(ops[j]?).bind (·.dst)=some t) (ax:Lg.look t σ=some (.bool b)) (h:cz C σ ds cm (b7 i) op v)
    (k:hR C ops Q cm b7 ord ((i,d,v)::bR) (cb.setIfInBounds i true) ((d,v)::σ) ds I δ) (aH:Nat.blt d C.n=true:=by rfl) (uP:cm.le I:=by exact aa.ag) (bT:∀x∈b7 i,x∈δ:=by exact Ff):hR C ops Q cm b7 (.ct i ord) bR cb σ ds I δ:=
  Ay (by rw[CY bQ];rfl) aH (fun sl=>l4.afz (CY bQ) au ax h sl) uP bT k
theorem cx{P Q R:Prop}(ab:Q→P)(ae:R→Q):R→P:=fun r=>ab (ae r)
theorem ajx {cm:aa} {b7:Nat→List ay} {ord:kX} {bR:h4} {cb:Array Bool} {i d:Nat} {v:Value} {op:Op} (h:cz C σ ds cm (b7 i) op v) (bQ:ops.toList[i]? =some {dst:=some d,op:=op,type:=ty,pos:=pos,after:=after,guard:=none}) (aH:Nat.blt d C.n=true) (uP:cm.le I) (bT:∀x∈b7 i,x∈δ)
    (k:hR C ops Q cm b7 ord ((i,d,v)::bR) (cb.setIfInBounds i true) ((d,v)::σ) ds I δ):hR C ops Q cm b7 (.ct i ord) bR cb σ ds I δ:=dg bQ h k aH uP bT
theorem ajy {cm:aa} {b7:Nat→List ay} {ord:kX} {bR:h4} {cb:Array Bool} {i d j t:Nat} {b:Bool} {v:Value} {op:Op} (h:cz C σ ds cm (b7 i) op v) (bQ:ops.toList[i]? =some {dst:=some d,op:=op,type:=ty,pos:=pos,after:=after,guard:=some (j,b)}) (au:(ops[j]?).bind (·.dst)=some t) (ax:Lg.look t σ=some (.bool b)) (aH:Nat.blt d C.n=true) (uP:cm.le I) (bT:∀x∈b7 i,x∈δ)
    (k:hR C ops Q cm b7 ord ((i,d,v)::bR) (cb.setIfInBounds i true) ((d,v)::σ) ds I δ):hR C ops Q cm b7 (.ct i ord) bR cb σ ds I δ:=pr bQ au ax h k aH uP bT
theorem Jd {o:Op} {v:Value} (h:cz C σ ds I δ o v:=by
 first
 | ((with_reducible show cz _ _ _ _ _ (.move _) _);exact CE rfl)
 | ((with_reducible show cz _ _ _ _ _ (.load _ _) _);first|exact ajp|exact ajq)
 | ((with_reducible show cz _ _ _ _ _ (.assign _) _);exact afg rfl)
 | ((with_reducible show cz _ _ _ _ _ (.fieldAddr _ _ _) _);first|exact ajr|exact ajs)
 | ((with_reducible show cz _ _ _ _ _ (.nilCheck _) _);first|exact TK rfl|exact agL rfl)
 | ((with_reducible show cz _ _ _ _ _ (.binOp .add _ _ _ _) _);exact tg rfl rfl rfl (by omega))
 | ((with_reducible show cz _ _ _ _ _ (.binOp _ _ _ _ _) _);first|exact ago rfl rfl rfl|exact Nv rfl rfl rfl|exact kV rfl rfl rfl)
 | ((with_reducible show cz _ _ _ _ _ (.pick _ _ _) _);first|exact afh rfl rfl|exact afi rfl rfl)
 | ((with_reducible show cz _ _ _ _ _ (.extract _ _) _);exact afj rfl rfl)
 | ((with_reducible show cz _ _ _ _ _ (.call _) _);exact ajt)
 | ((with_reducible show cz _ _ _ _ _ (.indexAddr _ _ _) _);exact aju)
 | ((with_reducible show cz _ _ _ _ _ (.unOp _ _ _) _);exact afp rfl)
 | ((with_reducible show cz _ _ _ _ _ (.build _ _) _);exact ajv)
 | ((with_reducible show cz _ _ _ _ _ (.makeFunc _ _ _) _);exact afk rfl rfl)):cz C σ ds I δ o v:=h
theorem U_ {gu vs:List Value} {δ':List ay} [h:dR t agg n] (ev:C.P=Tryz.prog) (af:bp σ x=some (.pointer (some ⟨b,off,none⟩))) (aw:bp σ y=some v)
    (ax:c9 v=vs) (EL:Nat.beq vs.length n=true) (ab:vs.all (·.oneCell')=true) (bK:bc δ (.box b e cs) δ' (.box b e gu)) (ch:cS cs off vs=some gu) (k:aK C ops Q rest σ ds I δ'):
    aK C ops Q ({dst:=none,op:=.store t x y,type:=ty,pos:=pos,after:=after,guard:=none}::rest) σ ds I δ:=MX (ev▸h.h) af aw ax EL ab bK ch k
theorem aI{op:Op}(h:cz C σ ds I δ op v)(k:aK C ops Q rest ((d,v)::σ) ds I δ)(aH:Nat.blt d C.n=true:=by rfl):aK C ops Q ({dst:=some d,op:=op,type:=ty,pos:=pos,after:=after,guard:=none}::rest) σ ds I δ:=CD h aH k
end
theorem ajz {P Q:Prop} (h:Q→P:=by
 first
 | ((with_reducible show _→aK _ _ _ [] _ _ _ _);exact afa)
 | ((with_reducible show _→aK _ _ _ ({dst:=_,op:=.store _ _ _,type:=_,pos:=_,after:=_,guard:=none}::_) _ _ _ _);exact U_ rfl rfl rfl rfl rfl rfl (by repeat (first|exact bc.here|apply bc.there)) rfl)
 | ((with_reducible show _→aK _ _ _ ({dst:=_,op:=_,type:=_,pos:=_,after:=_,guard:=none}::_) _ _ _ _);exact CD Jd rfl)
 | ((with_reducible show _→aK _ _ _ ({dst:=none,op:=_,type:=_,pos:=_,after:=_,guard:=_}::_) _ _ _ _);first|exact ax2 rfl rfl (by simp[undef];first|done|fail)|exact cx (CC rfl rfl) (U_ rfl rfl rfl rfl rfl rfl (by repeat (first|exact bc.here|apply bc.there)) rfl))
 |exact Iv rfl rfl (by simp[undef];first|done|fail) rfl
 |exact cx (CC rfl rfl) (CD Jd rfl)):Q→P:=h
theorem ajA {P Q:Prop} (h:Q→P:=by
 first
 | ((with_reducible show _→bf _ (Exit.then (Lg.Next _ _ _ _ _ _ _ _ _ _ none) _) _ _ _ _ _);exact yL U9)
 | ((with_reducible show _→bf _ (Exit.then (Lg.Next _ _ _ _ _ _ _ _ _ _ _) _) _ _ _ _ _);exact jY rfl U9)
 |with_reducible exact afb
 |with_reducible exact afc
 |with_reducible exact TF
 |with_reducible exact TG
 |with_reducible exact afe
 |with_reducible exact afd):Q→P:=h
theorem ajB {P Q:Prop} (h:Q→P:=by
 first
 |with_reducible exact ae4
 | ((with_reducible show _→bJ _ (.region _ _ _) _ _ _ _ _);exact ae3)
 |with_reducible exact ae6
 |with_reducible exact ae7
 |with_reducible exact ae5
 |with_reducible exact ae8
 | ((with_reducible show _→bJ _ (.cond _ _ _) _ _ _ _ _);first|exact ae9 rfl|exact ae_ rfl)):Q→P:=h
theorem ajC {P Q:Prop} (h:Q→P:=by
 first
 | (show _→hR _ _ _ _ _ (.ct _ _) _ _ _ _ _ _;first|exact ajx Jd rfl rfl aa.ag Ff|exact ajy Jd rfl rfl rfl rfl aa.ag Ff|exact fun k=>ajw (fun sl=>l4.afA (CY rfl) (by intro c aq;cases aq) rfl rfl (by simp[undef];first|done|fail) sl) k)
 | (show _→hR _ _ _ _ _ (.cA _ _) _ _ _ _ _ _;exact afP (CY rfl) (by intro cs b aq;cases aq) (by intro c aq;cases aq))
 |exact afJ):Q→P:=h
theorem gI {P Q:Prop} (h:Q→P:=by
 first
 | ((with_reducible show _→aK _ _ _ _ _ _ _ _);exact ajz)
 | ((with_reducible show _→bf _ _ _ _ _ _ _);exact ajA)
 | ((with_reducible show _→bJ _ _ _ _ _ _ _);exact ajB)
 | ((with_reducible show _→hR _ _ _ _ _ _ _ _ _ _ _ _);exact ajC)):Q→P:=h
theorem Fg{P Q:Prop}(h:Q→P:=by exact cx gI gI):Q→P:=h
theorem Fh{P Q:Prop}(h:Q→P:=by exact cx gI (cx gI gI)):Q→P:=h
theorem CZ{P Q:Prop}(h:Q→P:=by exact cx gI (cx gI (cx gI gI))):Q→P:=h
theorem Fi{P Q:Prop}(h:Q→P:=by exact cx gI (cx gI (cx gI (cx gI gI)))):Q→P:=h
theorem Je{P Q:Prop}(h:Q→P:=by exact cx gI (cx gI (cx gI (cx gI (cx gI gI))))):Q→P:=h
theorem Fj{P Q:Prop}(h:Q→P:=by exact cx gI (cx gI (cx gI (cx gI (cx gI (cx gI gI)))))):Q→P:=h
theorem dm{P Q:Prop}(h:Q→P:=by exact cx gI (cx gI (cx gI (cx gI (cx gI (cx gI (cx gI gI))))))):Q→P:=h
theorem aX{P Q:Prop}(k:Q)(h:Q→P:=by exact gI):P:=h k
theorem go2{P Q:Prop}(k:Q)(h:Q→P:=by exact Fg):P:=h k
theorem aR{P Q:Prop}(k:Q)(h:Q→P:=by exact Fh):P:=h k
theorem a8{P Q:Prop}(k:Q)(h:Q→P:=by exact CZ):P:=h k
theorem a_{P Q:Prop}(k:Q)(h:Q→P:=by exact Fi):P:=h k
theorem aZ{P Q:Prop}(k:Q)(h:Q→P:=by exact Je):P:=h k
theorem aP{P Q:Prop}(k:Q)(h:Q→P:=by exact Fj):P:=h k
theorem bg{P Q:Prop}(k:Q)(h:Q→P:=by exact dm):P:=h k
theorem br{P Q:Prop}(k:Q)(h:Q→P:=by exact cx dm gI):P:=h k
theorem b_{P Q:Prop}(k:Q)(h:Q→P:=by exact cx dm Fg):P:=h k
theorem bA{P Q:Prop}(k:Q)(h:Q→P:=by exact cx dm Fh):P:=h k
theorem bW{P Q:Prop}(k:Q)(h:Q→P:=by exact cx dm CZ):P:=h k
theorem cT{P Q:Prop}(k:Q)(h:Q→P:=by exact cx dm Fi):P:=h k
theorem dn{P Q:Prop}(k:Q)(h:Q→P:=by exact cx dm Je):P:=h k
theorem gk{P Q:Prop}(k:Q)(h:Q→P:=by exact cx dm Fj):P:=h k
theorem fT{P Q:Prop}(k:Q)(h:Q→P:=by exact cx dm dm):P:=h k
theorem fx{P Q:Prop}(k:Q)(h:Q→P:=by exact cx dm (cx dm gI)):P:=h k
theorem iR{P Q:Prop}(k:Q)(h:Q→P:=by exact cx dm (cx dm Fg)):P:=h k
theorem ic{P Q:Prop}(k:Q)(h:Q→P:=by exact cx dm (cx dm Fh)):P:=h k
theorem rk{P Q:Prop}(k:Q)(h:Q→P:=by exact cx dm (cx dm CZ)):P:=h k
theorem xo{P Q:Prop}(k:Q)(h:Q→P:=by exact cx dm (cx dm Fi)):P:=h k
theorem AT{P Q:Prop}(k:Q)(h:Q→P:=by exact cx dm (cx dm Je)):P:=h k
theorem xp{P Q:Prop}(k:Q)(h:Q→P:=by exact cx dm (cx dm Fj)):P:=h k
theorem xq{P Q:Prop}(k:Q)(h:Q→P:=by exact cx dm (cx dm dm)):P:=h k
theorem Fk{P Q:Prop}(k:Q)(h:Q→P:=by exact cx dm (cx dm (cx dm gI))):P:=h k
theorem NO{P Q:Prop}(k:Q)(h:Q→P:=by exact cx dm (cx dm (cx dm Fg))):P:=h k
theorem C0{P Q:Prop}(k:Q)(h:Q→P:=by exact cx dm (cx dm (cx dm Fh))):P:=h k
theorem NP{P Q:Prop}(k:Q)(h:Q→P:=by exact cx dm (cx dm (cx dm CZ))):P:=h k
theorem C1{P Q:Prop}(k:Q)(h:Q→P:=by exact cx dm (cx dm (cx dm Fi))):P:=h k
theorem ajD{P Q:Prop}(k:Q)(h:Q→P:=by exact cx dm (cx dm (cx dm Je))):P:=h k
theorem ajE{P Q:Prop}(k:Q)(h:Q→P:=by exact cx dm (cx dm (cx dm Fj))):P:=h k
theorem ajF{P Q:Prop}(k:Q)(h:Q→P:=by exact cx dm (cx dm (cx dm dm))):P:=h k
theorem ajG{P Q:Prop}(k:Q)(h:Q→P:=by exact cx dm (cx dm (cx dm (cx dm Fg)))):P:=h k
theorem Va{P Q:Prop}(k:Q)(h:Q→P:=by exact cx dm (cx dm (cx dm (cx dm CZ)))):P:=h k
theorem Vb{P Q:Prop}(k:Q)(h:Q→P:=by exact cx dm (cx dm (cx dm (cx dm Fi)))):P:=h k
theorem Vc{P Q:Prop}(k:Q)(h:Q→P:=by exact cx dm (cx dm (cx dm (cx dm Fj)))):P:=h k
theorem ajH{P Q:Prop}(k:Q)(h:Q→P:=by exact cx dm (cx dm (cx dm (cx dm (cx dm Fh))))):P:=h k
theorem ajI{P Q:Prop}(k:Q)(h:Q→P:=by exact cx dm (cx dm (cx dm (cx dm (cx dm CZ))))):P:=h k
theorem ah{p:Prop}(h:p:=by omega):p:=h
section
variable {C:Ctx} {Q:Exit→Act→World→Prop} {σ:Env} {ds:List dN} {I:aa} {δ:List ay} {ops:Array Oper} {rest:List Oper} {d:Nat} {ty:TypeId} {pos:String} {after:Array Edge} {t e:TypeId} {x y:Operand} {n c size:Nat} {cs:List Value} {v:Value}
theorem cZ{P:Prop}(k:P){R:Prop}(h:P→R:=by exact CC rfl rfl):R:=h k
section
variable {f:FuncId} {xs:List Operand} {lv:Array TypeId} {vs:List Value} {fv δr:List ay} {R:Value→aa→List ay→Prop} {X:aa→List ay→Prop} {eS:Value}
theorem eo(fJ:lq σ xs=some vs)(ao:aS C.P f vs I fv R)(az:df δ fv δr)(k:∀v ai δ',I.le ai→R v ai δ'→aK C ops Q rest ((d,v)::σ) ds ai (δ'++δr))(dr:eb C.P f=true:=by kernel_rfl)(aH:Nat.blt d C.n=true:=by rfl):
    aK C ops Q ({dst:=some d,op:=.call {callee:=.value (.func f),args:=xs.toArray,argTypes:=lv},type:=ty,pos:=pos,after:=after,guard:=none}::rest) σ ds I δ:=r_ dr fJ aH ao az k
theorem a6(fJ:lq σ xs=some vs)(ao:aS C.P f vs I fv R)(k:∀v ai δ',I.le ai→R v ai δ'→aK C ops Q rest ((d,v)::σ) ds ai (δ'++δr))(az:df δ fv δr:=by exact js)(dr:eb C.P f=true:=by kernel_rfl)(aH:Nat.blt d C.n=true:=by rfl):
    aK C ops Q ({dst:=some d,op:=.call {callee:=.value (.func f),args:=xs.toArray,argTypes:=lv},type:=ty,pos:=pos,after:=after,guard:=none}::rest) σ ds I δ:=r_ dr fJ aH ao az k
theorem bN(fJ:lq σ xs=some vs)(ao:aS C.P f vs I [] R)(k:∀v ai δ',I.le ai→R v ai δ'→aK C ops Q rest ((d,v)::σ) ds ai (δ'++δ))(dr:eb C.P f=true:=by kernel_rfl)(aH:Nat.blt d C.n=true:=by rfl):
    aK C ops Q ({dst:=some d,op:=.call {callee:=.value (.func f),args:=xs.toArray,argTypes:=lv},type:=ty,pos:=pos,after:=after,guard:=none}::rest) σ ds I δ:=r_ dr fJ aH ao df.none k
theorem hr(fJ:lq σ xs=some vs)(ao:aS C.P f vs I δ R)(k:∀v ai δ',I.le ai→R v ai δ'→aK C ops Q rest ((d,v)::σ) ds ai (δ'++ []))(dr:eb C.P f=true:=by kernel_rfl)(aH:Nat.blt d C.n=true:=by rfl):
    aK C ops Q ({dst:=some d,op:=.call {callee:=.value (.func f),args:=xs.toArray,argTypes:=lv},type:=ty,pos:=pos,after:=after,guard:=none}::rest) σ ds I δ:=r_ dr fJ aH ao df.all k
theorem rl(fJ:lq σ xs=some vs)(ao:j1 C.P eS f vs I fv R X)(az:df δ fv δr)(E8:∀ai δ',I.le ai→X ai δ'→bf C Q (.panic (po eS)) σ ds ai (δ'++δr))(k:∀v ai δ',I.le ai→R v ai δ'→aK C ops Q rest ((d,v)::σ) ds ai (δ'++δr))(dr:eb C.P f=true:=by kernel_rfl)(aH:Nat.blt d C.n=true:=by rfl):
    aK C ops Q ({dst:=some d,op:=.call {callee:=.value (.func f),args:=xs.toArray,argTypes:=lv},type:=ty,pos:=pos,after:=after,guard:=none}::rest) σ ds I δ:=agF dr fJ aH ao az E8 k
end
theorem bh{z:Value}[h:gz e z](k:∀b,aK C ops Q rest ((d,.pointer (some ⟨b,0,none⟩))::σ) ds I (.box b e cs::δ))(ax:c9 z=cs:=by rfl)(aH:Nat.blt d C.n=true:=by rfl)(ev:C.P=Tryz.prog:=by rfl):
    aK C ops Q ({dst:=some d,op:=.alloc e,type:=ty,pos:=pos,after:=after,guard:=none}::rest) σ ds I δ:=afs (ev▸h.h) ax aH k
theorem bw(k:∀b,aK C ops Q rest ((d,.pointer (some ⟨b,0,none⟩))::σ) ds I (.box b e cs::δ))(af:bp σ x=some v:=by rfl)(ax:c9 v=cs:=by rfl)(aH:Nat.blt d C.n=true:=by rfl):
    aK C ops Q ({dst:=some d,op:=.box e x,type:=ty,pos:=pos,after:=after,guard:=none}::rest) σ ds I δ:=afr af ax aH k
theorem c_ {z:Value} {bytes len:Nat} {parts:List (Nat×Operand)} {vs:List Value} [h:jF t (.slice e)] [g:lB e z size bytes] (k:∀b,aK C ops Q rest ((d,.slice (some ⟨b,0,none⟩) len len)::σ) ds I (.row (.slice (some ⟨b,0,none⟩) len len) e size len (cat vs)::δ))
    (az:parts=yM 0 (parts.map Prod.snd):=by rfl) (af:lq σ (parts.map Prod.snd)=some vs:=by rfl) (ax:sized size vs=true:=by rfl) (hlen:vs.length=len:=by rfl) (aH:Nat.blt d C.n=true:=by rfl)
    (a2:z.cells.size=size:=by rfl) (hle:Nat.ble (len*size) 1000=true:=by rfl) (tl:Nat.ble len 1000=true:=by rfl) (ev:C.P=Tryz.prog:=by rfl):
    aK C ops Q ({dst:=some d,op:=.buildSlice t len parts.toArray,type:=ty,pos:=pos,after:=after,guard:=none}::rest) σ ds I δ:=EX (ev▸h.h) (ev▸g.h) az af ax hlen aH k a2 hle tl
section
variable {z:Value} {bytes m:Nat} {s:Operand} {A:Option Addr} {xs ys:List Value} {G:Value→List ay}
theorem mL [h:jF t (.slice e)] [g:lB e z size bytes] (ao:bp σ s=some v) (af:bp σ x=some (.slice A m c)) (AB:Lg.Src I δ A ys) (aA:ys.length=m*size) (ab:∀u∈ys,u.oneCell'=true) (k:∀c7 cJ,aK C ops Q rest ((d,.slice c7 (n+m) cJ)::σ) ds I (G (.slice c7 (n+m) cJ)))
    (ph:∀jb,bc δ (.row v e size n xs) (G jb) (.row jb e size (n+m) (xs++ys)):=by intro;repeat (first|exact bc.here|apply bc.there)) (aH:Nat.blt d C.n=true:=by rfl)
    (ha:n+m≤9223372036854775807:=by omega) (m9:(n+m)*bytes≤140737488355328:=by omega) (a2:z.cells.size=size:=by rfl) (bD:Nat.blt 0 size=true:=by rfl) (ev:C.P=Tryz.prog:=by rfl):
    aK C ops Q ({dst:=some d,op:=.call {callee:=.builtin .append,args:= #[s,x],argTypes:= #[t,t]},type:=ty,pos:=pos,after:=after,guard:=none}::rest) σ ds I δ:=T7 (ev▸h.h) (ev▸g.h) ao af aH ph AB aA ab ha m9 k a2 bD
theorem gl [h:jF t (.slice e)] [g:lB e z size bytes] (k:∀c7 cJ,aK C ops Q rest ((d,.slice c7 (n+m) cJ)::σ) ds I (G (.slice c7 (n+m) cJ)))
    (ao:bp σ s=some v:=by rfl) (af:bp σ x=some (.slice A m c):=by rfl) (ph:∀jb,bc δ (.row v e size n xs) (G jb) (.row jb e size (n+m) (xs++ys)):=by intro;repeat (first|exact bc.here|apply bc.there)) (AB:Lg.Src I δ A ys:=by exact Src.ofRow (by repeat (first|exact Has.here|apply Has.there)) rfl) (aA:ys.length=m*size:=by first|rfl|omega|simp) (ab:∀u∈ys,u.oneCell'=true:=by simp[cat,c9,Value.oneCell']) (aH:Nat.blt d C.n=true:=by rfl)
    (ha:n+m≤9223372036854775807:=by omega) (m9:(n+m)*bytes≤140737488355328:=by omega) (a2:z.cells.size=size:=by rfl) (bD:Nat.blt 0 size=true:=by rfl) (ev:C.P=Tryz.prog:=by rfl):
    aK C ops Q ({dst:=some d,op:=.call {callee:=.builtin .append,args:= #[s,x],argTypes:= #[t,t]},type:=ty,pos:=pos,after:=after,guard:=none}::rest) σ ds I δ:=T7 (ev▸h.h) (ev▸g.h) ao af aH ph AB aA ab ha m9 k a2 bD
end
@[reducible] def yX : List Nat → kX
  | []=>.done
  |n::l=>bif Nat.beq (n%2) 0 then .ct (n/2) (yX l)else .cA (n/2) (yX l)
theorem eU{id:Nat}{l:List Oper}(p:List Nat)(b7:Nat→List ay)(hk:∀i,(b7 i).Sublist δ)(k:hR C l.toArray Q I b7 (yX p) [] (Array.replicate l.toArray.size false) σ ds I δ)(ev:C.P=Tryz.prog:=by rfl)(al:yG l.toArray=true:=by kernel_rfl)(aq:cw l.toArray (Array.replicate l.toArray.size false) [] (yX p)=true:=by kernel_rfl):
    bJ C (.region id l.toArray true) Q σ ds I δ:=tk (yX p) b7 (ev▸mixed) al aq hk k
theorem g5{id:Nat}{l:List Oper}(p:List Nat)(k:hR C l.toArray Q I (fun _=>δ) (yX p) [] (Array.replicate l.toArray.size false) σ ds I δ)(ev:C.P=Tryz.prog:=by rfl)(al:yG l.toArray=true:=by kernel_rfl)(aq:cw l.toArray (Array.replicate l.toArray.size false) [] (yX p)=true:=by kernel_rfl):
    bJ C (.region id l.toArray true) Q σ ds I δ:=tk (yX p) (fun _=>δ) (ev▸mixed) al aq (fun _=>List.Sublist.refl _) k
section
variable {cm:aa} {b7:Nat→List ay} {ord CO:kX} {bR:h4} {cb:Array Bool} {dst:Option Nat}
theorem dB(k:hR C ops Q cm b7 ord bR cb ((d,v)::σ) ds I δ)(aH:dst=some d:=by rfl)(h:bR= []:=by kernel_rfl):bf C (Exit.then (Lg.Next C ops Q cm b7 ord bR cb σ ds dst) (q9 Q)) .normal ((d,v)::σ) ds I δ:=jY aH (T1 h) k
theorem fU(k:hR C ops Q cm b7 ord bR cb σ ds I δ)(h:bR= []:=by kernel_rfl):bf C (Exit.then (Lg.Next C ops Q cm b7 ord bR cb σ ds dst) (q9 Q)) .normal σ ds I δ:=yL (T1 h) k
end
theorem C2{P Q:Prop}(k:Q)(h:Q→P:=by exact jY rfl (by first|exact Uy aa.ag v8 v8|exact EV (by kernel_rfl) aa.ag v8)):P:=h k
theorem xr{P Q:Prop}(k:Q)(h:Q→P:=by exact yL (by first|exact Uy aa.ag v8 v8|exact EV (by kernel_rfl) aa.ag v8)):P:=h k
theorem ps{P Q:Prop}(k:Q)(h:Q→P:=by exact jY rfl (by first|exact Lg.kY aa.ag (fun i=>yT v8 i)|exact I3 (by kernel_rfl) aa.ag)):P:=h k
theorem na{P Q R:Prop}(k:Q)(l:R)(h:Q→R→P:=by exact afQ rfl (by intro cs b aq;cases aq) (by intro c aq;cases aq) rfl (by intro cs b aq;cases aq) (by intro c aq;cases aq)):P:=h k l
theorem a1 {f:FuncId} {fn:Func} {v_:Code} {n:Nat} {args:List Value} {R:Value→aa→List ay→Prop} (a7:Tryz.prog.funcs[f]? =some fn) (aD:fn.ntmps=n) (h:∀aG,bJ ⟨Tryz.prog,none,n,aG,I,δ⟩ v_ (bodyPostM Fence.wide 0 Tryz.prog fn (h_ aG I δ R)) (Aw 0 args) [] I δ)
    (al:fn.body=some v_:=by rfl) (hle:Nat.ble args.length n=true:=by rfl):aS Tryz.prog f args I δ R:=aS.intro a7 al aD hle h
section
variable {P:Program} {NQ:Value} {fn:Func} {r:Option Nat} {aG:World} {I0:aa} {cl δ' dx:List ay} {R:Value→aa→List ay→Prop} {X:aa→List ay→Prop} {rs:List ResultVar} {vs:List Value}
theorem Vd(h:m4 P σ δ rs vs:=by repeat (first|exact m4.nil|(apply m4.cons;first|exact EN.tmp rfl|(apply EN.cell;rfl;exact dR.h;exact cW;rfl)))):m4 P σ δ rs vs:=h
theorem bn(bL:R (dF vs) I [])(a7:fn.results=rs.toArray:=by rfl)(ax:m4 P σ δ rs vs:=by exact Vd):bf ⟨P,r,n,aG,I0,cl⟩ (bodyPostM Fence.wide 0 P fn (h_ aG I0 cl R)) .ret σ [] I δ:=dv a7 (List.Perm.refl _) ax (List.nil_sublist _) bL
theorem dY(bL:R (dF vs) I δ)(a7:fn.results=rs.toArray:=by rfl)(ax:m4 P σ δ rs vs:=by exact Vd):bf ⟨P,r,n,aG,I0,cl⟩ (bodyPostM Fence.wide 0 P fn (h_ aG I0 cl R)) .ret σ [] I δ:=dv a7 (List.Perm.refl _) ax (List.Sublist.refl _) bL
theorem jG(a7:fn.results=([]:List ResultVar).toArray)(bL:R (dF []) I δ')(hw:View I δ I δ':=by exact hS):bf ⟨P,r,n,aG,I0,cl⟩ (bodyPostM Fence.wide 0 P fn (h_ aG I0 cl R)) .ret σ [] I δ:=hd a7 .nil bL hw
theorem b0{a0:Nat}{nz:Value}(a7:fn.results=([.tmp a0]:List ResultVar).toArray)(aB:bp σ (.tmp a0)=some nz)(bL:R (dF [nz]) I δ')(hw:View I δ I δ':=by exact hS):bf ⟨P,r,n,aG,I0,cl⟩ (bodyPostM Fence.wide 0 P fn (h_ aG I0 cl R)) .ret σ [] I δ:=hd a7 (.cons (.tmp aB) .nil) bL hw
theorem rm{a0 dW:Nat}{nz k1:Value}(a7:fn.results=([.tmp a0,.tmp dW]:List ResultVar).toArray)(aB:bp σ (.tmp a0)=some nz)(ab:bp σ (.tmp dW)=some k1)(bL:R (dF [nz,k1]) I δ')(hw:View I δ I δ':=by exact hS):bf ⟨P,r,n,aG,I0,cl⟩ (bodyPostM Fence.wide 0 P fn (h_ aG I0 cl R)) .ret σ [] I δ:=hd a7 (.cons (.tmp aB) (.cons (.tmp ab) .nil)) bL hw
theorem k2{a0 dW fm:Nat}{nz k1 nF:Value}(a7:fn.results=([.tmp a0,.tmp dW,.tmp fm]:List ResultVar).toArray)(aB:bp σ (.tmp a0)=some nz)(ab:bp σ (.tmp dW)=some k1)(ae:bp σ (.tmp fm)=some nF)(bL:R (dF [nz,k1,nF]) I δ')(hw:View I δ I δ':=by exact hS):bf ⟨P,r,n,aG,I0,cl⟩ (bodyPostM Fence.wide 0 P fn (h_ aG I0 cl R)) .ret σ [] I δ:=hd a7 (.cons (.tmp aB) (.cons (.tmp ab) (.cons (.tmp ae) .nil))) bL hw
theorem Jf(a7:fn.results=([]:List ResultVar).toArray)(bL:R (dF []) I δ')(hw:View I δ I δ':=by exact hS):bf ⟨P,r,n,aG,I0,cl⟩ (bodyPostM Fence.wide 0 P fn (ri NQ aG I0 cl R X)) .ret σ [] I δ:=Ny a7 .nil bL hw
theorem ajJ{a0:Nat}{nz:Value}(a7:fn.results=([.tmp a0]:List ResultVar).toArray)(aB:bp σ (.tmp a0)=some nz)(bL:R (dF [nz]) I δ')(hw:View I δ I δ':=by exact hS):bf ⟨P,r,n,aG,I0,cl⟩ (bodyPostM Fence.wide 0 P fn (ri NQ aG I0 cl R X)) .ret σ [] I δ:=Ny a7 (.cons (.tmp aB) .nil) bL hw
theorem AU{a0 dW:Nat}{nz k1:Value}(a7:fn.results=([.tmp a0,.tmp dW]:List ResultVar).toArray)(aB:bp σ (.tmp a0)=some nz)(ab:bp σ (.tmp dW)=some k1)(bL:R (dF [nz,k1]) I δ')(hw:View I δ I δ':=by exact hS):bf ⟨P,r,n,aG,I0,cl⟩ (bodyPostM Fence.wide 0 P fn (ri NQ aG I0 cl R X)) .ret σ [] I δ:=Ny a7 (.cons (.tmp aB) (.cons (.tmp ab) .nil)) bL hw
end
end
end Go.Proofs.YtciibkomnoicdaaGreat
