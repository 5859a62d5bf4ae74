/- Own texts: a small program logic, plain facts, walks through the program's functions. No condition. -/
import Derived.Laws.MakeOwn
import Derived.Maps.RangeRun
import Derived.MapKept
import Derived.Laws.Externs
import Derived.Test.YtciibkomnoicdaaGreatZ2
set_option maxRecDepth 10000
set_option maxHeartbeats 4000000
set_option linter.unusedVariables false
set_option linter.unusedSimpArgs false
set_option linter.unnecessarySimpa false
set_option linter.unusedSectionVars false
namespace Go.Proofs.YtciibkomnoicdaaGreat.Lg
open Go Go.RowKit
section
def dG:bU→Int→Option Value
  | [],_=>none
  | (cB,v)::r,k=>if cB=k then some v else dG r k
def gi:bU→Int→Value→bU
  | [],k,v=> [(k,v)]
  | (cB,u)::r,k,v=>if cB=k then(k,v)::r else(cB,u)::gi r k v
theorem Nl:∀(xs:bU) (k:Int) (u v:Value),gi (gi xs k u) k v=gi xs k v
  | [],k,u,v=>by simp[gi]
  | (cB,z)::r,k,u,v=>by by_cases h:cB=k;subst h;simp[gi];simp[gi,h,Nl r k u v]
theorem vZ:∀(xs:bU) (k j:Int) (v:Value),dG (gi xs k v) j=if k=j then some v else dG xs j
  | [],k,j,v=>by simp[gi,dG]
  | (cB,z)::r,k,j,v=>by by_cases h:cB=k;subst h;simp only[gi,if_true,dG];split<;>rfl;simp only[gi,if_neg h,dG,vZ r k j v];by_cases ae:cB=j;subst ae;simp[Ne.symm h];simp[ae]
theorem Nm:∀(xs:bU) (k:Int) (v:Value),(gi xs k v).map (·.1)=if dG xs k=none then xs.map (·.1)++ [k]else xs.map (·.1)
  | [],k,v=>by simp[gi,dG]
  | (cB,z)::r,k,v=>by by_cases h:cB=k;subst h;simp[gi,dG];simp only[gi,if_neg h,dG,List.map_cons,Nm r k v];split<;>simp
theorem AG:∀{xs:bU} {k:Int},dG xs k=none↔k∉xs.map (·.1)
  | [],k=>by simp[dG]
  | (cB,z)::r,k=>by by_cases h:cB=k;subst h;simp[dG];have:=AG (xs:=r) (k:=k);simp only[dG,if_neg h,this,List.map_cons,List.mem_cons,not_or];exact⟨fun ae=>⟨fun e=>h e.symm,ae⟩,fun ae=>ae.2⟩
theorem AH:∀{xs:bU} {k:Int} {v:Value},(xs.map (·.1)).Nodup→((k,v)∈xs↔dG xs k=some v)
  | [],k,v,_=>by simp[dG]
  | (cB,z)::r,k,v,aD=>by simp only[List.map_cons,List.nodup_cons]at aD;by_cases h:cB=k;subst h;simp only[dG,if_true,List.mem_cons,Prod.mk.injEq,true_and,Option.some.injEq];constructor;rintro(h|h);exact h.symm;exact absurd (List.mem_map_of_mem (f:=(·.1)) h) aD.1;intro h;exact .inl h.symm;have:=AH (xs:=r) (k:=k) (v:=v) aD.2;simp only[dG,if_neg h,←this,List.mem_cons,Prod.mk.injEq];constructor;rintro(⟨ae,_⟩|ae);exact absurd ae.symm h;exact ae;intro ae;exact .inr ae
theorem IQ{xs:bU}{k:Int}{v:Value}(h:(xs.map (·.1)).Nodup):((gi xs k v).map (·.1)).Nodup:=by
 rw[Nm];split;rename_i aD;rw[AG]at aD;rw[List.nodup_append];exact⟨h,by simp,fun a bk b al=>by simp at al;subst al;exact fun e=>aD (e▸bk)⟩;exact h
theorem CT:∀(l:List MapEntry) (xs:bU) (k:Int) (i:Nat),l.map (fun e=>(e.key,e.val))=xs.map (fun p=>(Value.int .i64 p.1,p.2))→
    (dG xs k=none∧Instr.findNow (.int .i64) (.int .i64 k) l i=some none∧∀v,gi xs k v=xs++ [(k,v)])∨
    ∃j v e,dG xs k=some v∧Instr.findNow (.int .i64) (.int .i64 k) l i=some (some (i+j,v))∧l[j]? =some e∧e.key=.int .i64 k∧e.val=v∧∀u,gi xs k u=xs.set j (k,u)
  | [],xs,k,i,h=>by
   have:xs= []:=by cases xs<;>simp_all
   subst this;exact .inl ⟨rfl,rfl,fun _=>rfl⟩
  |e::l,[],k,i,h=>by simp at h
  |e::l,(cB,z)::r,k,i,h=>by
   simp only[List.map_cons,List.cons.injEq,Prod.mk.injEq]at h;obtain⟨⟨ab,ae⟩,aF⟩:=h;by_cases hk:cB=k;subst hk;refine .inr ⟨0,z,e,by simp[dG],?_,rfl,ab,ae,fun u=>by simp[gi]⟩;simp[Instr.findNow,Instr.sameNow,ab,ae];have ao:Instr.sameNow (.int .i64) (.int .i64 k) e.key=some false:=by rw[ab];simp[Instr.sameNow];exact fun e=>hk e.symm
   rcases CT l r k (i+1) aF with⟨du,dy,gv⟩|⟨j,v,jc,du,dy,gv,oa,p_,pa⟩
   exact .inl ⟨by simp[dG,hk,du],by simp[Instr.findNow,ao,dy],fun v=>by simp[gi,hk,gv]⟩;refine .inr ⟨j+1,v,jc,by simp[dG,hk,du],?_,by simpa using gv,oa,p_,fun u=>by simp[gi,hk,pa]⟩;simp only[Instr.findNow,ao,dy];congr 3;omega
variable {C:Ctx} {Q:Exit→Act→World→Prop} {σ:Env} {ds:List dN} {I:aa} {δ:List ay} {ops:Array Oper} {rest:List Oper}
variable {d:Nat} {ty:TypeId} {pos:String} {after:Array Edge}
theorem IS{P:Program}{e:TypeId}{z:Value}(a2:(P.info? e).map (·.zero)=some (some z))(w:World):(zeroValue e).run P w=.ok z w:=by
 cases aC:P.info? e with
 |none=>simp[aC]at a2
 |some i=>simp[aC]at a2;simp[zeroValue,typeInfo,program,Sem.run,aC,a2]
theorem tm{t:TypeId}(aH:Nat.blt d C.n=true)(k:∀b,aK C ops Q rest ((d,.map (some b))::σ) ds I (.map b []::δ)):
    aK C ops Q ({dst:=some d,op:=.makeMap t none,type:=ty,pos:=pos,after:=after,guard:=none}::rest) σ ds I δ:=
  q5 rfl rfl aH (by intro c aq;cases aq) (fun a w he ao=>by obtain⟨s',t'⟩:=ao.alloc (.map w.heap.size []) (.map #[] 0) rfl ⟨#[],0,heap_alloc_new w _,by simp,by simp,by simp,by simp⟩;refine⟨_,_,_,_,?_,s',t',k w.heap.size⟩;simp[execOp,Instr.makeMap,newObj,Sem.run])
theorem Ue{P:Program}{t gy e:TypeId}(ar:P.underlying t=some (.map gy e))(hk:P.underlying gy=some (.int .i64)){z:Value}(a2:(P.info? e).map (·.zero)=some (some z)){w:World}{b:Nat}{xs:bU}(h:(ay.map b xs).holds w)(k:Int)(ok:Bool):
 (Instr.lookup t (.map (some b)) (.int .i64 k) ok).run P w=.ok (if ok then .tuple #[(dG xs k).getD z,.bool (dG xs k).isSome]else(dG xs k).getD z) w:=by
 obtain⟨es,clock,al,hm⟩:=h;have hu:(underlying t).run P w=.ok (.map gy e) w:=by simp[underlying,program,Sem.run,ar]
 have aq:(Instr.checkKey es.isEmpty 10000 gy (.int .i64 k)).run P w=.ok () w:=MapKept.run_checkKey (w:=w) hk (k:=.int .i64 k) rfl es.isEmpty 9999;rcases CT es.toList xs k 0 hm.n4 with⟨du,dy,_⟩|⟨j,v,jc,du,dy,_⟩
 have a7:=MapKept.run_findKey (w:=w) hk dy;simp[Instr.lookup,hu,MapKept.run_getObj_map al,Result.andThen];rw[aq];simp[a7,IS a2,du];have a7:=MapKept.run_findKey (w:=w) hk dy;simp[Instr.lookup,hu,MapKept.run_getObj_map al,Result.andThen];rw[aq];simp[a7,IS a2,du]
theorem E3 {t gy e:TypeId} {x y:Operand} {b:Nat} {xs:bU} {k:Int} {z v:Value} (ar:C.P.underlying t=some (.map gy e)) (hk:C.P.underlying gy=some (.int .i64)) (a2:(C.P.info? e).map (·.zero)=some (some z))
    (af:bp σ x=some (.map (some b))) (aw:bp σ y=some (.int .i64 k)) (bK:Has δ (.map b xs)) (ax:(dG xs k).getD z=v):cz C σ ds I δ (.lookup t x y false) v:=
  fun _ _ _ _ _ a w he ao=>by subst ax;simp[execOp,he.cr af,he.cr aw,Ue ar hk a2 (ao.dQ _ bK.mem) k false]
theorem jr {t gy e:TypeId} {x y:Operand} {b:Nat} {xs:bU} {k:Int} {z v:Value} {g:Bool} (ar:C.P.underlying t=some (.map gy e)) (hk:C.P.underlying gy=some (.int .i64)) (a2:(C.P.info? e).map (·.zero)=some (some z))
    (af:bp σ x=some (.map (some b))) (aw:bp σ y=some (.int .i64 k)) (bK:Has δ (.map b xs)) (ax:(dG xs k).getD z=v) (aM:(dG xs k).isSome=g):cz C σ ds I δ (.lookup t x y true) (.tuple #[v,.bool g]):=
  fun _ _ _ _ _ a w he ao=>by subst ax;subst aM;simp[execOp,he.cr af,he.cr aw,Ue ar hk a2 (ao.dQ _ bK.mem) k true]
theorem af6{t gy e:TypeId}{x:Operand}{b:Nat}{xs:bU}(ar:C.P.underlying t=some (.map gy e))(af:bp σ x=some (.map (some b)))(bK:Has δ (.map b xs)):
    cz C σ ds I δ (.call {callee:=.builtin .len,args:= #[x],argTypes:= #[t]}) (.int .i64 xs.length):=
  fun _ _ _ _ _ a w he ao=>by
   obtain⟨es,clock,al,hm⟩:=ao.dQ _ bK.mem;have hu:(underlying t).run C.P w=.ok (.map gy e) w:=by simp[underlying,program,Sem.run,ar]
   have aA:es.size=xs.length:=by have:=congrArg List.length hm.n4;simpa using this
   simp[execOp,resolve,invoke,builtin,Builtin.len_,he.cr af,hu,goInt,MapKept.run_getObj_map al,aA]
theorem Uf{P:Program}(k:Int)(w:World):(Instr.keyThatStays (.int .i64 k) (.int .i64 k)).run P w=.ok (.int .i64 k) w:=MapKept.run_keyThatStays (d:=.int .i64) rfl
theorem p7.set{es:Array MapEntry}{clock:Nat}{xs:bU}(h:p7 es clock xs){j:Nat}{e:MapEntry}{k:Int}{v:Value}(he:es.toList[j]? =some e)(hk:e.key=.int .i64 k)(f:MapEntry→MapEntry)(a7:(f e).key=.int .i64 k∧(f e).val=v∧(f e).born=e.born)(az:gi xs k v=xs.set j (k,v)):
 p7 (es.modify j f) clock (gi xs k v):=by
 have av:j<es.size:=by simpa using(List.getElem?_eq_some_iff.1 he).1
 have hm:(es.modify j f).toList=es.toList.set j (f e):=by
  apply List.ext_getElem?;intro i;rw[Array.getElem?_toList,Array.getElem?_modify,List.getElem?_set];have ae:es[j]? =some e:=by simpa using he
  by_cases ob:j=i;subst ob;obtain⟨_,o_⟩:=Array.getElem?_eq_some_iff.1 ae;simp[av,o_];simp[ob]
 refine⟨?_,IQ h.keys,?_,?_⟩;rw[hm,az,List.map_set,List.map_set,h.n4,a7.1,a7.2.1];rw[hm,List.map_set,a7.2.2]
 have:(es.toList.map (·.born)).set j e.born=es.toList.map (·.born):=by
  apply List.ext_getElem?;intro i;rw[List.getElem?_set];by_cases ob:j=i;subst ob;have:(es.toList.map (·.born))[j]? =some e.born:=by rw[List.getElem?_map,he];rfl
  rw[this];simp[av];simp[ob]
 rw[this];exact h.born;intro x af;rw[hm]at af;rcases List.mem_or_eq_of_mem_set af with af|rfl
 exact h.xa x af;rw[a7.2.2];exact h.xa e (List.mem_of_getElem? he)
theorem p7.push{es:Array MapEntry}{clock:Nat}{xs:bU}(h:p7 es clock xs){k:Int}{v:Value}(aD:dG xs k=none)(az:gi xs k v=xs++ [(k,v)]):
 p7 (es.push {key:=.int .i64 k,val:=v,born:=clock}) (clock+1) (gi xs k v):=by
 refine⟨by rw[az];simp[h.n4],IQ h.keys,?_,?_⟩;rw[Array.toList_push,List.map_append,List.nodup_append];refine⟨h.born,by simp,fun a bk b al=> ?_⟩;simp at al;obtain⟨x,af,rfl⟩:=List.mem_map.1 bk;have:=h.xa x af;intro e;omega;intro x af;rw[Array.toList_push,List.mem_append]at af;rcases af with af|af
 have:=h.xa x af;omega;simp at af;subst af;simp
theorem sg {t gy e:TypeId} {m x y:Operand} {b:Nat} {xs ys:bU} {k:Int} {v:Value} {δ':List ay} (ar:C.P.underlying t=some (.map gy e)) (hk:C.P.underlying gy=some (.int .i64))
    (hm:bp σ m=some (.map (some b))) (af:bp σ x=some (.int .i64 k)) (aw:bp σ y=some v) (dX:gi xs k v=ys) (bK:bc δ (.map b xs) δ' (.map b ys)) (di:aK C ops Q rest σ ds I δ'):
    aK C ops Q ({dst:=none,op:=.mapUpdate t m x y,type:=ty,pos:=pos,after:=after,guard:=none}::rest) σ ds I δ:=
  Iu rfl rfl (by intro c aq;cases aq) (fun a w he ao=>by
   subst dX;obtain⟨l,r,fi,fw⟩:=bK.split;obtain⟨es,clock,al,fZ⟩:=ao.dQ (.map b xs) (by rw[fi];simp);have hu:(underlying t).run C.P w=.ok (.map gy e) w:=by simp[underlying,program,Sem.run,ar]
   have aq:(Instr.checkKey false 10000 gy (.int .i64 k)).run C.P w=.ok () w:=MapKept.run_checkKey (w:=w) hk (k:=.int .i64 k) rfl false 9999;rcases CT es.toList xs k 0 fZ.n4 with⟨du,dy,gv⟩|⟨j,v0,jc,du,dy,gv,oa,p_,pa⟩
   have a7:=MapKept.run_findKey (w:=w) hk dy;have iO:=MapKept.heap_set (o':=.map (es.push {key:=.int .i64 k,val:=v,born:=clock}) (clock+1)) al;obtain⟨s',t'⟩:=ao.swap (w':= {w with heap:=w.heap.setIfInBounds b (.map (es.push {key:=.int .i64 k,val:=v,born:=clock}) (clock+1))}) bK rfl rfl rfl (by simp) (fun c _ aq=>iO.2 c (fun e=>aq (by rw[e];rfl))) ⟨_,_,iO.1,fZ.push du (gv v)⟩ (fun c aq=>.inl aq);refine⟨_,I,δ',?_,s',t',di⟩;simp[execOp,he.cr hm,he.cr af,he.cr aw,Instr.mapUpdate,hu,MapKept.run_getObj_map al,aq,a7,MapKept.run_setObj_map _ al,Result.andThen];have a7:=MapKept.run_findKey (w:=w) hk dy;simp only[Nat.zero_add]at a7;have ae:es[j]? =some jc:=by simpa using gv
   have iO:=MapKept.heap_set (o':=.map (es.modify j fun e=> {e with key:=.int .i64 k,val:=v}) clock) al;obtain⟨s',t'⟩:=ao.swap (w':= {w with heap:=w.heap.setIfInBounds b (.map (es.modify j fun e=> {e with key:=.int .i64 k,val:=v}) clock)}) bK rfl rfl rfl (by simp) (fun c _ aq=>iO.2 c (fun e=>aq (by rw[e];rfl))) ⟨_,_,iO.1,fZ.set gv oa _ ⟨rfl,rfl,rfl⟩ (pa v)⟩ (fun c aq=>.inl aq);refine⟨_,I,δ',?_,s',t',di⟩;simp[execOp,he.cr hm,he.cr af,he.cr aw,Instr.mapUpdate,hu,MapKept.run_getObj_map al,aq,a7,ae,oa,Uf,MapKept.run_setObj_map _ al,Result.andThen])
def Ug(es:Array MapEntry)(k:Int)(s:Nat):Prop:=∃(j:Nat) (e:MapEntry),es.toList[j]? =some e∧e.key=.int .i64 k∧e.born=s
theorem Uh {t gy e:TypeId} {m x:Operand} {b:Nat} {xs:bU} {k:Int} {z:Value} {δ':Array MapEntry→Nat→List ay} (ar:C.P.underlying t=some (.map gy e)) (hk:C.P.underlying gy=some (.int .i64)) (a2:(C.P.info? e).map (·.zero)=some (some z))
    (hm:bp σ m=some (.map (some b))) (af:bp σ x=some (.int .i64 k)) (aH:Nat.blt d C.n=true) (bK:∀es clock,bc δ (.map b xs) (δ' es clock) (.obj b (.map es clock)))
    (di:∀es clock s,p7 es clock (gi xs k ((dG xs k).getD z))→Ug es k s→aK C ops Q rest ((d,.tuple #[(dG xs k).getD z,.int .i64 s])::σ) ds I (δ' es clock)):
    aK C ops Q ({dst:=some d,op:=.mapEntry t m x,type:=ty,pos:=pos,after:=after,guard:=none}::rest) σ ds I δ:=
  q5 rfl rfl aH (by intro c aq;cases aq) (fun a w he ao=>by
   obtain⟨l,r,fi,fw⟩:=(bK #[] 0).split;obtain⟨es,clock,al,fZ⟩:=ao.dQ (.map b xs) (by rw[fi];simp);have hu:(underlying t).run C.P w=.ok (.map gy e) w:=by simp[underlying,program,Sem.run,ar]
   have aq:(Instr.checkKey false 10000 gy (.int .i64 k)).run C.P w=.ok () w:=MapKept.run_checkKey (w:=w) hk (k:=.int .i64 k) rfl false 9999;rcases CT es.toList xs k 0 fZ.n4 with⟨du,dy,gv⟩|⟨j,v0,jc,du,dy,gv,oa,p_,pa⟩
   have a7:=MapKept.run_findKey (w:=w) hk dy;have iO:=MapKept.heap_set (o':=.map (es.push {key:=.int .i64 k,val:=z,born:=clock}) (clock+1)) al;have E4:=fZ.push (v:=z) du (gv z);obtain⟨s',t'⟩:=ao.swap (w':= {w with heap:=w.heap.setIfInBounds b (.map (es.push {key:=.int .i64 k,val:=z,born:=clock}) (clock+1))}) (bK _ _) rfl rfl rfl (by simp) (fun c _ aq=>iO.2 c (fun e=>aq (by rw[e];rfl))) iO.1 (fun c aq=>.inl aq);refine⟨_,_,I,_,?_,s',t',di _ _ clock (by rw[du];exact E4) ⟨es.size,{key:=.int .i64 k,val:=z,born:=clock},by simp,rfl,rfl⟩⟩;simp[execOp,he.cr hm,he.cr af,Instr.mapEntry,hu,MapKept.run_getObj_map al,aq,a7,IS a2,MapKept.run_setObj_map _ al,Result.andThen,du,goInt];have a7:=MapKept.run_findKey (w:=w) hk dy;simp only[Nat.zero_add]at a7;have ae:es[j]? =some jc:=by simpa using gv
   have iO:=MapKept.heap_set (o':=.map (es.modify j fun e=> {e with key:=.int .i64 k}) clock) al;have E4:=fZ.set (v:=v0) gv oa (fun e=> {e with key:=.int .i64 k}) ⟨rfl,p_,rfl⟩ (pa v0);obtain⟨s',t'⟩:=ao.swap (w':= {w with heap:=w.heap.setIfInBounds b (.map (es.modify j fun e=> {e with key:=.int .i64 k}) clock)}) (bK _ _) rfl rfl rfl (by simp) (fun c _ aq=>iO.2 c (fun e=>aq (by rw[e];rfl))) iO.1 (fun c aq=>.inl aq);have av:j<es.size:=by simpa using(List.getElem?_eq_some_iff.1 gv).1
   refine⟨_,_,I,_,?_,s',t',di _ _ jc.born (by rw[du];exact E4) ⟨j,{jc with key:=.int .i64 k},by rw[Array.getElem?_toList,Array.getElem?_modify];simp[ae],rfl,rfl⟩⟩;simp[execOp,he.cr hm,he.cr af,Instr.mapEntry,hu,MapKept.run_getObj_map al,aq,a7,ae,oa,Uf,MapKept.run_setObj_map _ al,Result.andThen,du,goInt])
theorem Ui:∀(l:List MapEntry) (j:Nat) (e:MapEntry),(l.map (·.born)).Nodup→l[j]? =some e→l.findIdx? (fun x=>(x.born:Int)==(e.born:Int))=some j
  | [],j,e,_,h=>by simp at h
  |x::l,0,e,aD,h=>by simp at h;subst h;simp[List.findIdx?_cons]
  |x::l,j+1,e,aD,h=>by
   simp only[List.map_cons,List.nodup_cons]at aD;simp only[List.getElem?_cons_succ]at h;have cu:x.born≠e.born:=fun aQ=>aD.1 (aQ▸List.mem_map_of_mem (List.mem_of_getElem? h));have:((x.born:Int)==(e.born:Int))=false:=by simp;omega
   simp[List.findIdx?_cons,this,Ui l j e aD.2 h]
theorem Uj {t:TypeId} {m x y:Operand} {b:Nat} {es:Array MapEntry} {clock s:Nat} {xs ys:bU} {k:Int} {v:Value} {δ':List ay} (fZ:p7 es clock xs) (ch:Ug es k s)
    (hm:bp σ m=some (.map (some b))) (af:bp σ x=some (.int .i64 s)) (aw:bp σ y=some v) (dX:gi xs k v=ys) (bK:bc δ (.obj b (.map es clock)) δ' (.map b ys)) (di:aK C ops Q rest σ ds I δ'):
    aK C ops Q ({dst:=none,op:=.entryStore t m x y,type:=ty,pos:=pos,after:=after,guard:=none}::rest) σ ds I δ:=
  Iu rfl rfl (by intro c aq;cases aq) (fun a w he ao=>by
   subst dX;obtain⟨l,r,fi,fw⟩:=bK.split;have al:w.heap[b]? =some (.map es clock):=ao.dQ (.obj b (.map es clock)) (by rw[fi];simp);obtain⟨j,e,du,dy,rfl⟩:=ch;have oe:es.findIdx? (fun x=>(x.born:Int)==(e.born:Int))=some j:=by have ab:=List.findIdx?_toArray (p:=fun x:MapEntry=>(x.born:Int)==(e.born:Int)) (l:=es.toList);rw[Array.toArray_toList]at ab;rw[ab];exact Ui _ j e fZ.born du
   have iO:=MapKept.heap_set (o':=.map (es.modify j fun e=> {e with val:=v}) clock) al
   have az:gi xs k v=xs.set j (k,v):=by
    rcases CT es.toList xs k 0 fZ.n4 with⟨dj,cY,l7⟩|⟨mI,v0,jc,dj,cY,l7,AI,Nn,af7⟩
    exfalso;rw[AG]at dj;have:(Value.int .i64 k,e.val)∈xs.map (fun p=>(Value.int .i64 p.1,p.2)):=by rw[←fZ.n4,←dy];exact List.mem_map_of_mem (f:=fun e:MapEntry=>(e.key,e.val)) (List.mem_of_getElem? du)
    obtain⟨p,az,ny⟩:=List.mem_map.1 this;simp only[Prod.mk.injEq,Value.int.injEq,true_and]at ny;exact dj (ny.1▸List.mem_map_of_mem az)
    have:mI=j:=by
     have aQ:(xs.map (·.1))[mI]? =some k:=by
      have:=congrArg (fun l=>l[mI]?) fZ.n4;simp only[List.getElem?_map,l7,Option.map_some]at this
      cases af:xs[mI]? with
      |none=>simp[af]at this
      |some p=>simp[af,AI]at this;simp[af,this]
     have aT:(xs.map (·.1))[j]? =some k:=by
      have:=congrArg (fun l=>l[j]?) fZ.n4;simp only[List.getElem?_map,du,Option.map_some]at this
      cases af:xs[j]? with
      |none=>simp[af]at this
      |some p=>simp[af,dy]at this;simp[af,this]
     exact(List.getElem?_inj (List.getElem?_eq_some_iff.1 aQ).1 fZ.keys).1 (aQ.trans aT.symm)
    rw[af7 v,this]
   obtain⟨s',t'⟩:=ao.swap (w':= {w with heap:=w.heap.setIfInBounds b (.map (es.modify j fun e=> {e with val:=v}) clock)}) bK rfl rfl rfl (by simp) (fun c _ aq=>iO.2 c (fun e=>aq (by rw[e];rfl))) ⟨_,_,iO.1,fZ.set du dy _ ⟨dy,rfl,rfl⟩ az⟩ (fun c aq=>.inl aq);refine⟨_,I,δ',?_,s',t',di⟩;simp[execOp,he.cr hm,he.cr af,he.cr aw,Instr.entryStore,asInt,asIntOf,MapKept.run_getObj_map al,oe,MapKept.run_setObj_map _ al,Result.andThen])
theorem IT(es:Array MapEntry)(seen:Array Nat):(leftOf es seen).toList=es.toList.filter fun e=> !seen.contains e.born:=by
 unfold leftOf;rw[Array.toList_filter]
def No(es:Array MapEntry)(seen:Array Nat)(k:Int)(v:Value):Prop:=∃(kZ:Array Nat) (e:MapEntry),seen=kZ.push e.born∧e∈es.toList∧e.key=.int .i64 k∧e.val=v
structure uU(es:Array MapEntry)(clock since:Nat)(seen:Array Nat)(bu:Nat)(xs left:bU):Prop where
  is:p7 es clock xs
  xa:∀x∈es.toList,x.born<since
  gj:since≤bu
  af8:since≤clock
  n4:(leftOf es seen).toList.map (fun e=>(e.key,e.val))=left.map (fun p=>(Value.int .i64 p.1,p.2))
  bu:bu=clock
theorem aK.IU {b:Nat} {xs:bU} {δ':Array MapEntry→Nat→List ay} (bK:∀es clock,bc δ (.map b xs) (δ' es clock) (.obj b (.map es clock)))
 (k:∀es clock,p7 es clock xs→aK C ops Q rest σ ds I (δ' es clock)):aK C ops Q rest σ ds I δ:=by
 intro a w he ao ar;obtain⟨l,r,fi,fw⟩:=(bK #[] 0).split;obtain⟨es,clock,al,fZ⟩:=ao.dQ (.map b xs) (by rw[fi];simp);obtain⟨s',t'⟩:=ao.swap (w':=w) (bK es clock) rfl rfl rfl (Nat.le_refl _) (fun _ _ _=>rfl) al (fun c aq=>.inl aq);exact k es clock fZ a w he s' (ar.trans t')
theorem View.Np{b:Nat}{xs:bU}{es:Array MapEntry}{clock:Nat}{δ':List ay}(hm:p7 es clock xs)(bK:bc δ (.obj b (.map es clock)) δ' (.map b xs)):View I δ I δ':=fun w ao=>by obtain⟨l,r,fi,fw⟩:=bK.split;have al:w.heap[b]? =some (.map es clock):=ao.dQ (.obj b (.map es clock)) (by rw[fi];simp);exact ao.swap (w':=w) bK rfl rfl rfl (Nat.le_refl _) (fun _ _ _=>rfl) ⟨es,clock,al,hm⟩ (fun c aq=>.inl aq)
theorem IV {t gy e:TypeId} {x:Operand} {b:Nat} {es:Array MapEntry} {clock:Nat} {xs:bU} (ar:C.P.underlying t=some (.map gy e)) (af:bp σ x=some (.map (some b))) (bK:Has δ (.obj b (.map es clock))) (fZ:p7 es clock xs) (aH:Nat.blt d C.n=true)
    (k:∀r,uU es clock clock #[] clock xs xs→aK C ops Q rest ((d,.pointer (some ⟨r,0,none⟩))::σ) ds I (.obj r (.mapIter (some b) clock #[] clock)::δ)):
    aK C ops Q ({dst:=some d,op:=.range t x,type:=ty,pos:=pos,after:=after,guard:=none}::rest) σ ds I δ:=
  q5 rfl rfl aH (by intro c aq;cases aq) (fun a w he ao=>by have al:w.heap[b]? =some (.map es clock):=ao.dQ (.obj b (.map es clock)) bK.mem;obtain⟨s',t'⟩:=ao.alloc (.obj w.heap.size (.mapIter (some b) clock #[] clock)) (.mapIter (some b) clock #[] clock) rfl (heap_alloc_new w _);refine⟨_,_,_,_,?_,s',t',k w.heap.size ⟨fZ,fZ.xa,Nat.le_refl _,Nat.le_refl _,by have h:es.toList.filter (fun e=> !(#[]:Array Nat).contains e.born)=es.toList:=List.filter_eq_self.2 (by simp);rw[IT,h,fZ.n4],rfl⟩⟩;simp[execOp,he.cr af,run_range_map w t gy e b es clock ar al])
theorem af9{es:List MapEntry}(aD:(es.map (·.born)).Nodup){p:MapEntry→Bool}{e:MapEntry}(he:e∈es.filter p):
 ∃l r,es.filter p=l++e::r∧es.filter (fun x=>p x&& !(x.born==e.born))=l++r:=by
 obtain⟨l,r,h⟩:=List.append_of_mem he;refine⟨l,r,h,?_⟩;have ab:es.filter (fun x=>p x&& !(x.born==e.born))=(es.filter p).filter (fun x=> !(x.born==e.born)):=by rw[List.filter_filter];congr 1;funext x;rw[Bool.and_comm]
 have iP:((es.filter p).map (·.born)).Nodup:=aD.sublist ((List.filter_sublist (l:=es)).map _);rw[h,List.map_append,List.map_cons,List.nodup_append]at iP;obtain⟨sh,og,E5⟩:=iP;rw[List.nodup_cons]at og;rw[ab,h,List.filter_append,List.filter_cons];simp only[beq_self_eq_true,Bool.not_true,Bool.false_eq_true,if_false];congr 1;refine List.filter_eq_self.2 fun x af=> ?_;have:=E5 x.born (List.mem_map_of_mem af) e.born (by simp);simpa using this;refine List.filter_eq_self.2 fun x af=> ?_;have:x.born≠e.born:=fun aQ=>og.1 (aQ▸List.mem_map_of_mem af);simpa using this
theorem Uk {x:Operand} {b r:Nat} {es:Array MapEntry} {clock since bu:Nat} {seen:Array Nat} {xs left:bU} {δ':Array Nat→List ay} (eu:uU es clock since seen bu xs left) (af:bp σ x=some (.pointer (some ⟨r,0,none⟩)))
    (bK:Has δ (.obj b (.map es clock))) (ao:∀iQ,bc δ (.obj r (.mapIter (some b) since seen bu)) (δ' iQ) (.obj r (.mapIter (some b) since iQ bu))) (aH:Nat.blt d C.n=true)
    (CU:left= []→aK C ops Q rest ((d,.tuple #[.bool false])::σ) ds I δ)
    (c8:∀l k v q iQ,left=l++(k,v)::q→uU es clock since iQ bu xs (l++q)→No es iQ k v→aK C ops Q rest ((d,.tuple #[.bool true,.int .i64 k,v])::σ) ds I (δ' iQ)):
    aK C ops Q ({dst:=some d,op:=.next x false,type:=ty,pos:=pos,after:=after,guard:=none}::rest) σ ds I δ:=
  q5 rfl rfl aH (by intro c aq;cases aq) (fun a w he gg=>by
   obtain⟨pk,nA,fi,fw⟩:=(ao #[]).split;have an:w.heap[r]? =some (.mapIter (some b) since seen bu):=gg.dQ (.obj r (.mapIter (some b) since seen bu)) (by rw[fi];simp);have al:w.heap[b]? =some (.map es clock):=gg.dQ (.obj b (.map es clock)) bK.mem;rcases run_next_at (P:=C.P) w ty r b since bu seen es clock an al eu.xa eu.gj with⟨aB,iM⟩|⟨e,ER,hp,lx,iM⟩
   have hle:left= []:=by have:=congrArg List.length eu.n4;simp only[List.length_map,Array.length_toList]at this;exact List.eq_nil_of_length_eq_zero (by omega)
   exact⟨_,w,I,δ,by simp[execOp,he.cr af,iM],gg,er.refl _ _ _,CU hle⟩;have l5:hp.heap[r]? =some (.mapIter (some b) since seen bu):=by rcases lx with rfl|rfl<;>exact an
   have iO:=MapKept.heap_set (o':=.mapIter (some b) since (seen.push e.born) clock) l5;have yB:hp.heap=w.heap∧hp.os=w.os∧hp.tape=w.tape∧hp.output=w.output:=by rcases lx with rfl|rfl<;>exact⟨rfl,rfl,rfl,rfl⟩
   have nB:=eu.bu;subst nB
   obtain⟨s',t'⟩:=gg.swap (w':=ChangeMaps.setBlock hp r (.mapIter (some b) since (seen.push e.born) bu)) (ao (seen.push e.born)) (by simp[ChangeMaps.setBlock,yB]) (by simp[ChangeMaps.setBlock,yB]) (by simp[ChangeMaps.setBlock,yB]) (by simp[ChangeMaps.setBlock,yB])
     (fun c _ aq=>(iO.2 c (fun e=>aq (by rw[e];rfl))).trans (by rw[yB.1])) iO.1 (fun c aq=>.inl aq)
   have AJ:=ER;rw[IT]at AJ;obtain⟨dj,cY,pe,fL⟩:=af9 eu.is.born AJ;have Ul:=eu.n4;rw[IT,pe,List.map_append,List.map_cons]at Ul;obtain⟨AK,j0,rfl,si,qf⟩:=List.map_eq_append_iff.1 Ul.symm
   cases j0 with
   |nil=>simp at qf
   |cons p j0=>
    obtain⟨k,v⟩:=p;simp only[List.map_cons,List.cons.injEq,Prod.mk.injEq]at qf;obtain⟨⟨hk,ax⟩,qf⟩:=qf;have gw:e∈es.toList:=(List.mem_filter.1 AJ).1;refine⟨_,_,I,_,?_,s',t',c8 AK k v j0 (seen.push e.born) rfl ⟨eu.is,eu.xa,eu.gj,eu.af8,?_,rfl⟩ ⟨seen,e,rfl,gw,hk.symm,ax.symm⟩⟩;simp[execOp,he.cr af,iM,hk,ax];rw[IT];have:(fun x:MapEntry=> !(seen.push e.born).contains x.born)=fun x=>(!seen.contains x.born)&& !(x.born==e.born):=by funext x;rw[contains_push];cases seen.contains x.born<;>rfl
    rw[this,fL,List.map_append,List.map_append,si,qf])
theorem IW {x:Operand} {b r:Nat} {es:Array MapEntry} {clock since bu:Nat} {seen:Array Nat} {xs left:bU} {δ':Array Nat→List ay} (aA:left= []) (eu:uU es clock since seen bu xs left) (af:bp σ x=some (.pointer (some ⟨r,0,none⟩)))
    (bK:Has δ (.obj b (.map es clock))) (ao:∀iQ,bc δ (.obj r (.mapIter (some b) since seen bu)) (δ' iQ) (.obj r (.mapIter (some b) since iQ bu))) (aH:Nat.blt d C.n=true)
    (CU:aK C ops Q rest ((d,.tuple #[.bool false])::σ) ds I δ):
    aK C ops Q ({dst:=some d,op:=.next x false,type:=ty,pos:=pos,after:=after,guard:=none}::rest) σ ds I δ:=
  Uk eu af bK ao aH (fun _=>CU) (fun l k v q _ h=>by rw[aA]at h;simp at h)
theorem IX {x:Operand} {b r:Nat} {es:Array MapEntry} {clock since bu:Nat} {seen:Array Nat} {xs left:bU} {δ':Array Nat→List ay} (aA:left≠[]) (eu:uU es clock since seen bu xs left) (af:bp σ x=some (.pointer (some ⟨r,0,none⟩)))
    (bK:Has δ (.obj b (.map es clock))) (ao:∀iQ,bc δ (.obj r (.mapIter (some b) since seen bu)) (δ' iQ) (.obj r (.mapIter (some b) since iQ bu))) (aH:Nat.blt d C.n=true)
    (c8:∀l k v q iQ,left=l++(k,v)::q→uU es clock since iQ bu xs (l++q)→No es iQ k v→aK C ops Q rest ((d,.tuple #[.bool true,.int .i64 k,v])::σ) ds I (δ' iQ)):
    aK C ops Q ({dst:=some d,op:=.next x false,type:=ty,pos:=pos,after:=after,guard:=none}::rest) σ ds I δ:=
  Uk eu af bK ao aH (fun h=>absurd h aA) c8
theorem IY {x:Operand} {b r:Nat} {es:Array MapEntry} {clock since bu:Nat} {seen:Array Nat} {xs left:bU} {k:Int} {v:Value} (eu:uU es clock since seen bu xs left) (af:bp σ x=some (.pointer (some ⟨r,0,none⟩)))
    (aA:No es seen k v) (bK:Has δ (.obj b (.map es clock))) (CV:Has δ (.obj r (.mapIter (some b) since seen bu))):cz C σ ds I δ (.entry x) (.tuple #[.int .i64 k,v]):=
  fun _ _ _ _ _ a w he ao=>by obtain⟨kZ,e,rfl,Nq,hk,rfl⟩:=aA;have al:w.heap[b]? =some (.map es clock):=ao.dQ _ bK.mem;have an:w.heap[r]? =some (.mapIter (some b) since (kZ.push e.born) bu):=ao.dQ _ CV.mem;have nB:=eu.bu;subst nB;simp[execOp,he.cr af,run_entry_at w r b since kZ es _ e an al Nq eu.is.born,hk]
theorem nC {t e:TypeId} {x y:Operand} {A:Option Addr} {m c size n off q:Nat} {agg:Bool} {xs vs xs':List Value} {v:Value} {δ':List ay} (ar:dt C.P t agg q) (af:bp σ x=some (dh A off)) (aw:bp σ y=some v) (bo:A.isSome=true)
    (ax:c9 v=vs) (EL:Nat.beq vs.length q=true) (ab:vs.all (·.oneCell')=true) (cu:vs≠[]) (bK:bc δ (.row (.slice A m c) e size n xs) δ' (.row (.slice A m c) e size n xs')) (ch:cS xs off vs=some xs') (k:aK C ops Q rest σ ds I δ'):
    aK C ops Q ({dst:=none,op:=.store t x y,type:=ty,pos:=pos,after:=after,guard:=none}::rest) σ ds I δ:=
  Iu rfl rfl (by intro c aq;cases aq) (fun a w he ao=>by
   obtain⟨l,r,fi,fw⟩:=bK.split;obtain⟨a0,rfl⟩:=Option.isSome_iff_exists.1 bo;have bm:w.ownsRow 0 e size (.slice (some a0) m c) n xs:=ao.dQ (.row (.slice (some a0) m c) e size n xs) (by rw[fi];simp);obtain⟨hlen,an⟩:=bm;rcases an with⟨an,_⟩|⟨g,cap,cur,an,xh,hw,lu,qg,fl,fb⟩
   cases an;injection an with aQ aT dA;injection aQ with aQ;subst aQ;subst aT;subst dA;have th:w.heap[g]? =some (.cells cur.toList.toArray e (0,0)):=by simpa using hw
   obtain⟨_,aF,bb,eX⟩:=CG _ _ _ _ ch;have hle:=bb cu;have iw:xs.length≤cur.toList.length:=by rw[←fb,List.length_take];omega
   have aD:vs.length=q:=Nat.eq_of_beq_eq_true EL
   have bD:(sizeOf t).run C.P w=.ok q w:=by
    have h:=ar.size
    cases aC:C.P.info? t with
    |none=>simp[aC]at h
    |some i=>simp[aC]at h;simp[sizeOf,typeInfo,program,Sem.run,aC,h]
   subst aD;have cE:∀u∈vs,u.oneCell'=true:=by simpa using ab
   obtain⟨w',iM,du,dy,gv,oa,p_,sc,pa,yF,vV⟩:=EK (P:=C.P) vs off 0 cur.toList w th (by omega) cE
   have iv:(ay.row (.slice (some ⟨g,0,none⟩) m c) e size m xs').holds w':=by
    refine⟨by rw[aF];exact hlen,.inr ⟨g,c,sc.toArray,rfl,xh,pa,lu,qg,by simp[yF,fl],?_⟩⟩;apply List.ext_getElem?;intro j;rw[eX j,List.getElem?_take];by_cases au:j<m*size;rw[if_pos au];simp only[Nat.add_zero]at vV;rw[show(sc.toArray.toList)[j]? =sc[j]? from rfl,vV j];split;rfl;rw[←fb,List.getElem?_take,if_pos au];rw[if_neg au];have:¬(off≤j∧j<off+vs.length):=by omega
    rw[if_neg this];symm;rw[List.getElem?_eq_none_iff];omega
   obtain⟨s',t'⟩:=ao.swap bK du dy gv (by omega) (fun k _ hk=>p_ k (fun e=>hk (by rw[e];rfl))) iv (fun k hk=>.inl hk);refine⟨w',I,δ',?_,s',t',k⟩;have ks:(⟨g,0,none⟩:Addr).add off=⟨g,off,none⟩:=by rw[add_plain];simp
   simp[execOp,he.cr af,he.cr aw,dh,ks,Instr.storeAt,Instr.sureAddr,storeVar,bD,xd,ax,iM])
end
section
variable {C:Ctx} {Q:Exit→Act→World→Prop} {σ:Env} {ds:List dN} {I:aa} {δ:List ay} {ops:Array Oper} {rest:List Oper}
variable {d:Nat} {ty:TypeId} {pos:String} {after:Array Edge}
theorem Nr{t e:TypeId}{x:Operand}{ad:Option Addr}{n c:Nat}(ar:C.P.underlying t=some (.slice e))(af:bp σ x=some (.slice ad n c)):
    cz C σ ds I δ (.call {callee:=.builtin .cap,args:= #[x],argTypes:= #[t]}) (.int .i64 c):=
  fun _ _ _ _ _ a w he _=>by
   have hu:(underlying t).run C.P w=.ok (.slice e) w:=by simp[underlying,program,Sem.run,ar]
   simp[execOp,resolve,invoke,builtin,Builtin.cap_,he.cr af,hu,goInt]
theorem Um {t e:TypeId} {x y z u:Operand} {ad:Option Addr} {n c l h m size:Nat} (ar:C.P.underlying t=some (.slice e)) (bD:(C.P.info? e).map (·.size)=some size)
    (af:bp σ x=some (.slice ad n c)) (aw:bp σ y=some (.int .i64 (l:Int))) (a2:bp σ z=some (.int .i64 (h:Int))) (g4:bp σ u=some (.int .i64 (m:Int))) (ab:l≤h) (ae:h≤m) (aF:m≤c):
    cz C σ ds I δ (.slice t x (some y) (some z) (some u)) (.slice (cutAt ad m l size) (h-l) (m-l)):=
  fun _ _ _ _ _ a w he _=>by
   have hu:(underlying t).run C.P w=.ok (.slice e) w:=by simp[underlying,program,Sem.run,ar]
   cases aC:C.P.info? e with
   |none=>simp[aC]at bD
   |some inf=>simp[aC]at bD;simp[execOp,he.cr af,he.cr aw,he.cr a2,he.cr g4,Instr.sliceAt,Instr.slice,Instr.sliceBounds,Instr.sliceBound,asIntOf,hu,sizeOf,typeInfo,program,Sem.run,aC,bD,ab,ae,aF,cutAt]
theorem Un {t e:TypeId} {x y z:Operand} {ad:Option Addr} {n c l h size:Nat} (ar:C.P.underlying t=some (.slice e)) (bD:(C.P.info? e).map (·.size)=some size)
    (af:bp σ x=some (.slice ad n c)) (aw:bp σ y=some (.int .i64 (l:Int))) (a2:bp σ z=some (.int .i64 (h:Int))) (ab:l≤h) (ae:h≤c):
    cz C σ ds I δ (.slice t x (some y) (some z) none) (.slice (cutAt ad c l size) (h-l) (c-l)):=
  fun _ _ _ _ _ a w he _=>by
   have hu:(underlying t).run C.P w=.ok (.slice e) w:=by simp[underlying,program,Sem.run,ar]
   cases aC:C.P.info? e with
   |none=>simp[aC]at bD
   |some inf=>simp[aC]at bD;simp[execOp,he.cr af,he.cr aw,he.cr a2,Instr.sliceAt,Instr.slice,Instr.sliceBounds,Instr.sliceBound,asIntOf,hu,sizeOf,typeInfo,program,Sem.run,aC,bD,ab,ae,cutAt]
theorem af_{w:World}{e:TypeId}{size n h c:Nat}{A:Option Addr}{xs:List Value}(bm:w.ownsRow 0 e size (.slice A n c) n xs)(bK:h≤n):w.ownsRow 0 e size (.slice A h c) h (xs.take (h*size)):=by
 obtain⟨aA,af⟩:=bm;have hle:h*size≤n*size:=Nat.mul_le_mul_right _ bK;refine⟨by rw[List.length_take,aA];omega,?_⟩;rcases af with⟨he,aD⟩|⟨g,cap,cur,he,ab,ae,aF,bb,eX,ft⟩
 cases he
 exact .inl ⟨by have:h=0:=by omega
                rw[this],by omega⟩
 cases he;exact .inr ⟨g,c,cur,rfl,ab,ae,by omega,bb,eX,by rw[←ft,List.take_take,Nat.min_eq_left hle]⟩
theorem aga {P:Program} {t ty e:TypeId} {size:Nat} (ar:P.underlying t=some (.slice e)) (bD:(P.info? e).map (·.size)=some size) {A B:Option Addr} {i c m dT:Nat} (hle:i+m≤c) {w w':World} {jb:Value}
 (an:(Builtin.append_ #[t,t] ty #[.slice A i c,.slice B m dT]).run P w=.ok jb w'):jb=.slice A (i+m) c:=by
 have hu:(underlying t).run P w=.ok (.slice e) w:=by simp[underlying,program,Sem.run,ar]
 cases aC:P.info? e with
 |none=>simp[aC]at bD
 |some inf=>
   have ao:(sizeOf e).run P w=.ok inf.size w:=by simp[sizeOf,typeInfo,program,Sem.run,aC]
   simp[Builtin.append_,hu,ao,Builtin.lenOf,hle]at an
   cases a7:(Builtin.firstCells inf.size m (.slice B m dT)).run P w with
   |halt x hp=>simp[a7]at an
   |ok new hp=>
    simp[a7]at an
    cases A with
    |none=>simp at an;exact an.1.symm
    |some a=>
     simp at an
     cases ch:(storeCells (a.add (i*inf.size)) new.toList).run P hp with
     |halt x r8=>simp[ch]at an
     |ok u r8=>simp[ch]at an;exact an.1.symm
theorem Uo {t e:TypeId} {z:Value} {size bytes n i j m c dT:Nat} {s x:Operand} {A:Option Addr} {xs:List Value} {G:List ay} (ar:C.P.underlying t=some (.slice e)) (al:(C.P.info? e).map (fun i=>(i.zero,i.size,i.bytes))=some (some z,size,bytes))
    (ao:bp σ s=some (.slice A i c)) (af:bp σ x=some (.slice (cutAt A c j size) m dT)) (aH:Nat.blt d C.n=true) (ph:bc δ (.row (.slice A n c) e size n xs) G (.row (.slice A (i+m) c) e size (i+m) (xs.take (i*size)++(xs.drop (j*size)).take (m*size))))
    (ob:i≤j) (yR:j+m≤n) (lu:n≤c) (ab:∀u∈xs,u.oneCell'=true) (ha:n≤4398046511104) (m9:n*bytes≤140737488355328) (bo:A.isSome=true)
    (k:aK C ops Q rest ((d,.slice A (i+m) c)::σ) ds I G) (a2:z.cells.size=size:=by rfl) (bD:Nat.blt 0 size=true:=by rfl):
    aK C ops Q ({dst:=some d,op:=.call {callee:=.builtin .append,args:= #[s,x],argTypes:= #[t,t]},type:=ty,pos:=pos,after:=after,guard:=none}::rest) σ ds I δ:=
  q5 rfl rfl aH (by intro c aq;cases aq) (fun a w he gg=>by
   have IK:0<size:=by simpa[Nat.blt_eq]using bD
   obtain⟨l,r,fi,_⟩:=ph.split;have rb:w.ownsRow 0 e size (.slice A n c) n xs:=gg.dQ (.row (.slice A n c) e size n xs) (by rw[fi];simp);obtain⟨a0,rfl⟩:=Option.isSome_iff_exists.1 bo
   obtain⟨g,rfl⟩:∃g,a0=⟨g,0,none⟩:=by
    rcases rb.2 with⟨he,_⟩|⟨g,cap,cur,he,_⟩
    cases he;exact⟨g,by injection he with he;injection he⟩
   have agb:=af_ rb (show i≤n by omega);obtain⟨B,eJ⟩:∃B:Addr,cutAt (some ⟨g,0,none⟩) c j size=some B:=Option.isSome_iff_exists.1 (afX rfl);rw[eJ]at af;have iw:=rb.1
   have pg:((xs.drop (j*size)).take (m*size)).length=m*size:=by
    have:j*size+m*size≤n*size:=by rw[←Nat.add_mul];exact Nat.mul_le_mul_right _ yR
    rw[List.length_take,List.length_drop];omega
   have EZ:∀q u,((xs.drop (j*size)).take (m*size))[q]? =some u→w.cell? (B.add q)=some u:=fun q u aC=>by
    have Up:q<m*size:=by have:=(List.getElem?_eq_some_iff.1 aC).1;omega
    have hm:0<m:=by rcases Nat.eq_zero_or_pos m with h|h;(subst h;simp at Up);exact h
    have agc:¬c=j:=by omega
    unfold cutAt at eJ;rw[if_neg agc]at eJ;simp only[Option.map_some,Option.some.injEq]at eJ;subst eJ;rw[List.getElem?_take_of_lt Up,List.getElem?_drop]at aC;have ae:=rb.cells (g:=g) rfl (j*size+q) u aC;rw[add_add];exact ae
   cases aC:C.P.info? e with
   |none=>simp[aC]at al
   |some inf=>simp[aC]at al;obtain⟨g3,ia,mJ⟩:=al;have axW:(i+m)*bytes≤n*bytes:=Nat.mul_le_mul_right _ (by omega);obtain⟨jb,w',an,IL,aM,_,aW⟩:=run_append_own_at (P:=C.P) (w:=w) 0 t ty e inf z size bytes ar aC g3 ia mJ a2 IK _ i _ agb B m dT _ pg EZ (fun u hu=>ab u (List.mem_of_mem_drop (List.mem_of_mem_take hu))) (by simp only[maxLen];omega) (by omega) (Nat.zero_le _);have agd:=aga (size:=size) ar (by rw[aC];simp[ia]) (show i+m≤c by omega) an;subst agd;obtain⟨s',t'⟩:=gg.swap ph aM.os aM.tape aM.output aM.size (fun b av cu=>aM.block b av (fun e=>cu (show(some g:Option Nat)=some b from e.symm))) IL (fun b al=>.inl al);refine⟨_,w',I,G,?_,s',t',k⟩;simp[execOp,resolve,invoke,builtin,he.cr ao,he.cr af,an])
theorem Uq {o:Oper} (aM:o.guard=none) (o9:o.dst=none) (eY:∀c,o.op≠ .defer c)
 (iM:∀a w,gq C.n σ ds a→Sat w I δ→∃v w' ai δ',(execOp a.eval o).run C.P w=.ok (.value v) w'∧Sat w' ai δ'∧er w I δ w' ai δ'∧aK C ops Q rest σ ds ai δ'):aK C ops Q (o::rest) σ ds I δ:=by
 intro a w he ao ar;obtain⟨v,w',ai,δ',an,s',t',k⟩:=iM a w he ao;refine wpListIn_plain aM fun K eZ=> ?_;unfold Oper.wpIn;refine⟨fun _ _=>trivial,?_⟩;rw[semAt_eq _ _ _ eY,an,Oper.uponIn_value];refine eZ _ _ ?_;exact k _ _ (he.TB o9 _) s' (ar.trans t')
theorem age{δ:List ay}{x:ay}(h:Has δ x):bc δ x δ x:=by
 induction h with
 |here=>exact bc.here
 |there _ aY=>exact bc.there aY
theorem IZ {t e:TypeId} {z:Value} {size n m c dT:Nat} {x:Operand} {A:Option Addr} {xs:List Value} (ar:C.P.underlying t=some (.slice e)) (al:(C.P.info? e).map (fun i=>(i.zero,i.size))=some (some z,size)) (AL:z.cells.toList.all (·.oneCell')=true) (ky:Nat.beq z.cells.size size=true)
    (af:bp σ x=some (.slice (cutAt A c n size) m dT)) (bK:Has δ (.row (.slice A n c) e size n xs)) (hm:n+m≤c)
    (k:aK C ops Q rest σ ds I δ):
    aK C ops Q ({dst:=none,op:=.call {callee:=.builtin .clear,args:= #[x],argTypes:= #[t]},type:=ty,pos:=pos,after:=after,guard:=none}::rest) σ ds I δ:=
  Uq rfl rfl (by intro c aq;cases aq) (fun a w he gg=>by
   have rb:w.ownsRow 0 e size (.slice A n c) n xs:=gg.dQ _ bK.mem;have hu:(underlying t).run C.P w=.ok (.slice e) w:=by simp[underlying,program,Sem.run,ar]
   have AM:z.cells.size=size:=Nat.eq_of_beq_eq_true ky;rcases Nat.eq_zero_or_pos m with xj|xj
   subst xj;refine⟨.tuple #[],w,I,δ,?_,gg,er.refl _ _ _,k⟩;cases aC:cutAt A c n size<;>simp[execOp,resolve,invoke,builtin,Builtin.clear_,he.cr af,hu,aC];obtain⟨hlen,an⟩:=rb;rcases an with⟨an,kW⟩|⟨g,cap,cur,an,xh,hw,lu,qg,fl,fb⟩
   cases an;omega;injection an with aQ aT dA;subst aQ;subst dA;have uV:¬c=n:=by omega
   have AN:cutAt (some ⟨g,0,none⟩) c n size=some ⟨g,n*size,none⟩:=by
    unfold cutAt;rw[if_neg uV];have ks:(⟨g,0,none⟩:Addr).add (n*size)=⟨g,n*size,none⟩:=by rw[add_plain];simp
    simp[ks]
   rw[AN]at af;have th:w.heap[g]? =some (.cells cur.toList.toArray e (0,0)):=by simpa using hw
   have xk:(Builtin.zeroCells z.cells m).toList.length=m*size:=by simp[Builtin.zeroCells,AM]
   have agf:n*size+m*size≤c*size:=by rw[←Nat.add_mul];exact Nat.mul_le_mul_right _ hm
   have vW:∀u∈(Builtin.zeroCells z.cells m).toList,u.oneCell'=true:=fun u hu=>by
    simp only[Builtin.zeroCells,Array.toList_map,List.mem_map]at hu;obtain⟨i,aj,rfl⟩:=hu
    have av:i%z.cells.size<z.cells.size:=by
     apply Nat.mod_lt;simp at aj;rcases Nat.eq_zero_or_pos z.cells.size with h|h
     rw[h]at aj;simp at aj;exact h
    have AO:∀u∈z.cells.toList,u.oneCell'=true:=fun u hu=>List.all_eq_true.1 AL u hu;rw[getElem!_pos z.cells _ av];exact AO _ (by simp)
   obtain⟨w',iM,du,dy,gv,oa,p_,sc,pa,yF,vV⟩:=EK (P:=C.P) (Builtin.zeroCells z.cells m).toList (n*size) 0 cur.toList w th (by rw[xk];simp[fl];omega) vW;have iv:(ay.row (.slice (some ⟨g,0,none⟩) n c) e size n xs).holds w':=by refine⟨hlen,.inr ⟨g,c,sc.toArray,rfl,xh,pa,lu,qg,by simp[yF,fl],?_⟩⟩;rw[←fb];apply List.ext_getElem?;intro q;rw[List.getElem?_take,List.getElem?_take];by_cases yS:q<n*size;rw[if_pos yS,if_pos yS];rw[show(sc.toArray.toList)[q]? =sc[q]? from rfl,vV q,if_neg (by omega)];rw[if_neg yS,if_neg yS]
   obtain⟨s',t'⟩:=gg.swap (age bK) du dy gv (by omega) (fun k _ hk=>p_ k (fun e=>hk (by rw[e];rfl))) iv (fun k hk=>.inl hk);refine⟨.tuple #[],w',I,δ,?_,s',t',k⟩
   have a2:(C.P.info? e).map (·.zero)=some (some z):=by
    cases aC:C.P.info? e with
    |none=>simp[aC]at al
    |some inf=>simp[aC]at al;simp[al.1]
   obtain⟨eI,rfl⟩:∃eI,m=eI+1:=⟨m-1,by omega⟩
   simp[execOp,resolve,invoke,builtin,Builtin.clear_,he.cr af,hu,IS a2,iM])
theorem agh {t AP e:TypeId} {I1:IntKind} {z:Value} {size bytes n:Nat} {s x:Operand} (ar:C.P.underlying t=some (.slice e)) (Ns:C.P.underlying AP=some (.int I1)) (al:(C.P.info? e).map (fun i=>(i.zero,i.size,i.bytes))=some (some z,size,bytes)) (ky:Nat.beq z.cells.size size=true)
    (ao:bp σ s=some (.slice none 0 0)) (af:bp σ x=some (.int .i64 (n:Int))) (aH:Nat.blt d C.n=true) (aD:0<n) (ha:n≤4398046511104) (m9:n*bytes≤140737488355328) (axX:0<bytes) (bD:0<size)
    (k:∀g c,n≤c→aK C ops Q rest ((d,.slice (some ⟨g,0,none⟩) n c)::σ) ds I (.row (.slice (some ⟨g,0,none⟩) 0 c) e size 0 []::δ)):
    aK C ops Q ({dst:=some d,op:=.call {callee:=.builtin .append,args:= #[s,x],argTypes:= #[t,AP]},type:=ty,pos:=pos,after:=after,guard:=none}::rest) σ ds I δ:=
  q5 rfl rfl aH (by intro c aq;cases aq) (fun a w he gg=>by
   cases aC:C.P.info? e with
   |none=>simp[aC]at al
   |some inf=>
    simp[aC]at al;obtain⟨g3,ia,mJ⟩:=al;have AM:z.cells.size=size:=Nat.eq_of_beq_eq_true ky;have kW:n≠0:=by omega
    have Ur:¬((n:Int)<0):=by omega
    have hw:IntKind.i64.wrap (n:Int)=n:=Av (by omega);have agi:¬(9223372036854775807<(n:Int)):=by omega
    have agj:¬(281474976710656<(n:Int)*(inf.bytes:Int)):=by rw[mJ];have:((n*bytes:Nat):Int)=(n:Int)*(bytes:Int):=Int.natCast_mul _ _;omega
    have agk:¬(281474976710656<Builtin.nextslicecap n 0*inf.bytes):=by rw[nextslicecap_zero aD,mJ];omega
    have uW:¬(n*inf.size=0):=by rw[ia];exact Nat.ne_of_gt (Nat.mul_pos aD bD)
    have an:(Builtin.append_ #[t,AP] ty #[.slice none 0 0,.int .i64 (n:Int)]).run C.P w=
        .ok (.slice (some ⟨w.heap.size,0,none⟩) n (grownCap w n 0 e)) (w.drew.alloc (.cells (Builtin.zeroCells z.cells n++Builtin.zeroCells z.cells (grownCap w n 0 e-n)) e)):=by
      simp[Builtin.append_,run_underlying ar,run_underlying Ns,sizeOf,typeInfo,zeroValue,aC,g3,asInt,asIntOf,hw,Ur,agj,kW,agi,agk,Question.forced,newRow,grownCap,uW,run_firstCells_none]
    have bV:=grownCap_ge w n 0 e;have qg:grownCap w n 0 e≤maxLen:=grownCap_le_maxLen w n 0 e (by simp only[maxLen];omega);obtain⟨kZ,t0⟩:=gg.drew;have iv:(ay.row (.slice (some ⟨w.heap.size,0,none⟩) 0 (grownCap w n 0 e)) e size 0 []).holds (w.drew.alloc (.cells (Builtin.zeroCells z.cells n++Builtin.zeroCells z.cells (grownCap w n 0 e-n)) e)):=by refine⟨by simp,.inr ⟨w.heap.size,_,_,rfl,Nat.zero_le _,heap_alloc_new w.drew _,Nat.zero_le _,qg,?_,by simp⟩⟩;simp only[Array.size_append,size_zeroCells,AM,←Nat.add_mul];congr 1;omega
    obtain⟨s',t'⟩:=kZ.alloc (.row (.slice (some ⟨w.heap.size,0,none⟩) 0 (grownCap w n 0 e)) e size 0 []) _ rfl iv;refine⟨_,_,_,_,?_,s',t0.trans t',k w.heap.size (grownCap w n 0 e) bV⟩;simp[execOp,resolve,invoke,builtin,he.cr ao,he.cr af,an])
end
section
variable {C:Ctx} {Q:Exit→Act→World→Prop} {σ:Env} {ds:List dN} {I:aa} {δ:List ay} {ops:Array Oper} {rest:List Oper}
variable {d:Nat} {ty:TypeId} {pos:String} {after:Array Edge}
theorem Nt(v:Value)(n:Nat):(madeCells #[v] n).toList=List.replicate n v:=by
 apply List.ext_getElem;simp[size_madeCells];intro i ab ae;simp[madeCells,Nat.mod_one]
theorem Nu {t e:TypeId} {z:Value} {size bytes n:Nat} {x y:Operand} {xs:List Value} (ar:C.P.underlying t=some (.slice e)) (al:(C.P.info? e).map (fun i=>(i.zero,i.size,i.bytes))=some (some z,size,bytes))
    (af:bp σ x=some (.int .i64 (n:Int))) (aw:bp σ y=some (.int .i64 (n:Int))) (aH:Nat.blt d C.n=true) (ha:n≤4398046511104) (m9:bytes*n≤281474976710656)
    (fJ:(madeCells z.cells (n*size)).toList=xs)
    (k:∀g,aK C ops Q rest ((d,.slice (some ⟨g,0,none⟩) n n)::σ) ds I (.row (.slice (some ⟨g,0,none⟩) n n) e size n xs::δ)):
    aK C ops Q ({dst:=some d,op:=.makeSlice t x y,type:=ty,pos:=pos,after:=after,guard:=none}::rest) σ ds I δ:=
  q5 rfl rfl aH (by intro c aq;cases aq) (fun a w he gg=>by
   subst fJ
   cases aC:C.P.info? e with
   |none=>simp[aC]at al
   |some inf=>
    simp[aC]at al;obtain⟨g3,ia,mJ⟩:=al;subst ia;have agl:n≤maxLen:=by simp only[maxLen];omega
    have an:=run_make (P:=C.P) w t e inf z ar aC g3 .i64 .i64 n n (by omega) (Int.le_refl _) (by rw[mJ];have:((bytes*n:Nat):Int)=(bytes:Int)*(n:Int):=Int.natCast_mul _ _;omega) (by omega);simp only[Int.toNat_natCast]at an;have iv:(ay.row (.slice (some ⟨w.heap.size,0,none⟩) n n) e inf.size n (madeCells z.cells (n*inf.size)).toList).holds (w.alloc (.cells (madeCells z.cells (n*inf.size)) e)):=by refine⟨by simp[size_madeCells],.inr ⟨w.heap.size,n,_,rfl,Nat.zero_le _,heap_alloc_new w _,Nat.le_refl _,agl,size_madeCells _ _,List.take_of_length_le (by rw[Array.length_toList,size_madeCells];exact Nat.le_refl _)⟩⟩
    obtain⟨s',t'⟩:=gg.alloc (.row (.slice (some ⟨w.heap.size,0,none⟩) n n) e inf.size n (madeCells z.cells (n*inf.size)).toList) _ rfl iv;refine⟨_,_,_,_,?_,s',t',k w.heap.size⟩;simp[execOp,he.cr af,he.cr aw,an])
def I2:Nat→List Value→Option Value
  |6,a::b::c::e::f::g::_=>some (.agg #[a,b,c,e,f,g])
  |7,a::b::c::e::f::g::h::_=>some (.agg #[a,b,c,e,f,g,h])
  |8,a::b::c::e::f::g::h::i::_=>some (.agg #[a,b,c,e,f,g,h,i])
  |_,_=>none
theorem agm{n:Nat}{cs:List Value}{v:Value}(h:I2 n cs=some v):
 ∃us:List Value,us.length=n∧v=pack true us∧∀(j:Nat) (u:Value),us[j]? =some u→cs[j]? =some u:=by
 unfold I2 at h;split at h<;>simp at h;all_goals subst h
 rename_i a b c e f g r;exact⟨[a,b,c,e,f,g],rfl,rfl,fun j u au=>by rcases j with _|_|_|_|_|_|j<;>simp_all⟩;rename_i a b c e f g h r;exact⟨[a,b,c,e,f,g,h],rfl,rfl,fun j u au=>by rcases j with _|_|_|_|_|_|_|j<;>simp_all⟩;rename_i a b c e f g h i r;exact⟨[a,b,c,e,f,g,h,i],rfl,rfl,fun j u au=>by rcases j with _|_|_|_|_|_|_|_|j<;>simp_all⟩
theorem agn{t e:TypeId}{x:Operand}{b off n:Nat}{cs:List Value}{v:Value}(ar:dt C.P t true n)(af:bp σ x=some (.pointer (some ⟨b,off,none⟩)))(ax:I2 n (cs.drop off)=some v)(bK:Has δ (.box b e cs):=by repeat (first|exact Has.here|apply Has.there)):
    cz C σ ds I δ (.load t x) (v):=
  fun _ _ _ _ _=>(fun a w he ao=>by obtain⟨us,aA,rfl,hu⟩:=agm ax;have:=EI ar (w:=w) (a:=⟨b,off,none⟩) aA (fun j v au=>by rw[add_plain,MW (ao.dQ _ bK.mem)];have:=hu j v au;simpa[List.getElem?_drop]using this);simp[execOp,he.cr af,this])
theorem aa.ag{I J:aa}(h:I.le J:=by repeat (first|exact aa.le_refl _|assumption|refine aa.le_trans ?_ (by assumption))):I.le J:=h
theorem ago{op:BinOp}{t t':TypeId}{x y:Operand}{a b:Int}{p:Prop}{ip:Decidable p}(af:bp σ x=some (.int .i64 a))(aw:bp σ y=some (.int .i64 b))(a2:vT op a b=some (@decide p ip))(az:p:=by first|omega|(simp;done)|(simp;omega)):cz C σ ds I δ (.binOp op t x y t') (.bool true):=yD af aw a2 az
theorem Nv{op:BinOp}{t t':TypeId}{x y:Operand}{a b:Int}{p:Prop}{ip:Decidable p}(af:bp σ x=some (.int .i64 a))(aw:bp σ y=some (.int .i64 b))(a2:vT op a b=some (@decide p ip))(az:¬p:=by first|omega|(simp;done)|(simp;omega)):cz C σ ds I δ (.binOp op t x y t') (.bool false):=l2 af aw a2 az
theorem uX{t e:TypeId}{x:Operand}{b off n:Nat}{agg:Bool}{cs:List Value}{v:Value}(ar:dt C.P t agg n)(af:bp σ x=some (.pointer (some ⟨b,off,none⟩)))(ax:kU agg n (cs.drop off)=some v)(bK:Has δ (.box b e cs):=by repeat (first|exact Has.here|apply Has.there)):
    cz C σ ds I δ (.load t x) v:=p9 ar af bK ax
theorem agp {t e:TypeId} {x y:Operand} {ad:Option Addr} {n c i size:Nat} (ar:C.P.underlying t=some (.slice e)) (bD:(C.P.info? e).map (·.size)=some size)
    (af:bp σ x=some (.slice ad n c)) (aw:bp σ y=some (.int .i64 (i:Int))) (aj:i<n:=by omega) (l3:ad.isSome=true:=by assumption):cz C σ ds I δ (.indexAddr t x y) (dh ad (i*size)):=IB ar bD af aw aj l3
theorem tn {t e:TypeId} {x y:Operand} {ad:Option Addr} {n c size:Nat} {i:Int} (ar:C.P.underlying t=some (.slice e)) (bD:(C.P.info? e).map (·.size)=some size)
    (af:bp σ x=some (.slice ad n c)) (aw:bp σ y=some (.int .i64 i)) (aB:0≤i:=by first|omega|(simp;done)|(simp;omega)) (aj:i<n:=by first|omega|(simp;done)|(simp;omega)) (l3:ad.isSome=true:=by assumption):cz C σ ds I δ (.indexAddr t x y) (dh ad (i.toNat*size)):=afu ar bD af aw aB aj l3
end
section
variable {C:Ctx} {Q:Exit→Act→World→Prop} {σ:Env} {ds:List dN} {I:aa} {δ:List ay} {ops:Array Oper} {rest:List Oper}
variable {d:Nat} {ty:TypeId} {pos:String} {after:Array Edge}
theorem pn {op:BinOp} {t e:TypeId} {t':TypeId} {x y:Operand} {p:Option Addr} {z:Bool} (ar:C.P.underlying t=some (.pointer e))
    (af:bp σ x=some (.pointer p)) (aw:bp σ y=some (.pointer none)) (a2:IA op p=some z):cz C σ ds I δ (.binOp op t x y t') (.bool z):=
  tf af aw (fun w=>by unfold eqGuard;cases op<;>rfl) (fun w=>by
   have hu:(underlying t).run C.P w=.ok (.pointer e) w:=by simp[underlying,program,Sem.run,ar]
   have he:(Op.equal t (.pointer p) (.pointer none)).run C.P w=.ok p.isNone w:=by show(Op.equalIn (9999+1) t (.pointer p) (.pointer none)).run C.P w=_;rw[Op.equalIn];simp only[Sem.run_bind,hu,Result.andThen];cases p<;>rfl
   have ae:∀f:Bool→Bool,(do pure (Value.bool (f (←Op.equal t (.pointer p) (.pointer none)))):Sem Value).run C.P w=.ok (.bool (f p.isNone)) w:=fun f=>by simp only[Sem.run_bind,he,Result.andThen];rfl
   cases op<;>simp only[IA,Option.some.injEq,reduceCtorEq]at a2;subst a2;exact ae id;subst a2;have:=ae not;cases p<;>exact this)
theorem Nw{t t':TypeId}{x y:Operand}{a b c:Int}(af:bp σ x=some (.int .i64 a))(aw:bp σ y=some (.int .i64 b))(aD:b≠0)(aq:a.tdiv b=c)(al:-9223372036854775808≤c∧c≤9223372036854775807):cz C σ ds I δ (.binOp .quo t x y t') (.int .i64 c):=
  tf af aw (fun _=>CF ..) (fun w=>by show(Op.intDiv .quo .i64 a b).run C.P w=_;unfold Op.intDiv;rw[if_neg aD];show Result.ok (Value.int .i64 (IntKind.i64.wrap (a.tdiv b))) w=_;rw[aq,Av al])
theorem agq{t t':TypeId}{x y:Operand}{a b c:Int}(af:bp σ x=some (.int .i64 a))(aw:bp σ y=some (.int .i64 b))(aD:b≠0)(aq:a.tmod b=c):cz C σ ds I δ (.binOp .rem t x y t') (.int .i64 c):=
  tf af aw (fun _=>CF ..) (fun w=>by show(Op.intDiv .rem .i64 a b).run C.P w=_;unfold Op.intDiv;rw[if_neg aD];show Result.ok (Value.int .i64 (a.tmod b)) w=_;rw[aq])
theorem E6{α β:Type}(f:α→β):∀(l:List α) (j:Nat),(l.eraseIdx j).map f=(l.map f).eraseIdx j
  | [],_=>rfl
  |_::_,0=>rfl
  |x::l,j+1=>by simp[E6 f l j]
theorem Us:∀(xs:bU) (j:Nat) (k:Int),(xs.map (·.1)).Nodup→(xs.map (·.1))[j]? =some k→∀q,dG (xs.eraseIdx j) q=if q=k then none else dG xs q
  | [],j,k,_,h,_=>by simp at h
  |p::r,0,k,aD,h,q=>by
   simp only[List.map_cons,List.getElem?_cons_zero,Option.some.injEq]at h;simp only[List.map_cons,List.nodup_cons]at aD;rw[List.eraseIdx_cons_zero];by_cases e:q=k;rw[if_pos e,AG,e,←h];exact aD.1;rw[if_neg e];obtain⟨a,v⟩:=p;simp only at h;have:¬a=q:=by rw[h];exact fun aT=>e aT.symm
   simp[dG,this]
  |p::r,j+1,k,aD,h,q=>by simp only[List.map_cons,List.getElem?_cons_succ]at h;simp only[List.map_cons,List.nodup_cons]at aD;rw[List.eraseIdx_cons_succ];obtain⟨a,v⟩:=p;have bk:a≠k:=fun e=>aD.1 (by rw[e];exact List.mem_of_getElem? h);have aY:=Us r j k aD.2 h q;by_cases e:a=q;have:¬q=k:=fun aT=>bk (e.trans aT);simp[dG,e,this];simp only[dG,e,if_false];exact aY
theorem Ut {t gy e:TypeId} {Nx:TypeId} {m x:Operand} {b:Nat} {xs:bU} {k:Int} {δ':bU→List ay} (ar:C.P.underlying t=some (.map gy e)) (hk:C.P.underlying gy=some (.int .i64))
    (hm:bp σ m=some (.map (some b))) (af:bp σ x=some (.int .i64 k)) (bK:∀ys,bc δ (.map b xs) (δ' ys) (.map b ys)) (di:∀ys,(∀q,dG ys q=if q=k then none else dG xs q)→aK C ops Q rest σ ds I (δ' ys)):
    aK C ops Q ({dst:=none,op:=.call {callee:=.builtin .delete,args:= #[m,x],argTypes:= #[t,Nx]},type:=ty,pos:=pos,after:=after,guard:=none}::rest) σ ds I δ:=
  Uq rfl rfl (by intro c aq;cases aq) (fun a w he ao=>by
   obtain⟨l,r,fi,fw⟩:=(bK []).split;obtain⟨es,clock,al,fZ⟩:=ao.dQ (.map b xs) (by rw[fi];simp);have hu:(underlying t).run C.P w=.ok (.map gy e) w:=by simp[underlying,program,Sem.run,ar]
   have aq:(Instr.checkKey es.isEmpty 10000 gy (.int .i64 k)).run C.P w=.ok () w:=MapKept.run_checkKey (w:=w) hk (k:=.int .i64 k) rfl es.isEmpty 9999;rcases CT es.toList xs k 0 fZ.n4 with⟨du,dy,gv⟩|⟨j,v0,jc,du,dy,gv,oa,p_,pa⟩
   have a7:=MapKept.run_findKey (w:=w) hk dy;have iO:=MapKept.heap_set (o':=.map es clock) al;obtain⟨s',t'⟩:=ao.swap (w':= {w with heap:=w.heap.setIfInBounds b (.map es clock)}) (bK xs) rfl rfl rfl (by simp) (fun c _ aq=>iO.2 c (fun e=>aq (by rw[e];rfl))) ⟨_,_,iO.1,fZ⟩ (fun c aq=>.inl aq);refine⟨.tuple #[],_,I,_,?_,s',t',di xs (fun q=>by split;(rename_i aC;rw[aC];exact du);rfl)⟩;simp[execOp,resolve,invoke,builtin,Builtin.delete_,he.cr hm,he.cr af,hu,MapKept.run_getObj_map al,aq,a7,MapKept.run_setObj_map _ al,Result.andThen];have a7:=MapKept.run_findKey (w:=w) hk dy;simp only[Nat.zero_add]at a7;have av:j<es.size:=by simpa using(List.getElem?_eq_some_iff.1 gv).1
   have hc:(es.eraseIdxIfInBounds j).toList=es.toList.eraseIdx j:=by simp[Array.eraseIdxIfInBounds,av]
   have agr:(xs.map (·.1))[j]? =some k:=by
    have:=congrArg (fun l=>l[j]?) fZ.n4;simp only[List.getElem?_map,gv,Option.map_some]at this
    cases af:xs[j]? with
    |none=>simp[af]at this
    |some p=>simp[af,oa]at this;simp[af,this]
   have E4:p7 (es.eraseIdxIfInBounds j) clock (xs.eraseIdx j):=by refine⟨?_,?_,?_,?_⟩;rw[hc,E6,E6,fZ.n4];rw[E6];exact fZ.keys.sublist (List.eraseIdx_sublist _ _);rw[hc,E6];exact fZ.born.sublist (List.eraseIdx_sublist _ _);intro x af;rw[hc]at af;exact fZ.xa x (List.mem_of_mem_eraseIdx af)
   have iO:=MapKept.heap_set (o':=.map (es.eraseIdxIfInBounds j) clock) al;obtain⟨s',t'⟩:=ao.swap (w':= {w with heap:=w.heap.setIfInBounds b (.map (es.eraseIdxIfInBounds j) clock)}) (bK (xs.eraseIdx j)) rfl rfl rfl (by simp) (fun c _ aq=>iO.2 c (fun e=>aq (by rw[e];rfl))) ⟨_,_,iO.1,E4⟩ (fun c aq=>.inl aq);refine⟨.tuple #[],_,I,_,?_,s',t',di _ (Us xs j k fZ.keys agr)⟩;simp[execOp,resolve,invoke,builtin,Builtin.delete_,he.cr hm,he.cr af,hu,MapKept.run_getObj_map al,aq,a7,MapKept.run_setObj_map _ al,Result.andThen])
def sj(l:List Nat)(A:List ay)(i:Nat):List ay:=bif l.elem i then A else[]
theorem AQ{l:List Nat}{A:List ay}(h:A.Sublist δ)(i:Nat):(sj l A i).Sublist δ:=by
 unfold sj;cases l.elem i;exact List.nil_sublist _;exact h
theorem yT{l:List Nat}{A:List ay}(h:∀x∈A,x∈δ)(i:Nat):∀x∈sj l A i,x∈δ:=by
 intro x af;unfold sj at af;cases aC:l.elem i;rw[aC]at af;cases af;rw[aC]at af;exact h x af
theorem I3{cm:aa}{l:List Nat}{A:List ay}{bR:h4}(az:bR.all (fun p=> !(l.elem p.1))=true)(ab:cm.le I):xe cm I (sj l A) bR δ:=fun p hm=>by have:=List.all_eq_true.1 az p hm;simp only[Bool.not_eq_true']at this;refine⟨ab,fun x af=> ?_⟩;unfold sj at af;rw[this]at af;cases af
end
section
variable {C:Ctx} {Q:Exit→Act→World→Prop} {σ:Env} {ds:List dN} {I:aa} {δ:List ay} {ops:Array Oper} {rest:List Oper}
variable {d:Nat} {ty:TypeId} {pos:String} {after:Array Edge}
theorem Uu{t:TypeId}{x y:Operand}{u i v:Value}(af:bp σ x=some u)(aw:bp σ y=some i)(h:∀w,(Instr.index t u i).run C.P w=.ok v w):
    cz C σ ds I δ (.index t x y) v:=
  fun _ _ _ _ _ a w he _=>by simp only[execOp,he.cr af,he.cr aw,Sem.run_bind,h,Result.andThen];rfl
theorem hq{t:TypeId}{parts:List (Nat×Operand)}{vs:List (Nat×Value)}{v:Value}(af:yN σ parts=some vs)(h:∀w,(Instr.build t vs.toArray).run C.P w=.ok v w):
    cz C σ ds I δ (.build t parts.toArray) v:=
  fun _ _ _ _ _ a w he _=>by
   have EY:parts.toArray.map (fun(x:Nat×Operand)=>match x with|(i,x)=>(i,a.eval x))=vs.toArray:=by rw[←Ni he af];simp
   simp only[execOp,EY,Sem.run_bind,h,Result.andThen];rfl
end
section
variable {C:Ctx} {Q:Exit→Act→World→Prop} {σ:Env} {ds:List dN} {I:aa} {δ:List ay} {ops:Array Oper} {rest:List Oper}
variable {d:Nat} {ty:TypeId} {pos:String} {after:Array Edge}
def Uv:BinOp→Option Nat→Option Bool
  |.eql,a=>some a.isNone
  |.neq,a=>some a.isSome
  |_,_=>none
theorem AR {op:BinOp} {t gy e:TypeId} {t':TypeId} {x y:Operand} {p:Option Nat} {z:Bool} (ar:C.P.underlying t=some (.map gy e))
    (af:bp σ x=some (.map p)) (aw:bp σ y=some (.map none)) (a2:Uv op p=some z):cz C σ ds I δ (.binOp op t x y t') (.bool z):=
  tf af aw (fun w=>by unfold eqGuard;cases op<;>rfl) (fun w=>by
   have hu:(underlying t).run C.P w=.ok (.map gy e) w:=by simp[underlying,program,Sem.run,ar]
   have he:(Op.equal t (.map p) (.map none)).run C.P w=.ok p.isNone w:=by show(Op.equalIn (9999+1) t (.map p) (.map none)).run C.P w=_;rw[Op.equalIn];simp only[Sem.run_bind,hu,Result.andThen];cases p<;>rfl
   have ae:∀f:Bool→Bool,(do pure (Value.bool (f (←Op.equal t (.map p) (.map none)))):Sem Value).run C.P w=.ok (.bool (f p.isNone)) w:=fun f=>by simp only[Sem.run_bind,he,Result.andThen];rfl
   cases op<;>simp only[Uv,Option.some.injEq,reduceCtorEq]at a2;subst a2;exact ae id;subst a2;have:=ae not;cases p<;>exact this)
theorem ags{t gy e:TypeId}{x:Operand}{v:Value}(ar:C.P.underlying t=some (.map gy e))(af:bp σ x=some v):cz C σ ds I δ (.makeInterface t x) (.iface t v):=
  fun _ _ _ _ _ a w he _=>by
   have hu:(underlying t).run C.P w=.ok (.map gy e) w:=by simp[underlying,program,Sem.run,ar]
   simp[execOp,he.cr af,Instr.makeInterface,hu,Result.andThen]
theorem agt{t agu gy e:TypeId}{x:Operand}{v:Value}(ar:C.P.underlying t=some (.map gy e))(af:bp σ x=some (.iface t v)):cz C σ ds I δ (.typeAssert x agu t false) v:=
  fun _ _ _ _ _ a w he _=>by
   have hu:(underlying t).run C.P w=.ok (.map gy e) w:=by simp[underlying,program,Sem.run,ar]
   simp[execOp,he.cr af,Instr.typeAssert,hu,Result.andThen]
theorem qh {C:Ctx} {σ:Env} {ds:List dN} {I:aa} {δ:List ay} {t e:TypeId} {x y:Operand} {b n i size:Nat} (ar:C.P.underlying t=some (.array n e)) (bD:(C.P.info? e).map (·.size)=some size)
    (af:bp σ x=some (.pointer (some ⟨b,0,none⟩))) (aw:bp σ y=some (.int .i64 (i:Int))) (aj:i<n):cz C σ ds I δ (.indexAddr t x y) (.pointer (some ⟨b,i*size,none⟩)):=
  fun _ _ _ _ _=>(fun a w he _=>by
   have hu:(underlying t).run C.P w=.ok (.array n e) w:=by simp[underlying,program,Sem.run,ar]
   cases aC:C.P.info? e with
   |none=>simp[aC]at bD
   |some inf=>simp[aC]at bD;simp[execOp,he.cr af,he.cr aw,Instr.indexAt,asIntOf,hu,Instr.sureAddr,sizeOf,typeInfo,program,Sem.run,aC,bD,Addr.add];split;simp;intro q;exact q.symm;omega)
theorem agv {f:FuncId} {fn:Func} {t:TypeId} {x:Operand} {lv:Array TypeId} {b:Nat} {xs:bU}
    (a7:C.P.funcs[f]? =some fn) (agw:(fn.name== "runtime.NumGoroutine")=false) (al:fn.body.isNone=true) (aD:Extern.findNext fn=none) (he:Extern.find fn=some Extern.MapsClone.clone)
    (aH:Nat.blt d C.n=true) (af:bp σ x=some (.iface t (.map (some b)))) (bK:Has δ (.map b xs))
    (k:∀b',aK C ops Q rest ((d,.iface t (.map (some b')))::σ) ds I (.map b' xs::δ)):
    aK C ops Q ({dst:=some d,op:=.call {callee:=.value (.func f),args:= #[x],argTypes:=lv},type:=ty,pos:=pos,after:=after,guard:=none}::rest) σ ds I δ:=
  q5 rfl rfl aH (by intro c aq;cases aq) (fun a w o_ ao=>by
   obtain⟨es,clock,uM,hm⟩:=ao.dQ _ bK.mem;obtain⟨s',t'⟩:=ao.alloc (.map w.heap.size xs) (.map es clock) rfl ⟨es,clock,heap_alloc_new w _,hm⟩;refine⟨_,_,_,_,?_,s',t',k w.heap.size⟩
   have aQ:Extern.MapsClone.clone #[.iface t (.map (some b))]=(getObj b>>=fun o=>match o with
     |.map entries clock=>(newObj (.map entries clock)>>=fun n=>pure (.iface t (.map (some n))))
     |_=>stuck "maps.clone: a map expected"):=rfl
   have aT:(Extern.MapsClone.clone #[.iface t (.map (some b))]).run C.P w=.ok (.iface t (.map (some w.heap.size))) (w.alloc (.map es clock)):=by rw[aQ];simp[MapKept.run_getObj_map uM,Result.andThen,newObj,Sem.run]
   have dA:(callFunc f #[.iface t (.map (some b))]).run C.P w=.ok (.value (.iface t (.map (some w.heap.size)))) (w.alloc (.map es clock)):=by rw[run_callFunc_extern a7 agw al aD he,aT];rfl
   have oh:(execOp a.eval {dst:=some d,op:=.call {callee:=.value (.func f),args:= #[x],argTypes:=lv},type:=ty,pos:=pos,after:=after,guard:=none}).run C.P w=(callFunc f #[.iface t (.map (some b))]).run C.P w:=by have xi:a.eval (.func f)=.func (.func f) #[] #[]:=rfl;simp only[execOp,resolve,Sem.run_bind,Sem.run_pure,Result.andThen];simp[o_.cr af,xi,Deferred.ofValue,invoke,Result.andThen]
   rw[oh,dA])
end
section
theorem agx {F:Fence} {n:Nat} {P:Program} {Q:Exit→Act→World→Prop} {X:Type} {r:X→X→Prop} (ib:WellFounded r) {c:Code} (J:X→Act→World→Prop)
 (round:∀x a w,J x a w→c.wpIn F n P (Exit.then (fun eQ w'=>∃y,r y x∧J y eQ w') Q) a w):∀x a w,J x a w→(Code.loop c).wpIn F n P Q a w:=by
 intro x a w aB b k cs CW al an
 have key:∀x a w,J x a w→∃e eQ w',Q e eQ w'∧ArrivesIn (Machine.fenced P F) P (lone (b.atR a (.code c:: .inLoop c::k)) cs w) b k cs e eQ w':=by
  intro x
  induction x using ib.induction with
  |_ x aY=>
   intro a w iq;obtain⟨e,re,rf,aC,qi⟩:=round x a w iq b (.inLoop c::k) cs CW al an
   cases e with
   |normal=>obtain⟨y,av,agy⟩:=aC;obtain⟨agz,agA,IM,agB,agC⟩:=aY y av re rf agy;exact⟨agz,agA,IM,agB,.of_steps (StepsIn.trans qi (.one (fenced_calm al an rfl) stepR_inLoop)) agC⟩
   |exit id=>exact⟨_,re,rf,aC,.pass (x:=.inLoop c) rfl (fun _ _=>.inl (by simp)) qi⟩
   |goto l=>exact⟨_,re,rf,aC,.pass (x:=.inLoop c) rfl (fun _ _=>.inl (by simp)) qi⟩
   |ret=>exact⟨_,re,rf,aC,.pass (x:=.inLoop c) rfl (fun _ _=>.inl (by simp)) qi⟩
   |panic h3=>exact⟨_,re,rf,aC,.pass (x:=.inLoop c) rfl (fun _ _=>.inl (by simp)) qi⟩
   |outgrown=>exact⟨_,re,rf,aC,.pass (x:=.inLoop c) rfl (fun _ _=>.inl (by simp)) qi⟩
 obtain⟨e,eQ,w',aC,qi⟩:=key _ a w aB;exact⟨e,eQ,w',aC,.of_steps (.one (fenced_calm al an rfl) stepR_loop) qi⟩
variable {C:Ctx} {Q:Exit→Act→World→Prop} {σ:Env} {ds:List dN} {I:aa} {δ:List ay} {ops:Array Oper} {rest:List Oper}
def I4{X:Type}(r:X→X→Prop)(C:Ctx)(ds:List dN)(Inv:X→Env→aa→List ay→Prop)(x:X):Act→World→Prop:=fun a w=>
  ∃y,r y x∧∃aL ai δ',Inv y aL ai δ'∧gq C.n aL ds a∧Sat w ai δ'∧er C.aG C.I0 C.cl w ai δ'
theorem agD {X:Type} {r:X→X→Prop} (an:WellFounded r) {c:Code} (Inv:X→Env→aa→List ay→Prop) (oi:X) (kT:Env) (aB:Inv oi kT I δ) (bT:m3 kT σ)
    (round:∀x aL ai δ',Inv x aL ai δ'→bJ C c (Exit.then (I4 r C ds Inv x) Q) aL ds ai δ'):bJ C (.loop c) Q σ ds I δ:=fun a w he ao ar=>
  agx an (fun x a w=>∃aL ai δ',Inv x aL ai δ'∧gq C.n aL ds a∧Sat w ai δ'∧er C.aG C.I0 C.cl w ai δ')
    (fun x a w ⟨aL,ai,δ',aj,o_,kt,l1⟩=>round x aL ai δ' aj a w o_ kt l1) oi a w ⟨kT,I,δ,aB,he.sub bT,ao,ar⟩
theorem agE{X:Type}{r:X→X→Prop}{Inv:X→Env→aa→List ay→Prop}{x:X}(y:X)(aL:Env)(av:r y x)(aj:Inv y aL I δ)(bT:m3 aL σ):
    bf C (Exit.then (I4 r C ds Inv x) Q) .normal σ ds I δ:=
  fun _ _ he ao ar=>⟨y,av,aL,I,δ,aj,he.sub bT,ao,ar⟩
abbrev po(eS:Value):List PanicEntry:= [{v:=eS,recovered:=false}]
def ri(eS:Value)(aG:World)(I:aa)(δ:List ay)(R:Value→aa→List ay→Prop)(X:aa→List ay→Prop):Ending→World→Prop:=fun e w'=>
  (∃v ai δ',e=.returned v∧Sat w' ai δ'∧er aG I δ w' ai δ'∧R v ai δ')∨(∃ai δ',e=.panicked (po eS)∧Sat w' ai δ'∧er aG I δ w' ai δ'∧X ai δ')
def j1(P:Program)(eS:Value)(f:FuncId)(args:List Value)(I:aa)(δ:List ay)(R:Value→aa→List ay→Prop)(X:aa→List ay→Prop):Prop:=
  ∀w,Sat w I δ→Calls P f args.toArray w (ri eS w I δ R X)
def yU(P:Program)(eS b1:Value)(args:List Value)(I:aa)(δ:List ay)(R:Value→aa→List ay→Prop)(X:aa→List ay→Prop):Prop:=
  ∀w,Sat w I δ→TH P b1 args.toArray w (ri eS w I δ R X)
theorem yU.fq{P:Program}{eS:Value}{f:FuncId}{caps args:List Value}{R:Value→aa→List ay→Prop}{X:aa→List ay→Prop}(az:eb P f=true)(h:j1 P eS f (args++caps) I δ R X):
 yU P eS (.func (.func f) #[] caps.toArray) args I δ R X:=by
 intro w ao;refine⟨{target:=.fn (.func f) caps.toArray,args:=args.toArray},by simp[Deferred.ofValue],.inl ⟨f,(args++caps).toArray,?_,h w ao⟩⟩;simp only[invoke];rw[Aq az];simp
theorem E7 {d:Nat} {x:Operand} {xs:List Operand} {lv:Array TypeId} {ty:TypeId} {pos:String} {after:Array Edge} {b1 eS:Value} {vs:List Value} {fv δr:List ay} {R:Value→aa→List ay→Prop} {X:aa→List ay→Prop}
 (af:bp σ x=some b1) (fJ:lq σ xs=some vs) (aH:Nat.blt d C.n=true) (ao:yU C.P eS b1 vs I fv R X) (az:df δ fv δr)
 (E8:∀ai δ',I.le ai→X ai δ'→bf C Q (.panic (po eS)) σ ds ai (δ'++δr))
 (k:∀v ai δ',I.le ai→R v ai δ'→aK C ops Q rest ((d,v)::σ) ds ai (δ'++δr)):
 aK C ops Q ({dst:=some d,op:=.call {callee:=.value x,args:=xs.toArray,argTypes:=lv},type:=ty,pos:=pos,after:=after,guard:=none}::rest) σ ds I δ:=by
 intro a w he gg ar;have td:=gg.perm az;have te:=ar.kr az;have fl:Sat w I fv:=by have al:eg (fv++δr)=eg fv++eg δr:=List.filterMap_append;have eY:=td.nodup;rw[al,List.nodup_append]at eY;exact⟨td.gE,fun y aw=>td.dQ y (List.mem_append_left _ aw),eY.1,fun b g3=>td.apart b (by rw[al];exact List.mem_append_left _ g3)⟩
 obtain⟨Ar,As,iM⟩:=ao w fl;have It:xs.toArray.map a.eval=vs.toArray:=by simp[he.EF fJ]
 have MR:(resolve a.eval {callee:=.value x,args:=xs.toArray,argTypes:=lv} ty).run C.P w=.ok Ar w:=by simp only[resolve,It,he.cr af];exact As
 refine wpListIn_plain rfl fun K eZ=> ?_;unfold Oper.wpIn;refine⟨fun _ _=>trivial,?_⟩;rw[semAt_eq _ _ _ (by intro c aq;cases aq)];have hk:∀v jE,(∃jb ai δ',v=jb∧Sat jE ai δ'∧er w I fv jE ai δ'∧R jb ai δ')→K (a.put (some d) v) jE:=by rintro v jE ⟨jb,ai,δ',rfl,ae,aF,bb⟩;obtain⟨f1,f2⟩:=frame td ae aF;exact eZ _ _ (k v ai δ' aF.gE bb _ _ (he.put aH v) f1 (te.trans f2))
 have lr:∀jE,(∃ai δ',Sat jE ai δ'∧er w I fv jE ai δ'∧X ai δ')→Q (.panic (po eS)) a jE:=by rintro jE ⟨ai,δ',ae,aF,bb⟩;obtain⟨f1,f2⟩:=frame td ae aF;exact E8 ai δ' aF.gE bb _ _ he f1 (te.trans f2)
 have hex:(execOp a.eval {dst:=some d,op:=.call {callee:=.value x,args:=xs.toArray,argTypes:=lv},type:=ty,pos:=pos,after:=after,guard:=none}).run C.P w=(invoke Ar.target Ar.args).run C.P w:=by simp only[execOp,Sem.run_bind,MR,Result.andThen]
 rw[hex];rcases iM with⟨f,e7,ab,ae⟩|⟨l,f,tmps,e7,body,ab,ae⟩
 rw[ab,Oper.uponIn_enter];refine⟨fun h=>(by simp[Ctx.F,Fence.wide]at h),(MQ ae).mono fun e jE an=> ?_⟩;rcases an with⟨v,ai,δ',rfl,bb⟩|⟨ai,δ',rfl,bb⟩
 exact hk v jE ⟨v,ai,δ',rfl,bb⟩;exact lr jE ⟨ai,δ',bb⟩;rw[ab,Oper.uponIn_round];refine⟨fun h=>(by simp[Ctx.F,Fence.wide]at h),(TI ae).mono fun e jE an=> ?_⟩;rcases an with⟨v,ai,δ',rfl,bb⟩|⟨ai,δ',rfl,bb⟩
 exact hk v jE ⟨v,ai,δ',rfl,bb⟩;exact lr jE ⟨ai,δ',bb⟩
theorem agF {d:Nat} {f:FuncId} {xs:List Operand} {lv:Array TypeId} {ty:TypeId} {pos:String} {after:Array Edge} {eS:Value} {vs:List Value} {fv δr:List ay} {R:Value→aa→List ay→Prop} {X:aa→List ay→Prop}
    (dr:eb C.P f=true) (fJ:lq σ xs=some vs) (aH:Nat.blt d C.n=true) (ao:j1 C.P eS f vs I fv R X) (az:df δ fv δr)
    (E8:∀ai δ',I.le ai→X ai δ'→bf C Q (.panic (po eS)) σ ds ai (δ'++δr))
    (k:∀v ai δ',I.le ai→R v ai δ'→aK C ops Q rest ((d,v)::σ) ds ai (δ'++δr)):
    aK C ops Q ({dst:=some d,op:=.call {callee:=.value (.func f),args:=xs.toArray,argTypes:=lv},type:=ty,pos:=pos,after:=after,guard:=none}::rest) σ ds I δ:=
  E7 rfl fJ aH (yU.fq (caps:= []) dr (by simpa using ao)) az E8 k
theorem Uw{K:Act→World→Prop}{h3:List PanicEntry}(h:bf C Q (.panic h3) σ ds I δ):bf C (Exit.then K Q) (.panic h3) σ ds I δ:=h
theorem j1.intro {P:Program} {eS:Value} {f:FuncId} {fn:Func} {c:Code} {n:Nat} {args:List Value} {R:Value→aa→List ay→Prop} {X:aa→List ay→Prop} (a7:P.funcs[f]? =some fn) (al:fn.body=some c) (aD:fn.ntmps=n) (hle:Nat.ble args.length n=true)
 (h:∀aG,bJ ⟨P,none,n,aG,I,δ⟩ c (bodyPostM Fence.wide 0 P fn (ri eS aG I δ R X)) (Aw 0 args) [] I δ):j1 P eS f args I δ R X:=by
 intro w ao;refine(callsIn_wide (n:=0)).1 (callsIn_of_wp_marks a7 al trivial ?_ rfl);have TQ:args.length≤n:=by simpa[Nat.ble_eq]using hle
 refine h w _ w ⟨by simp[aD];omega,fun d v aH=> ?_,rfl⟩ ao (er.refl _ _ _);obtain⟨_,ae⟩:=M1 args 0 d v aH;have av:d<args.length:=(List.getElem?_eq_some_iff.1 (by simpa using ae)).1;rw[Array.getElem?_append_left (by simpa using av)];simpa using ae
theorem Ux {P:Program} {eS:Value} {fn:Func} {r:Option Nat} {n:Nat} {aG:World} {I0:aa} {cl dx:List ay} {R:Value→aa→List ay→Prop} {X:aa→List ay→Prop} {rs:List ResultVar} {vs:List Value}
 (a7:fn.results=rs.toArray) (ax:m4 P σ δ rs vs) (bT:View I δ I dx) (bL:R (dF vs) I dx):
 bf ⟨P,r,n,aG,I0,cl⟩ (bodyPostM Fence.wide 0 P fn (ri eS aG I0 cl R X)) .ret σ [] I δ:=by
 intro a w he ao ar;show LeavesInM Fence.wide 0 P fn a.tmps _ a.defers .returning w;rw[he.defers];exact⟨dF vs,M0 he (fun x af=>ao.dQ x af) a7 ax,.inl ⟨dF vs,I,dx,rfl,(bT w ao).1,ar.trans (bT w ao).2,bL⟩⟩
theorem agG {P:Program} {eS:Value} {fn:Func} {r:Option Nat} {n:Nat} {aG:World} {I0:aa} {cl dx:List ay} {R:Value→aa→List ay→Prop} {X:aa→List ay→Prop} {rs:List ResultVar} {vs:List Value}
    (a7:fn.results=rs.toArray) (ax:m4 P σ δ rs vs) (bT:View I δ I dx) (bL:R (dF vs) I dx):
    bf ⟨P,r,n,aG,I0,cl⟩ (bodyPostM Fence.wide 0 P fn (ri eS aG I0 cl R X)) .normal σ [] I δ:=
  Ux (r:=r) a7 ax bT bL
theorem agH {P:Program} {eS:Value} {fn:Func} {r:Option Nat} {n:Nat} {aG:World} {I0:aa} {cl dx:List ay} {R:Value→aa→List ay→Prop} {X:aa→List ay→Prop}
 (bT:View I δ I dx) (oj:X I dx):bf ⟨P,r,n,aG,I0,cl⟩ (bodyPostM Fence.wide 0 P fn (ri eS aG I0 cl R X)) (.panic (po eS)) σ [] I δ:=by
 intro a w he ao ar;show LeavesInM Fence.wide 0 P fn a.tmps _ a.defers (.panicking (po eS)) w;rw[he.defers];exact .inr ⟨I,dx,rfl,(bT w ao).1,ar.trans (bT w ao).2,oj⟩
def xl(C:Ctx)(Q:Exit→Act→World→Prop)(h3:List PanicEntry)(ds:List dN)(I:aa)(δ:List ay):Prop:=
  ∀a w,a.defers=marksOf ds→Sat w I δ→er C.aG C.I0 C.cl w I δ→Q (.panic h3) a w
theorem tp{h3:List PanicEntry}(h:xl C Q h3 ds I δ):bf C Q (.panic h3) σ ds I δ:=fun a w he ao ar=>h a w he.defers ao ar
theorem CX{K:Act→World→Prop}{h3:List PanicEntry}(h:xl C Q h3 ds I δ):bf C (Exit.then K (q9 Q)) (.panic h3) σ ds I δ:=fun _ w he ao ar a bk=>h a w (bk.trans he.defers) ao ar
theorem nD{K:Act→World→Prop}{h3:List PanicEntry}(h:xl C Q h3 ds I δ):xl C (Exit.then K Q) h3 ds I δ:=h
theorem nE{id:Nat}{h3:List PanicEntry}(h:xl C Q h3 ds I δ):xl C (Exit.inBlock id Q) h3 ds I δ:=h
theorem agI {P:Program} {eS:Value} {fn:Func} {r:Option Nat} {n:Nat} {aG:World} {I0:aa} {cl dx:List ay} {R:Value→aa→List ay→Prop} {X:aa→List ay→Prop}
 (bT:View I δ I dx) (oj:X I dx):xl ⟨P,r,n,aG,I0,cl⟩ (bodyPostM Fence.wide 0 P fn (ri eS aG I0 cl R X)) (po eS) [] I δ:=by
 intro a w he ao ar;show LeavesInM Fence.wide 0 P fn a.tmps _ a.defers (.panicking (po eS)) w;rw[he];exact .inr ⟨I,dx,rfl,(bT w ao).1,ar.trans (bT w ao).2,oj⟩
theorem j1.mono{P:Program}{eS:Value}{f:FuncId}{args:List Value}{R R':Value→aa→List ay→Prop}{X E9:aa→List ay→Prop}(h:j1 P eS f args I δ R X)(an:∀v ai δ',I.le ai→R v ai δ'→R' v ai δ')(af:∀ai δ',I.le ai→X ai δ'→E9 ai δ'):j1 P eS f args I δ R' E9:=
  fun w ao=>(h w ao).mono fun _ _ aC=>by
   rcases aC with⟨v,ai,δ',ab,ae,aF,bb⟩|⟨ai,δ',ab,ae,aF,bb⟩
   exact .inl ⟨v,ai,δ',ab,ae,aF,an _ _ _ aF.gE bb⟩;exact .inr ⟨ai,δ',ab,ae,aF,af _ _ aF.gE bb⟩
theorem agJ {o:Oper} {v:Value} (aM:o.guard=none) (eY:∀c,o.op≠ .defer c)
 (iM:∀a w,gq C.n σ ds a→Sat w I δ→(execOp a.eval o).run C.P w=.halt (.panic v) w) (k:bf C Q (.panic (po v)) σ ds I δ):aK C ops Q (o::rest) σ ds I δ:=by
 intro a w he ao ar;refine wpListIn_plain aM fun K eZ=> ?_;unfold Oper.wpIn;refine⟨fun _ _=>trivial,?_⟩;rw[semAt_eq _ _ _ eY,iM a w he ao,Oper.uponIn_panic];exact k a w he ao ar
end
section
inductive j2:List ay→List ay→Prop
  |nil {m:List ay}:j2 [] m
  |cons {x:ay} {l m eI:List ay} (h:aO m x eI) (t:j2 l eI):j2 (x::l) m
theorem j2.rfl:∀{l:List ay},j2 l l
  | []=>.nil
  |_::_=>.cons .here j2.rfl
theorem j2.skip{x:ay}:∀{l m:List ay},j2 l m→j2 l (x::m)
  |_,_,.nil=>.nil
  |_,_,.cons h t=>.cons (.there h) t.skip
theorem j2.split:∀{l m:List ay},j2 l m→∃r,m.Perm (l++r)
  |_,m,.nil=>⟨m,List.Perm.refl _⟩
  |_,_,.cons h t=>by obtain⟨r,an⟩:=t.split;exact⟨r,h.perm.trans (List.Perm.cons _ an)⟩
variable {C:Ctx} {Q:Exit→Act→World→Prop} {σ:Env} {ds:List dN} {I:aa} {δ δ':List ay} {ops:Array Oper} {rest:List Oper}
theorem j2.view(h:j2 δ' δ):View I δ I δ':=by
 obtain⟨r,an⟩:=h.split;exact(View.perm an).trans (View.sub (List.sublist_append_left _ _))
theorem hS(h:j2 δ' δ:=by(repeat (first|exact j2.nil|refine j2.cons (by(repeat (first|exact aO.here|apply aO.there));first|done|fail) ?_|exact j2.rfl|refine j2.skip ?_));first|done|fail):View I δ I δ':=h.view
theorem v7:View I δ I δ:=View.sub (List.Sublist.refl _)
theorem fQ{α:Type}{l m:List α}(h:l.Sublist m:=by repeat (first|exact List.Sublist.refl _|exact List.nil_sublist _|apply List.Sublist.cons_cons|apply List.Sublist.cons)):l.Sublist m:=h
theorem j2.mem:∀{l m:List ay},j2 l m→∀x∈l,x∈m
  |_,_,.nil=>fun x af=>by cases af
  |_,_,.cons h t=>fun x af=>by
   rcases List.mem_cons.1 af with rfl|af
   exact h.perm.mem_iff.2 (List.mem_cons_self ..);exact h.perm.mem_iff.2 (List.mem_cons_of_mem _ (t.mem x af))
theorem v8{l:List ay}(h:j2 l δ:=by(repeat (first|exact j2.nil|refine j2.cons (by(repeat (first|exact aO.here|apply aO.there));first|done|fail) ?_|exact j2.rfl|refine j2.skip ?_));first|done|fail):∀x∈l,x∈δ:=h.mem
theorem Uy{cm:aa}{k:Nat}{A B:List ay}{bR:h4}(aB:cm.le I)(ab:∀x∈A,x∈δ)(ae:∀x∈B,x∈δ):xe cm I (two k A B) bR δ:=fun p _=>⟨aB,fun x af=>by unfold two at af;cases aC:Nat.blt p.1 k<;>rw[aC]at af;exact ae x af;exact ab x af⟩
theorem bJ.yV {v_:Code} {v:Value} {e:TypeId} {size n:Nat} {xs:List Value} {δ':List ay} (aH:aO δ (.row v e size n xs) δ')
 (h:∀ai ad cap,I.le ai→v=.slice ad n cap→n≤cap→xs.length=n*size→Cells ai ad xs→bJ C v_ Q σ ds ai δ'):bJ C v_ Q σ ds I δ:=by
 intro a w he ao ar;have ab:=ao.perm aH.perm;have t1:=ar.kr aH.perm;obtain⟨aA,af⟩:w.ownsRow 0 e size v n xs:=ab.dQ _ (List.mem_cons_self ..);rcases af with⟨rfl,rfl⟩|⟨g,cap,cur,rfl,_,bK,lu,_,fl,fb⟩
 obtain⟨s2,t2⟩:=ab.drop;have r9:xs= []:=List.eq_nil_of_length_eq_zero (by omega);subst r9;exact h I none 0 (aa.le_refl _) rfl (Nat.le_refl _) aA (fun j v au=>by simp at au) a w he s2 (t1.trans t2);obtain⟨s2,t2,hle⟩:=ab.freeze (b:=g) rfl bK;refine h (I.ins g _) (some ⟨g,0,none⟩) cap hle rfl lu aA (fun j v au=> ?_) a w he s2 (t1.trans t2);have ks:(⟨g,0,none⟩:Addr).add j=⟨g,j,none⟩:=by unfold Addr.add;split<;>simp_all
 have MO:j<n*size:=by rw[←aA];exact(List.getElem?_eq_some_iff.1 au).1
 rw[←fb]at au;rw[List.getElem?_take_of_lt MO]at au;simp only[Option.map_some,aa.nw,aa.cell,ks,aa.ins,if_true];simpa using au
inductive xm:List ay→List ay→List ay→Prop
  |nil {δ:List ay}:xm δ [] δ
  |cons {x:ay} {δ dx l δr:List ay} (h:aO δ x dx) (t:xm dx l δr):xm δ (x::l) δr
theorem xm.parts:∀{δ fv δr:List ay},xm δ fv δr→df δ fv δr
  |_,_,_,.nil=>List.Perm.refl _
  |_,_,_,.cons h t=>h.perm.trans (List.Perm.cons _ t.parts)
theorem js{fv δr:List ay}(h:xm δ fv δr:=by repeat (first|exact xm.nil|(apply xm.cons;repeat (first|exact aO.here|apply aO.there))|exact xm.all)):df δ fv δr:=h.parts
theorem ec{Inv:Nat→Env→aa→List ay→Prop}{m eI:Nat}{aL:Env}(aj:Inv eI aL I δ')(bT:m3 aL σ)(av:eI<m:=by omega)(ax:View I δ I δ':=by exact hS):
    bf C (Exit.then (Iw C ds Inv m) Q) .normal σ ds I δ:=bf.view ax (cV eI aL av aj bT)
theorem I5{X:Type}{r:X→X→Prop}{Inv:X→Env→aa→List ay→Prop}{x y:X}{aL:Env}(av:r y x)(aj:Inv y aL I δ')(bT:m3 aL σ)(ax:View I δ I δ':=by exact hS):
    bf C (Exit.then (I4 r C ds Inv x) Q) .normal σ ds I δ:=bf.view ax (agE y aL av aj bT)
theorem fS{M:Env→aa→List ay→Prop}{aL:Env}(hm:M aL I δ')(bT:m3 aL σ)(ax:View I δ I δ':=by exact hS):bf C (Exit.then (MS C ds M) Q) .normal σ ds I δ:=
  bf.view ax (q6 aL hm bT)
theorem fD {c:Code} (Inv:Nat→Env→aa→List ay→Prop) {uN:Nat} {kT:Env} (aB:Inv uN kT I δ') (bT:m3 kT σ)
    (round:∀m aL ai δ',Inv m aL ai δ'→bJ C c (Exit.then (Iw C ds Inv m) Q) aL ds ai δ') (ax:View I δ I δ':=by exact hS):bJ C (.loop c) Q σ ds I δ:=
  bJ.view ax (ek Inv uN kT aB bT round)
theorem Uz {X:Type} {r:X→X→Prop} (an:WellFounded r) {c:Code} (Inv:X→Env→aa→List ay→Prop) {oi:X} {kT:Env} (aB:Inv oi kT I δ') (bT:m3 kT σ)
    (round:∀x aL ai δ',Inv x aL ai δ'→bJ C c (Exit.then (I4 r C ds Inv x) Q) aL ds ai δ') (ax:View I δ I δ':=by exact hS):bJ C (.loop c) Q σ ds I δ:=
  bJ.view ax (agD an Inv oi kT aB bT round)
theorem hd {P:Program} {fn:Func} {r:Option Nat} {n:Nat} {aG:World} {I0:aa} {cl:List ay} {R:Value→aa→List ay→Prop} {rs:List ResultVar} {vs:List Value}
 (a7:fn.results=rs.toArray) (ax:m4 P σ δ rs vs) (bL:R (dF vs) I δ') (hw:View I δ I δ':=by exact hS):
 bf ⟨P,r,n,aG,I0,cl⟩ (bodyPostM Fence.wide 0 P fn (h_ aG I0 cl R)) .ret σ [] I δ:=by
 intro a w he ao ar;show LeavesInM Fence.wide 0 P fn a.tmps _ a.defers .returning w;rw[he.defers];exact⟨dF vs,M0 he (fun x af=>ao.dQ x af) a7 ax,dF vs,I,δ',rfl,(hw w ao).1,ar.trans (hw w ao).2,bL⟩
theorem lA {P:Program} {fn:Func} {r:Option Nat} {n:Nat} {aG:World} {I0:aa} {cl:List ay} {R:Value→aa→List ay→Prop}
    (a7:fn.results= #[]) (bL:R (.tuple #[]) I δ') (hw:View I δ I δ':=by exact hS):
    bf ⟨P,r,n,aG,I0,cl⟩ (bodyPostM Fence.wide 0 P fn (h_ aG I0 cl R)) .normal σ [] I δ:=
  hd (r:=r) (rs:= []) (vs:= []) a7 .nil bL hw
theorem Ny {P:Program} {eS:Value} {fn:Func} {r:Option Nat} {n:Nat} {aG:World} {I0:aa} {cl:List ay} {R:Value→aa→List ay→Prop} {X:aa→List ay→Prop} {rs:List ResultVar} {vs:List Value}
    (a7:fn.results=rs.toArray) (ax:m4 P σ δ rs vs) (bL:R (dF vs) I δ') (hw:View I δ I δ':=by exact hS):
    bf ⟨P,r,n,aG,I0,cl⟩ (bodyPostM Fence.wide 0 P fn (ri eS aG I0 cl R X)) .ret σ [] I δ:=Ux a7 ax hw bL
theorem uY {P:Program} {eS:Value} {fn:Func} {r:Option Nat} {n:Nat} {aG:World} {I0:aa} {cl:List ay} {R:Value→aa→List ay→Prop} {X:aa→List ay→Prop}
    (a7:fn.results= #[]) (bL:R (.tuple #[]) I δ') (hw:View I δ I δ':=by exact hS):
    bf ⟨P,r,n,aG,I0,cl⟩ (bodyPostM Fence.wide 0 P fn (ri eS aG I0 cl R X)) .normal σ [] I δ:=agG (rs:= []) (vs:= []) a7 .nil hw bL
theorem qj {P:Program} {eS:Value} {fn:Func} {r:Option Nat} {n:Nat} {aG:World} {I0:aa} {cl:List ay} {R:Value→aa→List ay→Prop} {X:aa→List ay→Prop}
    (oj:X I δ') (hw:View I δ I δ':=by exact hS):xl ⟨P,r,n,aG,I0,cl⟩ (bodyPostM Fence.wide 0 P fn (ri eS aG I0 cl R X)) (po eS) [] I δ:=agI hw oj
theorem UA {P:Program} {eS:Value} {fn:Func} {r:Option Nat} {n:Nat} {aG:World} {I0:aa} {cl:List ay} {R:Value→aa→List ay→Prop} {X:aa→List ay→Prop}
    (oj:X I δ') (hw:View I δ I δ':=by exact hS):bf ⟨P,r,n,aG,I0,cl⟩ (bodyPostM Fence.wide 0 P fn (ri eS aG I0 cl R X)) (.panic (po eS)) σ [] I δ:=agH hw oj
end
section
variable {C:Ctx} {Q:Exit→Act→World→Prop} {σ:Env} {ds:List dN} {I:aa} {δ δ':List ay} {ops:Array Oper} {rest:List Oper}
theorem UB {c:Code} (Inv:Nat→Env→List dN→aa→List ay→Prop) {uN:Nat} {kT:Env} (aB:Inv uN kT ds I δ') (bT:m3 kT σ)
    (round:∀m aL c0 ai δ',Inv m aL c0 ai δ'→bJ C c (Exit.then (IP C Inv m) Q) aL c0 ai δ') (ax:View I δ I δ':=by exact hS):bJ C (.loop c) Q σ ds I δ:=
  bJ.view ax (Uc Inv uN kT aB bT round)
theorem E_{Inv:Nat→Env→List dN→aa→List ay→Prop}{m eI:Nat}{aL:Env}(aj:Inv eI aL ds I δ')(bT:m3 aL σ)(av:eI<m:=by omega)(ax:View I δ I δ':=by exact hS):
    bf C (Exit.then (IP C Inv m) Q) .normal σ ds I δ:=bf.view ax (Ud eI aL av aj bT)
theorem agK {P:Program} {fn:Func} {r:Option Nat} {n:Nat} {aG:World} {I0:aa} {cl:List ay} {R:Value→aa→List ay→Prop} {rs:List ResultVar} {vs:List Value}
    (a7:fn.results=rs.toArray) (ax:m4 P σ δ' rs vs) (bL:R (dF vs) I δ') (hw:View I δ I (δ'++q8 ds):=by exact hS):
    bf ⟨P,r,n,aG,I0,cl⟩ (bodyPostM Fence.wide 0 P fn (h_ aG I0 cl R)) .ret σ ds I δ:=bf.view hw (dv (r:=r) a7 List.perm_append_comm ax (List.Sublist.refl _) bL)
theorem Nz{l:Nat}{r:Loop}{aG:World}{I0:aa}{cl cI:List ay}{R:Value→aa→List ay→Prop}(an:r.state=.ready)(az:r.pending=none)(bL:R (.bool true) I (.obj l (.loop r)::cI))(ax:View I δ I (.obj l (.loop {r with state:=.busy})::cI):=by exact hS)(aB:C.aG=aG∧C.I0=I0∧C.cl=cl:=by exact⟨rfl,rfl,rfl⟩):
    bf C (roundPost C.P l (h_ aG I0 cl R)) .normal σ ds I δ:=bf.view ax (oc bc.here an az bL aB)
theorem agL{x:Operand}{A:Option Addr}{m:Nat}(af:bp σ x=some (dh A m))(bo:A.isSome=true:=by assumption):cz C σ ds I δ (.nilCheck x) (dh A m):=by
 obtain⟨a0,rfl⟩:=Option.isSome_iff_exists.1 bo;exact TK af
end
end Go.Proofs.YtciibkomnoicdaaGreat.Lg
