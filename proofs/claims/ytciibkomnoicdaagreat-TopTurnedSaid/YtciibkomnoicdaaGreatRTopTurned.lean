/- The statement of the law TopTurned holds: for every input the call returns true, and the arguments read as before. No condition. -/
import Derived.Test.YtciibkomnoicdaaGreatRows
import Derived.Test.YtciibkomnoicdaaGreatChecked
import Derived.Test.YtciibkomnoicdaaGreatZ19
set_option linter.unusedVariables false
namespace Go.Proofs.YtciibkomnoicdaaGreat.topTurned
open Go Lg Go.ChangeShapes Go.WideShapes Go.ChangeAt Go.RowKit
theorem own:ownKnob Tryz.prog.godebug=none:=by kernel_rfl
theorem laidOut:laidOutB Tryz.prog=true:=by kernel_rfl
theorem tree:Ts Tryz.prog 41 37 3:=⟨⟨_,Tryz.underlying41,rfl,⟨_,_,rfl,rfl,rfl,rfl,rfl,rfl,rfl⟩⟩,Tryz.underlying37,Tryz.underlying3,by kernel_rfl,by kernel_rfl,by kernel_rfl,by kernel_rfl⟩
theorem aeX:Tx Tryz.prog 25 3 7:=⟨⟨_,Tryz.underlying25,rfl,fun i f h=>by rcases i with _|_|_|_|_|_|_|i;all_goals first|(cases h;exact⟨rfl,rfl⟩)|(exact absurd h (by simp))⟩,Tryz.underlying3,by kernel_rfl,by kernel_rfl⟩
theorem axG:Tu Tryz.prog 68 41 37 3 4:=⟨tree,⟨_,_,_,Tryz.underlying68,⟨rfl,rfl⟩,⟨rfl,rfl⟩,rfl,rfl⟩,Tryz.underlying4,by kernel_rfl,by kernel_rfl⟩
theorem aeY:Tv Tryz.prog 36 68 41 37 3 4:=⟨axG,Tryz.underlying36,by kernel_rfl⟩
theorem lay:TA Tryz.prog 22 66 9 3 4:=⟨N9,Tryz.underlying22,by kernel_rfl,by kernel_rfl,by kernel_rfl,by kernel_rfl,by kernel_rfl⟩
set_option maxRecDepth 100000 in
theorem lifted(os:Os)(started:os.Started)(H:Type)(enc:TypeId×Value→H):
    ReturnsInHanded {} Tryz.checked os 3 .any (Rows.topTurnedSpec.pre6 enc Tryz.prog Tryz.f3 Rows.topTurnedRow.domain false) (Rows.topTurnedSpec.post enc Tryz.prog Tryz.f3 false true false false):=by
  refine returnsInHanded_of_change_sized (C:=Tryz.checked) own started (by kernel_rfl) Tryz.func3
    (ChangeSpec.witness6 (enc:=enc) (C:=Tryz.checked) false ⟨#[],#[.slice none 0 0,.slice none 0 0,.slice none 0 0,.agg #[.int .i64 0,.int .i64 0,.int .i64 0,.int .i64 0,.int .i64 0,.int .i64 0,.int .i64 0],.agg #[.int .i64 0,.int .i64 0,.int .i64 0,.int .i64 0,.int .i64 0,.int .i64 0,.int .i64 0]],[]⟩ 8 (by kernel_rfl) (by kernel_rfl) (by kernel_rfl) (by kernel_rfl)) ?_
  intro W base args ds gs before axH J3 aBy axI _
  have bD:(DataW.weightsEach Tryz.prog (Tryz.f3.params.toList++Rows.topTurnedSpec.plain.varTypes Tryz.prog) (ds++gs)).all (· ≤reachBytes)=true:=axI
  have ED:∀(j:Nat) t v,Tryz.f3.params[j]? =some t→args[j]? =some v→Value.okWide Tryz.prog W .any base t v:=axH
  have axJ:=J3
  obtain⟨p,q,axK,rC,rfl,aBz,eY⟩:=J3
  have bo:DataW.TrodAll enc Tryz.prog W 0 (fun _=>true) true Tryz.f3.params.toList args.toList ds p:=axK
  rw[Tryz.params3]at bo ED bD
  obtain⟨v0,aBA,d0,Jt,axL,x6,It,rfl,rfl,aB,r0⟩:=trodAll_cons bo
  obtain⟨v1,ZE,d1,lk,mE,dj,rfl,rfl,rfl,ab,nA⟩:=trodAll_cons r0
  obtain⟨v2,au3,d2,E2,n_,cY,rfl,rfl,rfl,ae,pq⟩:=trodAll_cons nA
  obtain⟨v3,aBB,d3,awe,Fs,l7,rfl,rfl,rfl,aF,SS⟩:=trodAll_cons pq
  obtain⟨v4,aBC,d4,awu,N8,AI,rfl,rfl,rfl,bb,axM⟩:=trodAll_cons SS
  obtain⟨rfl,rfl,rfl⟩:=trodAll_nil axM
  obtain rfl:args= #[v0,v1,v2,v3,v4]:=by cases args;simp_all
  obtain⟨rfl,rfl⟩:=trodVars_none rC
  obtain⟨oi,V7⟩:=axF lay aB (Tq bD 0 22 d0 rfl rfl) (okWide_slice Tryz.underlying22 (ED 0 22 v0 rfl rfl))
  have CU:=aB
  have axN:∀x∈axL,x.block<W.heap.size:=by obtain⟨m,hm⟩:=CU;exact DataW.trod_lt m _ _ _ hm
  obtain⟨ou,du⟩:=aeT aeY Tryz.underlying23 (by kernel_rfl) (by kernel_rfl) ab (Tq bD 1 23 d1 rfl rfl) (okWide_slice Tryz.underlying23 (ED 1 23 v1 rfl rfl))
  have c8:=ab
  have axO:∀x∈mE,x.block<W.heap.size:=by obtain⟨m,hm⟩:=c8;exact DataW.trod_lt m _ _ _ hm
  obtain⟨uZ,dy⟩:=aeT aeY Tryz.underlying23 (by kernel_rfl) (by kernel_rfl) ae (Tq bD 2 23 d2 rfl rfl) (okWide_slice Tryz.underlying23 (ED 2 23 v2 rfl rfl))
  have b6:=ae
  have axP:∀x∈n_,x.block<W.heap.size:=by obtain⟨m,hm⟩:=b6;exact DataW.trod_lt m _ _ _ hm
  obtain⟨aBD,rfl⟩:=aeU aeX aF (by obtain⟨cs,h,_⟩:=okWide_struct Tryz.underlying25 (ED 3 25 v3 rfl rfl);exact⟨cs,h⟩)
  have hs:=aF
  have axQ:∀x∈Fs,x.block<W.heap.size:=by obtain⟨m,hm⟩:=hs;exact DataW.trod_lt m _ _ _ hm
  obtain⟨aBE,rfl⟩:=aeU aeX bb (by obtain⟨cs,h,_⟩:=okWide_struct Tryz.underlying25 (ED 4 25 v4 rfl rfl);exact⟨cs,h⟩)
  have rR:=bb
  have axR:∀x∈N8,x.block<W.heap.size:=by obtain⟨m,hm⟩:=rR;exact DataW.trod_lt m _ _ _ hm
  refine((axb V7 du dy) W (axi W)).mono fun e axS ⟨v,ai,δ',he,kt,l1,ax,_⟩=> ?_
  subst ax
  subst he
  have EE:Below W.heap.size W axS:=axp l1
  exact⟨_,rfl,_,_,_,[],_,[],axJ,trodAll_mk1 (shut_bool Tryz.underlying4 _),(trodAll_cons_mk (Below.trod laidOut (by kernel_rfl) (of_decide_eq_true (by kernel_rfl)) CU EE axN) (trodAll_cons_mk (Below.trod laidOut (by kernel_rfl) (of_decide_eq_true (by kernel_rfl)) c8 EE axO) (trodAll_cons_mk (Below.trod laidOut (by kernel_rfl) (of_decide_eq_true (by kernel_rfl)) b6 EE axP) (trodAll_cons_mk (Below.trod laidOut (by kernel_rfl) (of_decide_eq_true (by kernel_rfl)) hs EE axQ) (trodAll_cons_mk (Below.trod laidOut (by kernel_rfl) (of_decide_eq_true (by kernel_rfl)) rR EE axR) trodAll_mk0))))),rfl,EE.frame _,fun h=>by cases h⟩
theorem axT:Rows.topTurnedRow.holds Tryz.pinned (OpenSpec.ofChange Rows.topTurnedSpec):=
  OpenClaim.holds_of_wide 3 Tryz.f3 rfl rfl rfl rfl rfl rfl rfl ⟨rfl,rfl,rfl,rfl,rfl⟩ rfl rfl rfl rfl rfl (by kernel_rfl) Tryz.func3 (by kernel_rfl)
    (of_decide_eq_true (by kernel_rfl)) (by unfold Func.isWrapper;first|(rw[if_pos (by decide+kernel)];kernel_rfl)|(rw[if_neg (by decide+kernel)];exact⟨rfl,rfl⟩))
    (fun os started H enc _=>lifted os started H enc)
end Go.Proofs.YtciibkomnoicdaaGreat.topTurned
namespace Go.Proofs.YtciibkomnoicdaaGreat
theorem topTurned_holds:Rows.TopTurnedSaid:=topTurned.axT
#print axioms topTurned_holds
end Go.Proofs.YtciibkomnoicdaaGreat
