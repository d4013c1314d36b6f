/- Weights of solids: the proof of MeasureWeightsCardSaid (the law's function answers true at every record and all densities it can be given; theorem measureWeights_card, last part), part 7 of 7; no condition. -/
import Derived.Test.YtmocejjfkdcgkaaGreatDoorMW6
import Derived.Test.YtmocejjfkdcgkaaGreatDoorCards
import Derived.Test.YtmocejjfkdcgkaaGreatDoorTie
namespace Go.Proofs.YtmocejjfkdcgkaaGreatDoor
open Go Go.RowKit
variable{w:h_}
namespace measureWeights
section
open Go Go.ChangeShapes Go.WideShapes Go.ChangeAt Go.RowKit
theorem own:ownKnob Tryz.prog.godebug=Option.none:=by kernel_rfl
theorem laidOut:laidOutB Tryz.prog=true:=by kernel_rfl
theorem YP{H:Type}{enc:TypeId×Value->H}{W:h_}{t:TypeId}{v:i_}{d:DataW H}{p:List MemPlace}(h:DataW.Trod enc Tryz.prog W 0 (λ_=>true) true t v d p):∀ x∈p,x.block<W.heap.size:=by obtain⟨m,hm⟩:=h;exact DataW.trod_lt m _ _ _ hm
set_option maxRecDepth 100000 in
theorem aHN{H:Type}{enc:TypeId×Value->H}{base:Nat}{v:i_}{d:DataW H}{p:List MemPlace}(hv:Value.okWide Tryz.prog w .any base 27 v)(h:DataW.Trod enc Tryz.prog w 0 (λ_=>true) true 27 v d p):∃ n:Nat,n<65536/\v=wk n:=by obtain⟨z,rfl,_,_,h3⟩:=open_int (P:=Tryz.prog) (k:=.u16) k_ hv h;simp[Lit.wf,IntKind.min,IntKind.max,IntKind.signed,IntKind.bits]at h3;obtain⟨n,rfl⟩:∃ n:Nat,z=n:=⟨z.toNat,by omega⟩;exact⟨n,by omega,rfl⟩
set_option maxRecDepth 100000 in
theorem aWp(H:Type)(enc:TypeId×Value->H)(W:h_)(base:Nat)(args:p_)(ds gs:List (DataW H))(before:List MemPlace)
  (kV:∀(j:Nat) t v,(Tryz.f3).params[j]?=some t->args[j]?=some v->Value.okWide Tryz.prog W .any base t v)
  (hW:DataW.Whole enc Tryz.prog (Tryz.f3).params.toList Rows.measureWeightsSpec.vars false W args.toList ds gs before) (bH:(DataW.weightsEach Tryz.prog ((Tryz.f3).params.toList++Rows.measureWeightsSpec.plain.varTypes Tryz.prog) (ds++gs)).all (·<=reachBytes)=true) :
  Calls Tryz.prog 3 args W λe W'=>∃ v,e=.returned v/\Rows.measureWeightsSpec.post enc Tryz.prog Tryz.f3 false true false false W args v W':=by
 have hW':=hW;obtain⟨p,q,hA0,hV,rfl,Zh,fv⟩:=hW;have hA:DataW.TrodAll enc Tryz.prog W 0 (λ_=>true) true (Tryz.f3).params.toList args.toList ds p:=hA0;rw[Tryz.params3]at hA kV bH;obtain⟨v0,vs0,d0,ds0,p0,q0,du,rfl,rfl,h0,r0⟩:=trodAll_cons hA;obtain⟨v1,vs1,d1,ds1,p1,q1,rfl,rfl,rfl,h1,r1⟩:=trodAll_cons r0;obtain⟨v2,vs2,d2,ds2,p2,q2,rfl,rfl,rfl,h2,r2⟩:=trodAll_cons r1;obtain⟨rfl,rfl,rfl⟩:=trodAll_nil r2;obtain rfl:args=#[v0,v1,v2]:=by cases args;simp_all
 obtain⟨rfl,rfl⟩:=trodVars_none hV;obtain⟨rs,vs,fs,hs,l0,l1,l2⟩:=aUW (kV 0 26 v0 rfl rfl) h0 (λk hk=>kX (bB.1 bH k (sC _ hk)));have t0:=YP h0;have t1:=YP h1;have t2:=YP h2;have k1:=h1;have k2:=h2;obtain⟨a,la,e1⟩:=aHN (kV 1 27 v1 rfl rfl) h1;obtain⟨b,lb,e2⟩:=aHN (kV 2 27 v2 rfl rfl) h2;have qf:∀ n,n<=reachBytes->n<9223372036854775807:=λn hn=>fq hn d_;have cz:uA W [ig rs vs fs,.p (wk a),.p (wk b)] [v0,v1,v2]:=.cons hs (.cons e1 (.cons e2 .nil));refine(aWb aWo (qf _ l0) (qf _ l1) (qf _ l2) la lb W _ cz).mono λe W' ⟨he,Sh⟩=>?_
 subst he;exact⟨_,rfl,_,_,_,[],_,[],hW',trodAll_mk1 (shut_bool Tryz.underlying4 _),aHO (Below.trod laidOut k_ (kX k_) h0 Sh.HA t0) (aHO (Below.trod laidOut k_ (kX k_) k1 Sh.HA t1) (aHO (Below.trod laidOut k_ (kX k_) k2 Sh.HA t2) trodAll_mk0)),rfl,Sh.HA.frame _,λh=>by cases h⟩
end
end measureWeights
namespace measureWeights
section
open Go Go.ChangeShapes Go.WideShapes Go.ChangeAt Go.RowKit
def Si:p_:=#[.agg #[.slice Option.none 0 0,.slice Option.none 0 0,.slice Option.none 0 0],.int .u16 0,.int .u16 0]
def aWq{H:Type}:List (DataW H):=[.agg [.nil,.nil,.nil],.lit (.int .u16 0),.lit (.int .u16 0)]
def aHP(l:l_):Go.Obj->Go.Obj
 |.cells _ t frozen=>.cells (l.map λn:Nat=>Value.int .u8 n).toArray t frozen
 |o=>o
def aWr:List Nat:=[128,191,160,191,128,159,144,191,128,143,0,0,0,0,0,0,0,0,0,0,0,0,0,0,0,0,0,0,0,0,0,0]
noncomputable def YQ(os:Os):World:=
 { World.holding Tryz.prog os ⟨#[],#[],[]⟩with heap:=((World.holding Tryz.prog os ⟨#[],#[],[]⟩).heap.modify 1 (aHP Go.Pinned.utf8FirstZ)).modify 2 (aHP aWr)}
theorem aWs(os:Os):laidMet Tryz.prog Rows.measureWeightsRow.laid ((YQ os).forCall (λ_ _=>0) ⟨#[],Si,[]⟩).memory:=
 laidMet_of_run' 8 k_ k_
theorem reads(os:Os){H:Type}(enc:TypeId×Value->H):∃ places,DataW.whole enc Tryz.prog ((YQ os).forCall (λ_ _=>0) ⟨#[],Si,[]⟩).memory (Tryz.f3).params.toList Rows.measureWeightsSpec.vars false Si.toList 8=some (aWq,[],places):=
 ⟨[],by kernel_rfl⟩
set_option maxRecDepth 100000 in
theorem lifted(os:Os)(started:os.Started)(H:Type)(enc:TypeId×Value->H)(F:Stop.Interp):
  ReturnsInHanded {} Tryz.checked os 3 .any ((OpenSpec.ofChange Rows.measureWeightsSpec).preRow enc Tryz.prog Tryz.f3 Rows.measureWeightsRow.domain false Rows.measureWeightsRow.laid) (((OpenSpec.ofChange Rows.measureWeightsSpec).at F).post enc Tryz.prog Tryz.f3 false true false false):=by
 obtain⟨places,hx⟩:=reads os enc
 refine returnsInHanded_of_row (C:=Tryz.checked) (s:=OpenSpec.ofChange Rows.measureWeightsSpec) own started k_ Tryz.func3
  (witness_row_at (enc:=enc) (C:=Tryz.checked) false (YQ os) Si rfl k_ k_ k_
   (OpenSpec.preRow_of_cond 8 hx k_ n_ k_ (aWs os))) ?_
 intro W base args ds gs before kV hW _ _ bH hL _ _;exact aWp H enc W base args ds gs before kV hW bH
theorem said:Rows.MeasureWeightsSaid:=
 OpenClaim.holds_of_cond 3 Tryz.f3 rfl rfl rfl rfl rfl rfl rfl ⟨rfl,rfl,rfl,rfl,rfl⟩ rfl rfl rfl rfl rfl k_ Tryz.func3 k_
  (kX k_) (by unfold Func.isWrapper;first|(rw[aB (by decide +kernel)];kernel_rfl)|(rw[av (by decide +kernel)];exact⟨rfl,rfl⟩))
  (λos started H enc _ F=>by rw[OpenClaim.pre_eq_preRow];exact lifted os started H enc F)
theorem plain(f : FuncId)(fn : Func)(hf : Tryz.pinned.checked.prog.funcNamed "culet/culetlaw09.MeasureWeights" = some f)(hfn : Tryz.pinned.checked.prog.funcs[f]? = some fn) :
  false=Tryz.pinned.checked.prog.looks []/\∀(j:Nat) t,fn.params[j]?=some t->Tryz.pinned.checked.prog.wantsStandIn t=false:=by
 obtain rfl : f = 3 := Option.some.inj ((show Tryz.prog.funcNamed "culet/culetlaw09.MeasureWeights" = some 3 by kernel_rfl).symm.trans hf) |>.symm;obtain rfl:fn=Tryz.f3:=(Option.some.inj (Tryz.func3.symm.trans hfn)).symm;refine⟨by kernel_rfl,λj t ht=>?_⟩;rw[Tryz.params3]at ht;have hm:t=26\/t=27:=by simpa using Array.mem_of_getElem? ht
 rcases hm with rfl|rfl
 ·exact(show Tryz.prog.wantsStandIn 26=false by kernel_rfl)
 ·exact(show Tryz.prog.wantsStandIn 27=false by kernel_rfl)
end
end measureWeights
theorem measureWeights_card:Rows.MeasureWeightsCardSaid:=
 Claim7.holds_tied_plain_at .later [] _ _ _ _ measureWeights.said n_ k_ n_ measureWeights_row_tie rfl ⟨rfl,rfl⟩ k_ rfl measureWeights.plain k_
#print axioms measureWeights_card
end Go.Proofs.YtmocejjfkdcgkaaGreatDoor
