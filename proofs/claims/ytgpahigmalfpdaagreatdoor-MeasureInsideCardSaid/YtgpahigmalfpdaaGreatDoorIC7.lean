/- Centroid and extent of solids: the proof of MeasureInsideCardSaid (the law's function answers true at every record and every direction it can be given; theorem measureInside_card, last part), part 7 of 7; no condition. -/
import Derived.Test.YtgpahigmalfpdaaGreatDoorIC6
import Derived.Test.YtgpahigmalfpdaaGreatDoorCards
import Derived.Test.YtgpahigmalfpdaaGreatDoorTie
namespace Go.Proofs.YtgpahigmalfpdaaGreatDoor
open Go Go.RowKit
namespace measureInside
section
open Go Go.ChangeShapes Go.WideShapes Go.ChangeAt Go.RowKit
theorem own:ownKnob Tryz.prog.godebug=Option.none:=by kernel_rfl
theorem laidOut:laidOutB Tryz.prog=true:=by kernel_rfl
theorem aIo{H:Type}{enc:TypeId×Value->H}{W:h_}{t:TypeId}{v:i_}{d:DataW H}{p:List MemPlace}(h:DataW.Trod enc Tryz.prog W 0 (λ_=>true) true t v d p):∀ x∈p,x.block<W.heap.size:=by obtain⟨m,hm⟩:=h;exact DataW.trod_lt m _ _ _ hm
set_option maxRecDepth 100000 in
theorem aWE(H:Type)(enc:TypeId×Value->H)(W:h_)(base:Nat)(args:p_)(ds gs:List (DataW H))(before:List MemPlace)
  (kt:∀(j:Nat) t v,(Tryz.f3).params[j]?=some t->args[j]?=some v->Value.okWide Tryz.prog W .any base t v)
  (hW:DataW.Whole enc Tryz.prog (Tryz.f3).params.toList Rows.measureInsideSpec.vars false W args.toList ds gs before) (bL:(DataW.weightsEach Tryz.prog ((Tryz.f3).params.toList++Rows.measureInsideSpec.plain.varTypes Tryz.prog) (ds++gs)).all (·<=reachBytes)=true) :
  Calls Tryz.prog 3 args W λe W'=>∃ v,e=.returned v/\Rows.measureInsideSpec.post enc Tryz.prog Tryz.f3 false true false false W args v W':=by
 have hW':=hW;obtain⟨p,q,hA0,hV,rfl,ZN,e7⟩:=hW;have hA:DataW.TrodAll enc Tryz.prog W 0 (λ_=>true) true (Tryz.f3).params.toList args.toList ds p:=hA0;rw[Tryz.params3]at hA kt bL;obtain⟨v0,aXo,d0,ds0,p0,q0,dP,rfl,rfl,h0,r_0⟩:=trodAll_cons hA;obtain⟨v1,aXp,d1,ds1,p1,q1,rfl,rfl,rfl,h1,r_1⟩:=trodAll_cons r_0;obtain⟨rfl,rfl,rfl⟩:=trodAll_nil r_1;obtain rfl:args=#[v0,v1]:=by cases args;simp_all
 obtain⟨rfl,rfl⟩:=trodVars_none hV;have pM:∀ n,n<=reachBytes->n<9223372036854775807:=λn hn=>fA hn d_;have t0:=aIo h0;have k0:=h0;have t1:=aIo h1;have k1:=h1;obtain⟨rs0,vs0,fs0,e0,Zh,Zi,Zj⟩:=aU8 (kt 0 26 v0 rfl rfl) h0 (λk hk=>jN (bC.1 bL k (by simp[DataW.weightsEach,hk])));have Zh:=pM _ Zh;have Zi:=pM _ Zi;have Zj:=pM _ Zj;obtain⟨r1,e1⟩:=aU9 (kt 1 33 v1 rfl rfl) h1;have cy:xd W [gh rs0 vs0 fs0,.p r1.v] [v0,v1]:=.cons e0 (.cons e1 .nil);refine((aWq aWD Zh Zi Zj) W _ cy).mono λe W' ⟨he,Zk⟩=>?_
 subst he;exact⟨_,rfl,_,_,_,[],_,[],hW',trodAll_mk1 (shut_bool Tryz.underlying4 _),trodAll_cons_mk (Below.trod laidOut k_ (jN k_) k0 Zk.Ke t0) (trodAll_cons_mk (Below.trod laidOut k_ (jN k_) k1 Zk.Ke t1) trodAll_mk0),rfl,Zk.Ke.frame _,λh=>by cases h⟩
end
end measureInside
namespace measureInside
section
open Go Go.ChangeShapes Go.WideShapes Go.ChangeAt Go.RowKit
def zI:al:=[.bool false,.string ByteArray.empty]
def zN:al:=zI++zI++zI++zI++zI
def dI{H:Type}:DataW H:=.agg [.lit (.bool false),.lit (.string [])]
def dN{H:Type}:DataW H:=.agg [.agg [dI,dI,dI,dI],dI]
def SN:p_:=#[.agg #[.slice Option.none 0 0,.slice Option.none 0 0,.slice Option.none 0 0],.agg (zN++zN++zN).toArray]
def aWF{H:Type}:List (DataW H):=[.agg [.nil,.nil,.nil],.agg [dN,dN,dN]]
def aIp(l:l_):Go.Obj->Go.Obj
 |.cells _ t frozen=>.cells (l.map λn:Nat=>Value.int .u8 n).toArray t frozen
 |o=>o
def aWG:List Nat:=[128,191,160,191,128,159,144,191,128,143,0,0,0,0,0,0,0,0,0,0,0,0,0,0,0,0,0,0,0,0,0,0]
noncomputable def Zl(os:Os):World:=
 { World.holding Tryz.prog os ⟨#[],#[],[]⟩with heap:=((World.holding Tryz.prog os ⟨#[],#[],[]⟩).heap.modify 1 (aIp Go.Pinned.utf8FirstZ)).modify 2 (aIp aWG)}
theorem aWH(os:Os):laidMet Tryz.prog Rows.measureInsideRow.laid ((Zl os).forCall (λ_ _=>0) ⟨#[],SN,[]⟩).memory:=
 laidMet_of_run' 8 k_ k_
theorem reads(os:Os){H:Type}(enc:TypeId×Value->H):∃ places,DataW.whole enc Tryz.prog ((Zl os).forCall (λ_ _=>0) ⟨#[],SN,[]⟩).memory (Tryz.f3).params.toList Rows.measureInsideSpec.vars false SN.toList 8=some (aWF,[],places):=
 ⟨[],by kernel_rfl⟩
set_option maxRecDepth 100000 in
theorem lifted(os:Os)(started:os.Started)(H:Type)(enc:TypeId×Value->H)(F:Stop.Interp):
  ReturnsInHanded {} Tryz.checked os 3 .any ((OpenSpec.ofChange Rows.measureInsideSpec).preRow enc Tryz.prog Tryz.f3 Rows.measureInsideRow.domain false Rows.measureInsideRow.laid) (((OpenSpec.ofChange Rows.measureInsideSpec).at F).post enc Tryz.prog Tryz.f3 false true false false):=by
 obtain⟨places,hx⟩:=reads os enc
 refine returnsInHanded_of_row (C:=Tryz.checked) (s:=OpenSpec.ofChange Rows.measureInsideSpec) own started k_ Tryz.func3
  (witness_row_at (enc:=enc) (C:=Tryz.checked) false (Zl os) SN rfl k_ k_ k_
   (OpenSpec.preRow_of_cond 8 hx k_ n_ k_ (aWH os))) ?_
 intro W base args ds gs before kt hW _ _ bL hL _ _;exact aWE H enc W base args ds gs before kt hW bL
theorem said:Rows.MeasureInsideSaid:=
 OpenClaim.holds_of_cond 3 Tryz.f3 rfl rfl rfl rfl rfl rfl rfl ⟨rfl,rfl,rfl,rfl,rfl⟩ rfl rfl rfl rfl rfl k_ Tryz.func3 k_
  (jN k_) (by unfold Func.isWrapper;first|(rw[aA (by decide +kernel)];kernel_rfl)|(rw[au (by decide +kernel)];exact⟨rfl,rfl⟩))
  (λos started H enc _ F=>by rw[OpenClaim.pre_eq_preRow];exact lifted os started H enc F)
theorem plain(f : FuncId)(fn : Func)(hf : Tryz.pinned.checked.prog.funcNamed "culet/culetlaw09.MeasureInside" = some f)(hfn : Tryz.pinned.checked.prog.funcs[f]? = some fn) :
  false=Tryz.pinned.checked.prog.looks []/\∀(j:Nat) t,fn.params[j]?=some t->Tryz.pinned.checked.prog.wantsStandIn t=false:=by
 obtain rfl : f = 3 := Option.some.inj ((show Tryz.prog.funcNamed "culet/culetlaw09.MeasureInside" = some 3 by kernel_rfl).symm.trans hf) |>.symm;obtain rfl:fn=Tryz.f3:=(Option.some.inj (Tryz.func3.symm.trans hfn)).symm;refine⟨by kernel_rfl,λj t ht=>?_⟩;rw[Tryz.params3]at ht;have hm:=Array.mem_of_getElem? ht;have:∀ t∈[26,33],Tryz.prog.wantsStandIn t=false:=by decide +kernel
 exact this t (by simpa using hm)
end
end measureInside
theorem measureInside_card:Rows.MeasureInsideCardSaid:=
 Claim7.holds_tied_plain_at .later [] _ _ _ _ measureInside.said n_ k_ n_ measureInside_row_tie rfl ⟨rfl,rfl⟩ k_ rfl measureInside.plain k_
#print axioms measureInside_card
end Go.Proofs.YtgpahigmalfpdaaGreatDoor
