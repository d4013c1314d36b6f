/- Valid records and points: the proof of SolidValidCardSaid (the law's function answers true at every record and vector; theorem solidValid_card, last part), part 7 of 7; no condition. -/
import Derived.Test.YthccllenbnhogaaGreatDoorZA6
import Derived.Test.YthccllenbnhogaaGreatDoorCards
import Derived.Test.YthccllenbnhogaaGreatDoorTie
namespace Go.Proofs.YthccllenbnhogaaGreatDoor
open Go Go.RowKit
namespace solidValid
section
open Go Go.ChangeShapes Go.WideShapes Go.ChangeAt Go.RowKit
theorem own:ownKnob Tryz.prog.godebug=Option.none:=by kernel_rfl
theorem laidOut:laidOutB Tryz.prog=true:=by kernel_rfl
theorem aGo{H:Type}{enc:TypeId×Value->H}{W:h_}{t:TypeId}{v:i_}{d:DataW H}{p:List MemPlace}(h:DataW.Trod enc Tryz.prog W 0 (λ_=>true) true t v d p):∀ x∈p,x.block<W.heap.size:=by obtain⟨m,hm⟩:=h;exact DataW.trod_lt m _ _ _ hm
set_option maxRecDepth 100000 in
theorem aT2(H:Type)(enc:TypeId×Value->H)(W:h_)(base:Nat)(args:p_)(ds gs:List (DataW H))(before:List MemPlace)
  (mI:∀(j:Nat) t v,(Tryz.f6).params[j]?=some t->args[j]?=some v->Value.okWide Tryz.prog W .any base t v)
  (hW:DataW.Whole enc Tryz.prog (Tryz.f6).params.toList Rows.solidValidSpec.vars false W args.toList ds gs before) (bE:(DataW.weightsEach Tryz.prog ((Tryz.f6).params.toList++Rows.solidValidSpec.plain.varTypes Tryz.prog) (ds++gs)).all (·<=reachBytes)=true) :
  Calls Tryz.prog 6 args W λe W'=>∃ v,e=.returned v/\Rows.solidValidSpec.post enc Tryz.prog Tryz.f6 false true false false W args v W':=by
 have hW':=hW;obtain⟨p,q,hA0,hV,rfl,XO,jR⟩:=hW;have hA:DataW.TrodAll enc Tryz.prog W 0 (λ_=>true) true (Tryz.f6).params.toList args.toList ds p:=hA0;rw[Tryz.params6]at hA mI bE;obtain⟨v0,aUH,d0,ds0,p0,q0,dz,rfl,rfl,h0,r_0⟩:=trodAll_cons hA;obtain⟨v1,aUI,d1,ds1,p1,q1,rfl,rfl,rfl,h1,r_1⟩:=trodAll_cons r_0;obtain⟨rfl,rfl,rfl⟩:=trodAll_nil r_1;obtain rfl:args=#[v0,v1]:=by cases args;simp_all
 obtain⟨rfl,rfl⟩:=trodVars_none hV;have pc:∀ n,n<=reachBytes->n<9223372036854775807:=λn hn=>eX hn d_;have t0:=aGo h0;have k0:=h0;have t1:=aGo h1;have k1:=h1;obtain⟨rs0,vs0,fs0,e0,Xi,Xj,Xk⟩:=aTd (mI 0 28 v0 rfl rfl) h0 (λk hk=>jh (aY.1 bE k (by simp[DataW.weightsEach,hk])));have Xi:=pc _ Xi;have Xj:=pc _ Xj;have Xk:=pc _ Xk;obtain⟨r1,e1⟩:=aTe (mI 1 42 v1 rfl rfl) h1;have cx:uC W [kf rs0 vs0 fs0,.p r1.v] [v0,v1]:=.cons e0 (.cons e1 .nil);refine((aT1 r1 Xi Xj Xk) W _ cx).mono λe W' ⟨he,Xl⟩=>?_
 subst he;exact⟨_,rfl,_,_,_,[],_,[],hW',trodAll_mk1 (shut_bool Tryz.underlying4 _),trodAll_cons_mk (Below.trod laidOut k_ (jh k_) k0 Xl.IH t0) (trodAll_cons_mk (Below.trod laidOut k_ (jh k_) k1 Xl.IH t1) trodAll_mk0),rfl,Xl.IH.frame _,λh=>by cases h⟩
end
end solidValid
namespace solidValid
section
open Go Go.ChangeShapes Go.WideShapes Go.ChangeAt Go.RowKit
def zI:ah:=[.bool false,.string ByteArray.empty]
def zN:ah:=zI++zI++zI++zI++zI
def dI{H:Type}:DataW H:=.agg [.lit (.bool false),.lit (.string [])]
def dN{H:Type}:DataW H:=.agg [.agg [dI,dI,dI,dI],dI]
def QH:p_:=#[.agg #[.slice Option.none 0 0,.slice Option.none 0 0,.slice Option.none 0 0],.agg (zN++zN++zN).toArray]
def aT3{H:Type}:List (DataW H):=[.agg [.nil,.nil,.nil],.agg [dN,dN,dN]]
def aGp(l:l_):Go.Obj->Go.Obj
 |.cells _ t frozen=>.cells (l.map λn:Nat=>Value.int .u8 n).toArray t frozen
 |o=>o
def aT4:List Nat:=[128,191,160,191,128,159,144,191,128,143,0,0,0,0,0,0,0,0,0,0,0,0,0,0,0,0,0,0,0,0,0,0]
noncomputable def Xm(os:Os):World:=
 { World.holding Tryz.prog os ⟨#[],#[],[]⟩with heap:=((World.holding Tryz.prog os ⟨#[],#[],[]⟩).heap.modify 1 (aGp Go.Pinned.utf8FirstZ)).modify 2 (aGp aT4)}
theorem aT5(os:Os):laidMet Tryz.prog Rows.solidValidRow.laid ((Xm os).forCall (λ_ _=>0) ⟨#[],QH,[]⟩).memory:=
 laidMet_of_run' 8 k_ k_
theorem reads(os:Os){H:Type}(enc:TypeId×Value->H):∃ places,DataW.whole enc Tryz.prog ((Xm os).forCall (λ_ _=>0) ⟨#[],QH,[]⟩).memory (Tryz.f6).params.toList Rows.solidValidSpec.vars false QH.toList 8=some (aT3,[],places):=
 ⟨[],by kernel_rfl⟩
set_option maxRecDepth 100000 in
theorem lifted(os:Os)(started:os.Started)(H:Type)(enc:TypeId×Value->H)(F:Stop.Interp):
  ReturnsInHanded {} Tryz.checked os 6 .any ((OpenSpec.ofChange Rows.solidValidSpec).preRow enc Tryz.prog Tryz.f6 Rows.solidValidRow.domain false Rows.solidValidRow.laid) (((OpenSpec.ofChange Rows.solidValidSpec).at F).post enc Tryz.prog Tryz.f6 false true false false):=by
 obtain⟨places,hx⟩:=reads os enc
 refine returnsInHanded_of_row (C:=Tryz.checked) (s:=OpenSpec.ofChange Rows.solidValidSpec) own started k_ Tryz.func6
  (witness_row_at (enc:=enc) (C:=Tryz.checked) false (Xm os) QH rfl k_ k_ k_
   (OpenSpec.preRow_of_cond 8 hx k_ n_ k_ (aT5 os))) ?_
 intro W base args ds gs before mI hW _ _ bE hL _ _;exact aT2 H enc W base args ds gs before mI hW bE
theorem said:Rows.SolidValidSaid:=
 OpenClaim.holds_of_cond 6 Tryz.f6 rfl rfl rfl rfl rfl rfl rfl ⟨rfl,rfl,rfl,rfl,rfl⟩ rfl rfl rfl rfl rfl k_ Tryz.func6 k_
  (jh k_) (by unfold Func.isWrapper;first|(rw[au (by decide +kernel)];kernel_rfl)|(rw[al (by decide +kernel)];exact⟨rfl,rfl⟩))
  (λos started H enc _ F=>by rw[OpenClaim.pre_eq_preRow];exact lifted os started H enc F)
theorem plain(f : FuncId)(fn : Func)(hf : Tryz.pinned.checked.prog.funcNamed "culet/culetlaw07.SolidValid" = some f)(hfn : Tryz.pinned.checked.prog.funcs[f]? = some fn) :
  false=Tryz.pinned.checked.prog.looks []/\∀(j:Nat) t,fn.params[j]?=some t->Tryz.pinned.checked.prog.wantsStandIn t=false:=by
 obtain rfl : f = 6 := Option.some.inj ((show Tryz.prog.funcNamed "culet/culetlaw07.SolidValid" = some 6 by kernel_rfl).symm.trans hf) |>.symm;obtain rfl:fn=Tryz.f6:=(Option.some.inj (Tryz.func6.symm.trans hfn)).symm;refine⟨by kernel_rfl,λj t ht=>?_⟩;rw[Tryz.params6]at ht;have hm:=Array.mem_of_getElem? ht;have:∀ t∈[28,42],Tryz.prog.wantsStandIn t=false:=by decide +kernel
 exact this t (by simpa using hm)
end
end solidValid
theorem solidValid_card:Rows.SolidValidCardSaid:=
 Claim7.holds_tied_plain_at .later [] _ _ _ _ solidValid.said n_ k_ n_ solidValid_row_tie rfl ⟨rfl,rfl⟩ k_ rfl solidValid.plain k_
#print axioms solidValid_card
end Go.Proofs.YthccllenbnhogaaGreatDoor
