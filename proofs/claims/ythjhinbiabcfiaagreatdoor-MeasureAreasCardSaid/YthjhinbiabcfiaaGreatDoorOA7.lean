/- Ends and areas: the proof of MeasureAreasCardSaid (the law's function answers true at every solid, direction and number; theorem measureAreas_card, last part), part 7 of 7; no condition. -/
import Derived.Test.YthjhinbiabcfiaaGreatDoorOA6
import Derived.Test.YthjhinbiabcfiaaGreatDoorCards
import Derived.Test.YthjhinbiabcfiaaGreatDoorTie
namespace Go.Proofs.YthjhinbiabcfiaaGreatDoor
open Go Go.RowKit
namespace measureAreas
section
open Go Go.ChangeShapes Go.WideShapes Go.ChangeAt Go.RowKit
theorem own:ownKnob Tryz.prog.godebug=Option.none:=by kernel_rfl
theorem laidOut:laidOutB Tryz.prog=true:=by kernel_rfl
theorem Yg{H:Type}{enc:TypeId×Value->H}{W:h_}{t:TypeId}{v:i_}{d:DataW H}{p:List MemPlace}(h:DataW.Trod enc Tryz.prog W 0 (λ_=>true) true t v d p):∀ x∈p,x.block<W.heap.size:=by obtain⟨m,hm⟩:=h;exact DataW.trod_lt m _ _ _ hm
set_option maxRecDepth 100000 in
theorem aVI(H:Type)(enc:TypeId×Value->H)(W:h_)(base:Nat)(args:p_)(ds gs:List (DataW H))(before:List MemPlace)
  (gP:∀(j:Nat) t v,(Tryz.f5).params[j]?=some t->args[j]?=some v->Value.okWide Tryz.prog W .any base t v)
  (hW:DataW.Whole enc Tryz.prog (Tryz.f5).params.toList Rows.measureAreasSpec.vars false W args.toList ds gs before) (bC:(DataW.weightsEach Tryz.prog ((Tryz.f5).params.toList++Rows.measureAreasSpec.plain.varTypes Tryz.prog) (ds++gs)).all (·<=reachBytes)=true) :
  Calls Tryz.prog 5 args W λe W'=>∃ v,e=.returned v/\Rows.measureAreasSpec.post enc Tryz.prog Tryz.f5 false true false false W args v W':=by
 have hW':=hW;obtain⟨p,q,hA0,hV,rfl,YM,jK⟩:=hW;have hA:DataW.TrodAll enc Tryz.prog W 0 (λ_=>true) true (Tryz.f5).params.toList args.toList ds p:=hA0;rw[Tryz.params5]at hA gP bC;obtain⟨v0,aWm,d0,ds0,p0,q0,dK,rfl,rfl,h0,r_0⟩:=trodAll_cons hA;obtain⟨v1,aWn,d1,ds1,p1,q1,rfl,rfl,rfl,h1,r_1⟩:=trodAll_cons r_0;obtain⟨v2,aWo,d2,ds2,p2,q2,rfl,rfl,rfl,h2,r_2⟩:=trodAll_cons r_1;obtain⟨rfl,rfl,rfl⟩:=trodAll_nil r_2;obtain rfl:args=#[v0,v1,v2]:=by cases args;simp_all
 obtain⟨rfl,rfl⟩:=trodVars_none hV;have nK:∀ n,n<=reachBytes->n<9223372036854775807:=λn hn=>eV hn d_;have t0:=Yg h0;have k0:=h0;have t1:=Yg h1;have k1:=h1;have t2:=Yg h2;have k2:=h2;obtain⟨rs0,vs0,fs0,e0,Yh,Yi,Yj⟩:=aT4 (gP 0 26 v0 rfl rfl) h0 (λk hk=>jz (bd.1 bC k (by simp[DataW.weightsEach,hk])));have Yh:=nK _ Yh;have Yi:=nK _ Yi;have Yj:=nK _ Yj;obtain⟨r1,e1⟩:=aT6 (gP 1 38 v1 rfl rfl) h1;obtain⟨a2,e2⟩:=aT5 (gP 2 3 v2 rfl rfl) h2;have cv:u9 W [kj rs0 vs0 fs0,.p r1.v,.p (iV a2)] [v0,v1,v2]:=.cons e0 (.cons e1 (.cons e2 .nil));refine(aVu aVH Yh Yi Yj W _ cv).mono λe W' ⟨he,RM⟩=>?_
 subst he;exact⟨_,rfl,_,_,_,[],_,[],hW',trodAll_mk1 (shut_bool Tryz.underlying4 _),aHk (Below.trod laidOut k_ (jz k_) k0 RM.G1 t0) (aHk (Below.trod laidOut k_ (jz k_) k1 RM.G1 t1) (aHk (Below.trod laidOut k_ (jz k_) k2 RM.G1 t2) trodAll_mk0)),rfl,RM.G1.frame _,λh=>by cases h⟩
end
end measureAreas
namespace measureAreas
section
open Go Go.ChangeShapes Go.WideShapes Go.ChangeAt Go.RowKit
def zI:ah:=[.bool false,.string ByteArray.empty]
def zN:ah:=zI++zI++zI++zI++zI
def dI{H:Type}:DataW H:=.agg [.lit (.bool false),.lit (.string [])]
def dN{H:Type}:DataW H:=.agg [.agg [dI,dI,dI,dI],dI]
def RO:p_:=#[.agg #[.slice Option.none 0 0,.slice Option.none 0 0,.slice Option.none 0 0],.agg (zN++zN++zN).toArray,.int .i64 0]
def aVJ{H:Type}:List (DataW H):=[.agg [.nil,.nil,.nil],.agg [dN,dN,dN],.lit (.int .i64 0)]
def aHl(l:l_):Go.Obj->Go.Obj
 |.cells _ t frozen=>.cells (l.map λn:Nat=>Value.int .u8 n).toArray t frozen
 |o=>o
def aVK:List Nat:=[128,191,160,191,128,159,144,191,128,143,0,0,0,0,0,0,0,0,0,0,0,0,0,0,0,0,0,0,0,0,0,0]
noncomputable def Yk(os:Os):World:=
 { World.holding Tryz.prog os ⟨#[],#[],[]⟩with heap:=((World.holding Tryz.prog os ⟨#[],#[],[]⟩).heap.modify 1 (aHl Go.Pinned.utf8FirstZ)).modify 2 (aHl aVK)}
theorem aVL(os:Os):laidMet Tryz.prog Rows.measureAreasRow.laid ((Yk os).forCall (λ_ _=>0) ⟨#[],RO,[]⟩).memory:=
 laidMet_of_run' 8 k_ k_
theorem reads(os:Os){H:Type}(enc:TypeId×Value->H):∃ places,DataW.whole enc Tryz.prog ((Yk os).forCall (λ_ _=>0) ⟨#[],RO,[]⟩).memory (Tryz.f5).params.toList Rows.measureAreasSpec.vars false RO.toList 8=some (aVJ,[],places):=
 ⟨[],by kernel_rfl⟩
set_option maxRecDepth 100000 in
theorem lifted(os:Os)(started:os.Started)(H:Type)(enc:TypeId×Value->H)(F:Stop.Interp):
  ReturnsInHanded {} Tryz.checked os 5 .any ((OpenSpec.ofChange Rows.measureAreasSpec).preRow enc Tryz.prog Tryz.f5 Rows.measureAreasRow.domain false Rows.measureAreasRow.laid) (((OpenSpec.ofChange Rows.measureAreasSpec).at F).post enc Tryz.prog Tryz.f5 false true false false):=by
 obtain⟨places,hx⟩:=reads os enc
 refine returnsInHanded_of_row (C:=Tryz.checked) (s:=OpenSpec.ofChange Rows.measureAreasSpec) own started k_ Tryz.func5
  (witness_row_at (enc:=enc) (C:=Tryz.checked) false (Yk os) RO rfl k_ k_ k_
   (OpenSpec.preRow_of_cond 8 hx k_ n_ k_ (aVL os))) ?_
 intro W base args ds gs before gP hW _ _ bC hL _ _;exact aVI H enc W base args ds gs before gP hW bC
theorem said:Rows.MeasureAreasSaid:=
 OpenClaim.holds_of_cond 5 Tryz.f5 rfl rfl rfl rfl rfl rfl rfl ⟨rfl,rfl,rfl,rfl,rfl⟩ rfl rfl rfl rfl rfl k_ Tryz.func5 k_
  (jz k_) (by unfold Func.isWrapper;first|(rw[ax (by decide +kernel)];kernel_rfl)|(rw[ao (by decide +kernel)];exact⟨rfl,rfl⟩))
  (λos started H enc _ F=>by rw[OpenClaim.pre_eq_preRow];exact lifted os started H enc F)
theorem plain(f : FuncId)(fn : Func)(hf : Tryz.pinned.checked.prog.funcNamed "culet/culetlaw09.MeasureAreas" = some f)(hfn : Tryz.pinned.checked.prog.funcs[f]? = some fn) :
  false=Tryz.pinned.checked.prog.looks []/\∀(j:Nat) t,fn.params[j]?=some t->Tryz.pinned.checked.prog.wantsStandIn t=false:=by
 obtain rfl : f = 5 := Option.some.inj ((show Tryz.prog.funcNamed "culet/culetlaw09.MeasureAreas" = some 5 by kernel_rfl).symm.trans hf) |>.symm;obtain rfl:fn=Tryz.f5:=(Option.some.inj (Tryz.func5.symm.trans hfn)).symm;refine⟨by kernel_rfl,λj t ht=>?_⟩;rw[Tryz.params5]at ht;have hm:=Array.mem_of_getElem? ht;have:∀ t∈[26,38,3],Tryz.prog.wantsStandIn t=false:=by decide +kernel
 exact this t (by simpa using hm)
end
end measureAreas
theorem measureAreas_card:Rows.MeasureAreasCardSaid:=
 Claim7.holds_tied_plain_at .later [] _ _ _ _ measureAreas.said n_ k_ n_ measureAreas_row_tie rfl ⟨rfl,rfl⟩ k_ rfl measureAreas.plain k_
#print axioms measureAreas_card
end Go.Proofs.YthjhinbiabcfiaaGreatDoor
