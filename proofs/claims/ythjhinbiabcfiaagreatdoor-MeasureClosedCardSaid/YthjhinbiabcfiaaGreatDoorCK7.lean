/- Area vectors of a solid's faces: the proof of MeasureClosedCardSaid (the law's function answers true at every record it can be given; theorem measureClosed_card, last part), part 7 of 7; no condition. -/
import Derived.Test.YthjhinbiabcfiaaGreatDoorCK6
import Derived.Test.YthjhinbiabcfiaaGreatDoorCards
import Derived.Test.YthjhinbiabcfiaaGreatDoorTie
namespace Go.Proofs.YthjhinbiabcfiaaGreatDoor
open Go Go.RowKit
namespace measureClosed
section
open Go Go.ChangeShapes Go.WideShapes Go.ChangeAt Go.RowKit
theorem own:ownKnob Tryz.prog.godebug=Option.none:=by kernel_rfl
theorem laidOut:laidOutB Tryz.prog=true:=by kernel_rfl
theorem aVJ{H:Type}{enc:TypeId×Value->H}{W:h_}{t:TypeId}{v:i_}{d:DataW H}{p:List MemPlace}(h:DataW.Trod enc Tryz.prog W 0 (λ_=>true) true t v d p):∀ x∈p,x.block<W.heap.size:=by obtain⟨m,hm⟩:=h;exact DataW.trod_lt m _ _ _ hm
set_option maxRecDepth 100000 in
theorem aVK(H:Type)(enc:TypeId×Value->H)(W:h_)(base:Nat)(args:p_)(ds gs:List (DataW H))(before:List MemPlace)
  (lK:∀(j:Nat) t v,(Tryz.f4).params[j]?=some t->args[j]?=some v->Value.okWide Tryz.prog W .any base t v)
  (hW:DataW.Whole enc Tryz.prog (Tryz.f4).params.toList Rows.measureClosedSpec.vars false W args.toList ds gs before) (bH:(DataW.weightsEach Tryz.prog ((Tryz.f4).params.toList++Rows.measureClosedSpec.plain.varTypes Tryz.prog) (ds++gs)).all (·<=reachBytes)=true) :
  Calls Tryz.prog 4 args W λe W'=>∃ v,e=.returned v/\Rows.measureClosedSpec.post enc Tryz.prog Tryz.f4 false true false false W args v W':=by
 have hW':=hW;obtain⟨p,q,hA0,hV,rfl,YR,fv⟩:=hW;have hA:DataW.TrodAll enc Tryz.prog W 0 (λ_=>true) true (Tryz.f4).params.toList args.toList ds p:=hA0;rw[Tryz.params4]at hA lK bH;obtain⟨v0,aWv,d0,ds0,p0,q0,dL,rfl,rfl,h0,r_0⟩:=trodAll_cons hA;obtain⟨rfl,rfl,rfl⟩:=trodAll_nil r_0;obtain rfl:args=#[v0]:=by cases args;simp_all
 obtain⟨rfl,rfl⟩:=trodVars_none hV;have pW:∀ n,n<=reachBytes->n<9223372036854775807:=λn hn=>eZ hn d_;have t0:=aVJ h0;have k0:=h0;obtain⟨rs0,vs0,fs0,e0,Ym,Yn,Yo⟩:=aT5 (lK 0 26 v0 rfl rfl) h0 (λk hk=>kp (bB.1 bH k (by simp[DataW.weightsEach,hk])));have Ym:=pW _ Ym;have Yn:=pW _ Yn;have Yo:=pW _ Yo;have cC:wD W [gK rs0 vs0 fs0] [v0]:=.cons e0 .nil;refine(aVI aVC Ym Yn Yo W _ cC).mono λe W' ⟨he,bel⟩=>?_
 subst he;exact⟨_,rfl,_,_,_,[],_,[],hW',trodAll_mk1 (shut_bool Tryz.underlying4 _),trodAll_cons_mk (Below.trod laidOut k_ (kp k_) k0 bel.M4 t0) trodAll_mk0,rfl,bel.M4.frame _,λh=>by cases h⟩
end
end measureClosed
namespace measureClosed
section
open Go Go.ChangeShapes Go.WideShapes Go.ChangeAt Go.RowKit
def R0:p_:=#[.agg #[.slice Option.none 0 0,.slice Option.none 0 0,.slice Option.none 0 0]]
def aVL{H:Type}:List (DataW H):=[.agg [.nil,.nil,.nil]]
def aHq(l:l_):Go.Obj->Go.Obj
 |.cells _ t frozen=>.cells (l.map λn:Nat=>Value.int .u8 n).toArray t frozen
 |o=>o
def aVM:List Nat:=[128,191,160,191,128,159,144,191,128,143,0,0,0,0,0,0,0,0,0,0,0,0,0,0,0,0,0,0,0,0,0,0]
noncomputable def Yp(os:Os):World:=
 { World.holding Tryz.prog os ⟨#[],#[],[]⟩with heap:=((World.holding Tryz.prog os ⟨#[],#[],[]⟩).heap.modify 1 (aHq Go.Pinned.utf8FirstZ)).modify 2 (aHq aVM)}
theorem aVN(os:Os):laidMet Tryz.prog Rows.measureClosedRow.laid ((Yp os).forCall (λ_ _=>0) ⟨#[],R0,[]⟩).memory:=
 laidMet_of_run' 8 k_ k_
theorem reads(os:Os){H:Type}(enc:TypeId×Value->H):∃ places,DataW.whole enc Tryz.prog ((Yp os).forCall (λ_ _=>0) ⟨#[],R0,[]⟩).memory (Tryz.f4).params.toList Rows.measureClosedSpec.vars false R0.toList 8=some (aVL,[],places):=
 ⟨[],by kernel_rfl⟩
set_option maxRecDepth 100000 in
theorem lifted(os:Os)(started:os.Started)(H:Type)(enc:TypeId×Value->H)(F:Stop.Interp):
  ReturnsInHanded {} Tryz.checked os 4 .any ((OpenSpec.ofChange Rows.measureClosedSpec).preRow enc Tryz.prog Tryz.f4 Rows.measureClosedRow.domain false Rows.measureClosedRow.laid) (((OpenSpec.ofChange Rows.measureClosedSpec).at F).post enc Tryz.prog Tryz.f4 false true false false):=by
 obtain⟨places,hx⟩:=reads os enc
 refine returnsInHanded_of_row (C:=Tryz.checked) (s:=OpenSpec.ofChange Rows.measureClosedSpec) own started k_ Tryz.func4
  (witness_row_at (enc:=enc) (C:=Tryz.checked) false (Yp os) R0 rfl k_ k_ k_
   (OpenSpec.preRow_of_cond 8 hx k_ n_ k_ (aVN os))) ?_
 intro W base args ds gs before lK hW _ _ bH hL _ _;exact aVK H enc W base args ds gs before lK hW bH
theorem said:Rows.MeasureClosedSaid:=
 OpenClaim.holds_of_cond 4 Tryz.f4 rfl rfl rfl rfl rfl rfl rfl ⟨rfl,rfl,rfl,rfl,rfl⟩ rfl rfl rfl rfl rfl k_ Tryz.func4 k_
  (kp k_) (by unfold Func.isWrapper;first|(rw[aB (by decide +kernel)];kernel_rfl)|(rw[az (by decide +kernel)];exact⟨rfl,rfl⟩))
  (λos started H enc _ F=>by rw[OpenClaim.pre_eq_preRow];exact lifted os started H enc F)
theorem plain(f : FuncId)(fn : Func)(hf : Tryz.pinned.checked.prog.funcNamed "culet/culetlaw09.MeasureClosed" = some f)(hfn : Tryz.pinned.checked.prog.funcs[f]? = some fn) :
  false=Tryz.pinned.checked.prog.looks []/\∀(j:Nat) t,fn.params[j]?=some t->Tryz.pinned.checked.prog.wantsStandIn t=false:=by
 obtain rfl : f = 4 := Option.some.inj ((show Tryz.prog.funcNamed "culet/culetlaw09.MeasureClosed" = some 4 by kernel_rfl).symm.trans hf) |>.symm;obtain rfl:fn=Tryz.f4:=(Option.some.inj (Tryz.func4.symm.trans hfn)).symm;refine⟨by kernel_rfl,λj t ht=>?_⟩;rw[Tryz.params4]at ht;have hm:=Array.mem_of_getElem? ht;have:∀ t∈[26],Tryz.prog.wantsStandIn t=false:=by decide +kernel
 exact this t (by simpa using hm)
end
end measureClosed
theorem measureClosed_card:Rows.MeasureClosedCardSaid:=
 Claim7.holds_tied_plain_at .later [] _ _ _ _ measureClosed.said n_ k_ n_ measureClosed_row_tie rfl ⟨rfl,rfl⟩ k_ rfl measureClosed.plain k_
#print axioms measureClosed_card
end Go.Proofs.YthjhinbiabcfiaaGreatDoor
