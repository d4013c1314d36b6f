/- Solids of lists of planes: the proof of SolidOfCardSaid (the law's function answers true at every list of planes; theorem solidOf_card, last part), part 6 of 6; no condition. -/
import Derived.Test.YthccllenbnhogaaGreatDoorOC5
import Derived.Test.YthccllenbnhogaaGreatDoorCards
import Derived.Test.YthccllenbnhogaaGreatDoorTie
namespace Go.Proofs.YthccllenbnhogaaGreatDoor
open Go Go.RowKit
namespace solidOf
section
open Go Go.ChangeShapes Go.WideShapes Go.ChangeAt Go.RowKit
theorem own:ownKnob Tryz.prog.godebug=Option.none:=by kernel_rfl
theorem laidOut:laidOutB Tryz.prog=true:=by kernel_rfl
theorem aSl{H:Type}{enc:TypeId×Value->H}{W:h_}{t:TypeId}{v:i_}{d:DataW H}{p:List MemPlace}(h:DataW.Trod enc Tryz.prog W 0 (λ_=>true) true t v d p):∀ x∈p,x.block<W.heap.size:=by obtain⟨m,hm⟩:=h;exact DataW.trod_lt m _ _ _ hm
set_option maxRecDepth 100000 in
theorem aSm(H:Type)(enc:TypeId×Value->H)(W:h_)(base:Nat)(args:p_)(ds gs:List (DataW H))(before:List MemPlace)
  (qf:∀(j:Nat) t v,(Tryz.f3).params[j]?=some t->args[j]?=some v->Value.okWide Tryz.prog W .any base t v)
  (hW:DataW.Whole enc Tryz.prog (Tryz.f3).params.toList Rows.solidOfSpec.vars false W args.toList ds gs before) (bE:(DataW.weightsEach Tryz.prog ((Tryz.f3).params.toList++Rows.solidOfSpec.plain.varTypes Tryz.prog) (ds++gs)).all (·<=reachBytes)=true) :
  Calls Tryz.prog 3 args W λe W'=>∃ v,e=.returned v/\Rows.solidOfSpec.post enc Tryz.prog Tryz.f3 false true false false W args v W':=by
 have hW':=hW;obtain⟨p,q,hA0,hV,rfl,WK,jA⟩:=hW;have hA:DataW.TrodAll enc Tryz.prog W 0 (λ_=>true) true (Tryz.f3).params.toList args.toList ds p:=hA0;rw[Tryz.params3]at hA qf bE;obtain⟨v0,aSZ,d0,ds0,p0,q0,dw,rfl,rfl,h0,r_0⟩:=trodAll_cons hA;obtain⟨rfl,rfl,rfl⟩:=trodAll_nil r_0;obtain rfl:args=#[v0]:=by cases args;simp_all
 obtain⟨rfl,rfl⟩:=trodVars_none hV;have qt:∀ n,n<=reachBytes->n<9223372036854775807:=λn hn=>eP hn d_;have t0:=aSl h0;have k0:=h0;obtain⟨rs0,e0,l0⟩:=aRK (qf 0 22 v0 rfl rfl) h0 (λk hk=>lC (aX.1 bE k (by simp[DataW.weightsEach,hk])));have l0:=qt _ l0;have cB:tT W [te rs0] [v0]:=.cons e0 .nil;refine((aSk l0) W _ cB).mono λe W' ⟨he,bel⟩=>?_
 subst he;exact⟨_,rfl,_,_,_,[],_,[],hW',trodAll_mk1 (shut_bool Tryz.underlying4 _),trodAll_cons_mk (Below.trod laidOut k_ (lC k_) k0 bel.K9 t0) trodAll_mk0,rfl,bel.K9.frame _,λh=>by cases h⟩
end
end solidOf
namespace solidOf
section
open Go Go.ChangeShapes Go.WideShapes Go.ChangeAt Go.RowKit
def PR:p_:=#[.slice Option.none 0 0]
def aSn{H:Type}:List (DataW H):=[.nil]
def aFa(l:l_):Go.Obj->Go.Obj
 |.cells _ t frozen=>.cells (l.map λn:Nat=>Value.int .u8 n).toArray t frozen
 |o=>o
def aSo:List Nat:=[128,191,160,191,128,159,144,191,128,143,0,0,0,0,0,0,0,0,0,0,0,0,0,0,0,0,0,0,0,0,0,0]
noncomputable def Wh(os:Os):World:=
 { World.holding Tryz.prog os ⟨#[],#[],[]⟩with heap:=((World.holding Tryz.prog os ⟨#[],#[],[]⟩).heap.modify 1 (aFa Go.Pinned.utf8FirstZ)).modify 2 (aFa aSo)}
theorem aSp(os:Os):laidMet Tryz.prog Rows.solidOfRow.laid ((Wh os).forCall (λ_ _=>0) ⟨#[],PR,[]⟩).memory:=
 laidMet_of_run' 8 k_ k_
theorem reads(os:Os){H:Type}(enc:TypeId×Value->H):∃ places,DataW.whole enc Tryz.prog ((Wh os).forCall (λ_ _=>0) ⟨#[],PR,[]⟩).memory (Tryz.f3).params.toList Rows.solidOfSpec.vars false PR.toList 8=some (aSn,[],places):=
 ⟨[],by kernel_rfl⟩
set_option maxRecDepth 100000 in
theorem lifted(os:Os)(started:os.Started)(H:Type)(enc:TypeId×Value->H)(F:Stop.Interp):
  ReturnsInHanded {} Tryz.checked os 3 .any ((OpenSpec.ofChange Rows.solidOfSpec).preRow enc Tryz.prog Tryz.f3 Rows.solidOfRow.domain false Rows.solidOfRow.laid) (((OpenSpec.ofChange Rows.solidOfSpec).at F).post enc Tryz.prog Tryz.f3 false true false false):=by
 obtain⟨places,hx⟩:=reads os enc
 refine returnsInHanded_of_row (C:=Tryz.checked) (s:=OpenSpec.ofChange Rows.solidOfSpec) own started k_ Tryz.func3
  (witness_row_at (enc:=enc) (C:=Tryz.checked) false (Wh os) PR rfl k_ k_ k_
   (OpenSpec.preRow_of_cond 8 hx k_ n_ k_ (aSp os))) ?_
 intro W base args ds gs before qf hW _ _ bE hL _ _;exact aSm H enc W base args ds gs before qf hW bE
theorem said:Rows.SolidOfSaid:=
 OpenClaim.holds_of_cond 3 Tryz.f3 rfl rfl rfl rfl rfl rfl rfl ⟨rfl,rfl,rfl,rfl,rfl⟩ rfl rfl rfl rfl rfl k_ Tryz.func3 k_
  (lC k_) (by unfold Func.isWrapper;first|(rw[aq (by decide +kernel)];kernel_rfl)|(rw[al (by decide +kernel)];exact⟨rfl,rfl⟩))
  (λos started H enc _ F=>by rw[OpenClaim.pre_eq_preRow];exact lifted os started H enc F)
theorem plain(f : FuncId)(fn : Func)(hf : Tryz.pinned.checked.prog.funcNamed "culet/culetlaw07.SolidOf" = some f)(hfn : Tryz.pinned.checked.prog.funcs[f]? = some fn) :
  false=Tryz.pinned.checked.prog.looks []/\∀(j:Nat) t,fn.params[j]?=some t->Tryz.pinned.checked.prog.wantsStandIn t=false:=by
 obtain rfl : f = 3 := Option.some.inj ((show Tryz.prog.funcNamed "culet/culetlaw07.SolidOf" = some 3 by kernel_rfl).symm.trans hf) |>.symm;obtain rfl:fn=Tryz.f3:=(Option.some.inj (Tryz.func3.symm.trans hfn)).symm;refine⟨by kernel_rfl,λj t ht=>?_⟩;rw[Tryz.params3]at ht;have hm:=Array.mem_of_getElem? ht;have:∀ t∈[22],Tryz.prog.wantsStandIn t=false:=by decide +kernel
 exact this t (by simpa using hm)
end
end solidOf
theorem solidOf_card:Rows.SolidOfCardSaid:=
 Claim7.holds_tied_plain_at .later [] _ _ _ _ solidOf.said n_ k_ n_ solidOf_row_tie rfl ⟨rfl,rfl⟩ k_ rfl solidOf.plain k_
#print axioms solidOf_card
end Go.Proofs.YthccllenbnhogaaGreatDoor
