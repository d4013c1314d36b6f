/- Two cuts in either order: the proof of CutOrderCardSaid (the law's function answers true at every set it can be given; theorem cutOrder_card, last part), part 7 of 7; no condition. -/
import Derived.Test.YtjjefbkbljlgdaaGreatDoorD6
import Derived.Test.YtjjefbkbljlgdaaGreatDoorCards
import Derived.Test.YtjjefbkbljlgdaaGreatDoorTie
namespace Go.Proofs.YtjjefbkbljlgdaaGreatDoor
open Go Go.RowKit
namespace cutOrder
section
open Go Go.ChangeShapes Go.WideShapes Go.ChangeAt Go.RowKit
theorem own:ownKnob Tryz.prog.godebug=Option.none:=by kernel_rfl
theorem laidOut:laidOutB Tryz.prog=true:=by kernel_rfl
theorem XI{H:Type}{enc:TypeId×Value->H}{W:World}{t:TypeId}{v:Value}{d:DataW H}{p:List MemPlace}(h:DataW.Trod enc Tryz.prog W 0 (λ_=>true) true t v d p):∀ x∈p,x.block<W.heap.size:=by obtain⟨m,hm⟩:=h;exact DataW.trod_lt m _ _ _ hm
set_option maxRecDepth 100000 in
theorem aUq(H:Type)(enc:TypeId×Value->H)(W:World)(base:Nat)(args:Array Value)(ds gs:List (DataW H))(before:List MemPlace)
  (nA:∀(j:Nat) t v,(Tryz.f4).params[j]?=some t->args[j]?=some v->Value.okWide Tryz.prog W .any base t v)
  (hW:DataW.Whole enc Tryz.prog (Tryz.f4).params.toList Rows.cutOrderSpec.vars false W args.toList ds gs before) (bA:(DataW.weightsEach Tryz.prog ((Tryz.f4).params.toList++Rows.cutOrderSpec.plain.varTypes Tryz.prog) (ds++gs)).all (·<=reachBytes)=true) :
  Calls Tryz.prog 4 args W λe W'=>∃ v,e=.returned v/\Rows.cutOrderSpec.post enc Tryz.prog Tryz.f4 false true false false W args v W':=by
 have hW':=hW;obtain⟨p,q,hA0,hV,rfl,Ya,jS⟩:=hW;have hA:DataW.TrodAll enc Tryz.prog W 0 (λ_=>true) true (Tryz.f4).params.toList args.toList ds p:=hA0;rw[Tryz.params4]at hA nA bA;obtain⟨v0,vs0,d0,ds0,p0,q0,de,rfl,rfl,h0,r0⟩:=trodAll_cons hA;obtain⟨v1,vs1,d1,ds1,p1,q1,rfl,rfl,rfl,h1,r1⟩:=trodAll_cons r0;obtain⟨v2,vs2,d2,ds2,p2,q2,rfl,rfl,rfl,h2,r2⟩:=trodAll_cons r1;obtain⟨rfl,rfl,rfl⟩:=trodAll_nil r2;obtain rfl:args=#[v0,v1,v2]:=by cases args;simp_all
 obtain⟨rfl,rfl⟩:=trodVars_none hV;obtain⟨rs,vs,fs,hs,l0,l1,l2⟩:=aT9 (nA 0 26 v0 rfl rfl) h0 (λk hk=>kH (bf.1 bA k (sR _ hk)));have t0:=XI h0;have t1:=XI h1;have t2:=XI h2;have k1:=h1;have k2:=h2;obtain⟨r,e1⟩:=aGp (nA 1 35 v1 rfl rfl) h1;obtain⟨u,e2⟩:=aGp (nA 2 35 v2 rfl rfl) h2;have pA:∀ n,n<=reachBytes->n<9223372036854775807:=λn hn=>eW hn d_;have ct:r7 W [iS rs vs fs,.p r.v,.p u.v] [v0,v1,v2]:=.cons hs (.cons e1 (.cons e2 .nil));refine(aUo (pA _ l0) (pA _ l1) (pA _ l2) W _ ct).mono λe W' ⟨he,Q8⟩=>?_
 subst he;exact⟨_,rfl,_,_,_,[],_,[],hW',trodAll_mk1 (shut_bool Tryz.underlying4 _),aGv (Below.trod laidOut k_ (kH k_) h0 Q8.GA t0) (aGv (Below.trod laidOut k_ (kH k_) k1 Q8.GA t1) (aGv (Below.trod laidOut k_ (kH k_) k2 Q8.GA t2) trodAll_mk0)),rfl,Q8.GA.frame _,λh=>by cases h⟩
end
end cutOrder
namespace cutOrder
section
open Go Go.ChangeShapes Go.WideShapes Go.ChangeAt Go.RowKit
def zI:aj:=[.bool false,.string ByteArray.empty]
def zN:aj:=zI++zI++zI++zI++zI
def Q9:Array Value:=#[.agg #[.slice Option.none 0 0,.slice Option.none 0 0,.slice Option.none 0 0],.agg (zN++zN++zN++zN).toArray,.agg (zN++zN++zN++zN).toArray]
def dI{H:Type}:DataW H:=.agg [.lit (.bool false),.lit (.string [])]
def dN{H:Type}:DataW H:=.agg [.agg [dI,dI,dI,dI],dI]
def aUr{H:Type}:List (DataW H):=[.agg [.nil,.nil,.nil],.agg [.agg [dN,dN,dN],dN],.agg [.agg [dN,dN,dN],dN]]
def aGw(l:List Nat):Go.Obj->Go.Obj
 |.cells _ t frozen=>.cells (l.map λn:Nat=>Value.int .u8 n).toArray t frozen
 |o=>o
def aUs:List Nat:=[128,191,160,191,128,159,144,191,128,143,0,0,0,0,0,0,0,0,0,0,0,0,0,0,0,0,0,0,0,0,0,0]
noncomputable def XJ(os:Os):World:=
 { World.holding Tryz.prog os ⟨#[],#[],[]⟩with heap:=((World.holding Tryz.prog os ⟨#[],#[],[]⟩).heap.modify 1 (aGw Go.Pinned.utf8FirstZ)).modify 2 (aGw aUs)}
theorem aUt(os:Os):laidMet Tryz.prog Rows.cutOrderRow.laid ((XJ os).forCall (λ_ _=>0) ⟨#[],Q9,[]⟩).memory:=
 laidMet_of_run' 8 k_ k_
theorem reads(os:Os){H:Type}(enc:TypeId×Value->H):∃ places,DataW.whole enc Tryz.prog ((XJ os).forCall (λ_ _=>0) ⟨#[],Q9,[]⟩).memory (Tryz.f4).params.toList Rows.cutOrderSpec.vars false Q9.toList 8=some (aUr,[],places):=
 ⟨[],by kernel_rfl⟩
set_option maxRecDepth 100000 in
theorem lifted(os:Os)(started:os.Started)(H:Type)(enc:TypeId×Value->H)(F:Stop.Interp):
  ReturnsInHanded {} Tryz.checked os 4 .any ((OpenSpec.ofChange Rows.cutOrderSpec).preRow enc Tryz.prog Tryz.f4 Rows.cutOrderRow.domain false Rows.cutOrderRow.laid) (((OpenSpec.ofChange Rows.cutOrderSpec).at F).post enc Tryz.prog Tryz.f4 false true false false):=by
 obtain⟨places,hx⟩:=reads os enc
 refine returnsInHanded_of_row (C:=Tryz.checked) (s:=OpenSpec.ofChange Rows.cutOrderSpec) own started k_ Tryz.func4
  (witness_row_at (enc:=enc) (C:=Tryz.checked) false (XJ os) Q9 rfl k_ k_ k_
   (OpenSpec.preRow_of_cond 8 hx k_ n_ k_ (aUt os))) ?_
 intro W base args ds gs before nA hW _ _ bA hL _ _;exact aUq H enc W base args ds gs before nA hW bA
theorem said:Rows.CutOrderSaid:=
 OpenClaim.holds_of_cond 4 Tryz.f4 rfl rfl rfl rfl rfl rfl rfl ⟨rfl,rfl,rfl,rfl,rfl⟩ rfl rfl rfl rfl rfl k_ Tryz.func4 k_
  (kH k_) (by unfold Func.isWrapper;first|(rw[aw (by decide +kernel)];kernel_rfl)|(rw[ao (by decide +kernel)];exact⟨rfl,rfl⟩))
  (λos started H enc _ F=>by rw[OpenClaim.pre_eq_preRow];exact lifted os started H enc F)
theorem plain (f : FuncId) (fn : Func) (hf : Tryz.pinned.checked.prog.funcNamed "culet/culetlaw08.CutOrder" = some f) (hfn : Tryz.pinned.checked.prog.funcs[f]? = some fn) :
  false=Tryz.pinned.checked.prog.looks []/\∀(j:Nat) t,fn.params[j]?=some t->Tryz.pinned.checked.prog.wantsStandIn t=false:=by
 obtain rfl : f = 4 := Option.some.inj ((show Tryz.prog.funcNamed "culet/culetlaw08.CutOrder" = some 4 by kernel_rfl).symm.trans hf) |>.symm;obtain rfl:fn=Tryz.f4:=(Option.some.inj (Tryz.func4.symm.trans hfn)).symm;refine⟨by kernel_rfl,λj t ht=>?_⟩;rw[Tryz.params4]at ht;have hm:t=26\/t=35:=by simpa using Array.mem_of_getElem? ht
 rcases hm with rfl|rfl
 ·exact(show Tryz.prog.wantsStandIn 26=false by kernel_rfl)
 ·exact(show Tryz.prog.wantsStandIn 35=false by kernel_rfl)
end
end cutOrder
theorem cutOrder_card:Rows.CutOrderCardSaid:=
 Claim7.holds_tied_plain_at .later [] _ _ _ _ cutOrder.said n_ k_ n_ cutOrder_row_tie rfl ⟨rfl,rfl⟩ k_ rfl cutOrder.plain k_
#print axioms cutOrder_card
end Go.Proofs.YtjjefbkbljlgdaaGreatDoor
