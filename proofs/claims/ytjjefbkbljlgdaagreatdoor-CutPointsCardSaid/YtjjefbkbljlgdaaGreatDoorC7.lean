/- Points of a cut set: the proof of CutPointsCardSaid (the law's function answers true at every set it can be given; theorem cutPoints_card, last part), part 7 of 7; no condition. -/
import Derived.Test.YtjjefbkbljlgdaaGreatDoorC6
import Derived.Test.YtjjefbkbljlgdaaGreatDoorCards
import Derived.Test.YtjjefbkbljlgdaaGreatDoorTie
namespace Go.Proofs.YtjjefbkbljlgdaaGreatDoor
open Go Go.RowKit
namespace cutPoints
section
open Go Go.ChangeShapes Go.WideShapes Go.ChangeAt Go.RowKit
theorem own:ownKnob Tryz.prog.godebug=Option.none:=by kernel_rfl
theorem laidOut:laidOutB Tryz.prog=true:=by kernel_rfl
theorem XJ{H:Type}{enc:TypeId×Value->H}{W:World}{t:TypeId}{v:Value}{d:DataW H}{p:List MemPlace}(h:DataW.Trod enc Tryz.prog W 0 (λ_=>true) true t v d p):∀ x∈p,x.block<W.heap.size:=by obtain⟨m,hm⟩:=h;exact DataW.trod_lt m _ _ _ hm
set_option maxRecDepth 100000 in
theorem aUs(H:Type)(enc:TypeId×Value->H)(W:World)(base:Nat)(args:Array Value)(ds gs:List (DataW H))(before:List MemPlace)
  (kE:∀(j:Nat) t v,(Tryz.f3).params[j]?=some t->args[j]?=some v->Value.okWide Tryz.prog W .any base t v)
  (hW:DataW.Whole enc Tryz.prog (Tryz.f3).params.toList Rows.cutPointsSpec.vars false W args.toList ds gs before) (bH:(DataW.weightsEach Tryz.prog ((Tryz.f3).params.toList++Rows.cutPointsSpec.plain.varTypes Tryz.prog) (ds++gs)).all (·<=reachBytes)=true) :
  Calls Tryz.prog 3 args W λe W'=>∃ v,e=.returned v/\Rows.cutPointsSpec.post enc Tryz.prog Tryz.f3 false true false false W args v W':=by
 have hW':=hW;obtain⟨p,q,hA0,hV,rfl,Yb,jQ⟩:=hW;have hA:DataW.TrodAll enc Tryz.prog W 0 (λ_=>true) true (Tryz.f3).params.toList args.toList ds p:=hA0;rw[Tryz.params3]at hA kE bH;obtain⟨v0,vs0,d0,ds0,p0,q0,df,rfl,rfl,h0,r0⟩:=trodAll_cons hA;obtain⟨v1,vs1,d1,ds1,p1,q1,rfl,rfl,rfl,h1,r1⟩:=trodAll_cons r0;obtain⟨v2,vs2,d2,ds2,p2,q2,rfl,rfl,rfl,h2,r2⟩:=trodAll_cons r1;obtain⟨rfl,rfl,rfl⟩:=trodAll_nil r2;obtain rfl:args=#[v0,v1,v2]:=by cases args;simp_all
 obtain⟨rfl,rfl⟩:=trodVars_none hV;obtain⟨rs,vs,fs,hs,l0,l1,l2⟩:=aUp (kE 0 26 v0 rfl rfl) h0 (λk hk=>kH (bh.1 bH k (sO _ hk)));have t0:=XJ h0;have t1:=XJ h1;have t2:=XJ h2;have k1:=h1;have k2:=h2;obtain⟨r,e1⟩:=aUq (kE 1 35 v1 rfl rfl) h1;obtain⟨a,b,c,la,lb,lc,e2⟩:=aUr (kE 2 36 v2 rfl rfl) h2;have pj:∀ n,n<=reachBytes->n<9223372036854775807:=λn hn=>eL hn d_;have ct:rZ W [jk rs vs fs,.p r.v,.p (wC a b c)] [v0,v1,v2]:=.cons hs (.cons e1 (.cons e2 .nil));refine(aUc (pj _ l0) (pj _ l1) (pj _ l2) la lb lc W _ ct).mono λe W' ⟨he,Q1⟩=>?_
 subst he;exact⟨_,rfl,_,_,_,[],_,[],hW',trodAll_mk1 (shut_bool Tryz.underlying4 _),aGy (Below.trod laidOut k_ (kH k_) h0 Q1.Gq t0) (aGy (Below.trod laidOut k_ (kH k_) k1 Q1.Gq t1) (aGy (Below.trod laidOut k_ (kH k_) k2 Q1.Gq t2) trodAll_mk0)),rfl,Q1.Gq.frame _,λh=>by cases h⟩
end
end cutPoints
namespace cutPoints
section
open Go Go.ChangeShapes Go.WideShapes Go.ChangeAt Go.RowKit
def zI:aj:=[.bool false,.string ByteArray.empty]
def zN:aj:=zI++zI++zI++zI++zI
def Q2:Array Value:=#[.agg #[.slice Option.none 0 0,.slice Option.none 0 0,.slice Option.none 0 0],.agg (zN++zN++zN++zN).toArray,.agg #[.int .u8 0,.int .u8 0,.int .u8 0]]
def dI{H:Type}:DataW H:=.agg [.lit (.bool false),.lit (.string [])]
def dN{H:Type}:DataW H:=.agg [.agg [dI,dI,dI,dI],dI]
def aUt{H:Type}:List (DataW H):=[.agg [.nil,.nil,.nil],.agg [.agg [dN,dN,dN],dN],.agg [.lit (.int .u8 0),.lit (.int .u8 0),.lit (.int .u8 0)]]
def aGz(l:List Nat):Go.Obj->Go.Obj
 |.cells _ t frozen=>.cells (l.map λn:Nat=>Value.int .u8 n).toArray t frozen
 |o=>o
def aUu:List Nat:=[128,191,160,191,128,159,144,191,128,143,0,0,0,0,0,0,0,0,0,0,0,0,0,0,0,0,0,0,0,0,0,0]
noncomputable def XK(os:Os):World:=
 { World.holding Tryz.prog os ⟨#[],#[],[]⟩with heap:=((World.holding Tryz.prog os ⟨#[],#[],[]⟩).heap.modify 1 (aGz Go.Pinned.utf8FirstZ)).modify 2 (aGz aUu)}
theorem aUv(os:Os):laidMet Tryz.prog Rows.cutPointsRow.laid ((XK os).forCall (λ_ _=>0) ⟨#[],Q2,[]⟩).memory:=
 laidMet_of_run' 8 k_ k_
theorem reads(os:Os){H:Type}(enc:TypeId×Value->H):∃ places,DataW.whole enc Tryz.prog ((XK os).forCall (λ_ _=>0) ⟨#[],Q2,[]⟩).memory (Tryz.f3).params.toList Rows.cutPointsSpec.vars false Q2.toList 8=some (aUt,[],places):=
 ⟨[],by kernel_rfl⟩
set_option maxRecDepth 100000 in
theorem lifted(os:Os)(started:os.Started)(H:Type)(enc:TypeId×Value->H)(F:Stop.Interp):
  ReturnsInHanded {} Tryz.checked os 3 .any ((OpenSpec.ofChange Rows.cutPointsSpec).preRow enc Tryz.prog Tryz.f3 Rows.cutPointsRow.domain false Rows.cutPointsRow.laid) (((OpenSpec.ofChange Rows.cutPointsSpec).at F).post enc Tryz.prog Tryz.f3 false true false false):=by
 obtain⟨places,hx⟩:=reads os enc
 refine returnsInHanded_of_row (C:=Tryz.checked) (s:=OpenSpec.ofChange Rows.cutPointsSpec) own started k_ Tryz.func3
  (witness_row_at (enc:=enc) (C:=Tryz.checked) false (XK os) Q2 rfl k_ k_ k_
   (OpenSpec.preRow_of_cond 8 hx k_ n_ k_ (aUv os))) ?_
 intro W base args ds gs before kE hW _ _ bH hL _ _;exact aUs H enc W base args ds gs before kE hW bH
theorem said:Rows.CutPointsSaid:=
 OpenClaim.holds_of_cond 3 Tryz.f3 rfl rfl rfl rfl rfl rfl rfl ⟨rfl,rfl,rfl,rfl,rfl⟩ rfl rfl rfl rfl rfl k_ Tryz.func3 k_
  (kH k_) (by unfold Func.isWrapper;first|(rw[aw (by decide +kernel)];kernel_rfl)|(rw[ao (by decide +kernel)];exact⟨rfl,rfl⟩))
  (λos started H enc _ F=>by rw[OpenClaim.pre_eq_preRow];exact lifted os started H enc F)
theorem plain (f : FuncId) (fn : Func) (hf : Tryz.pinned.checked.prog.funcNamed "culet/culetlaw08.CutPoints" = some f) (hfn : Tryz.pinned.checked.prog.funcs[f]? = some fn) :
  false=Tryz.pinned.checked.prog.looks []/\∀(j:Nat) t,fn.params[j]?=some t->Tryz.pinned.checked.prog.wantsStandIn t=false:=by
 obtain rfl : f = 3 := Option.some.inj ((show Tryz.prog.funcNamed "culet/culetlaw08.CutPoints" = some 3 by kernel_rfl).symm.trans hf) |>.symm;obtain rfl:fn=Tryz.f3:=(Option.some.inj (Tryz.func3.symm.trans hfn)).symm;refine⟨by kernel_rfl,λj t ht=>?_⟩;rw[Tryz.params3]at ht;have hm:t=26\/t=35\/t=36:=by simpa using Array.mem_of_getElem? ht
 rcases hm with rfl|rfl|rfl
 ·exact(show Tryz.prog.wantsStandIn 26=false by kernel_rfl)
 ·exact(show Tryz.prog.wantsStandIn 35=false by kernel_rfl)
 ·exact(show Tryz.prog.wantsStandIn 36=false by kernel_rfl)
end
end cutPoints
theorem cutPoints_card:Rows.CutPointsCardSaid:=
 Claim7.holds_tied_plain_at .later [] _ _ _ _ cutPoints.said n_ k_ n_ cutPoints_row_tie rfl ⟨rfl,rfl⟩ k_ rfl cutPoints.plain k_
#print axioms cutPoints_card
end Go.Proofs.YtjjefbkbljlgdaaGreatDoor
