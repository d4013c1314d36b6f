/- Vertices after a cut: the proof of CutVerticesCardSaid (the law's function answers true at every record and plane it can be given; theorem cutVertices_card, last part), part 7 of 7; no condition. -/
import Derived.Test.YtjjefbkbljlgdaaGreatDoorVX6
import Derived.Test.YtjjefbkbljlgdaaGreatDoorCards
import Derived.Test.YtjjefbkbljlgdaaGreatDoorTie
namespace Go.Proofs.YtjjefbkbljlgdaaGreatDoor
open Go Go.RowKit
namespace cutVertices
section
open Go Go.ChangeShapes Go.WideShapes Go.ChangeAt Go.RowKit
theorem own:ownKnob Tryz.prog.godebug=Option.none:=by kernel_rfl
theorem laidOut:laidOutB Tryz.prog=true:=by kernel_rfl
theorem aHb{H:Type}{enc:TypeId×Value->H}{W:World}{t:TypeId}{v:Value}{d:DataW H}{p:List MemPlace}(h:DataW.Trod enc Tryz.prog W 0 (λ_=>true) true t v d p):∀ x∈p,x.block<W.heap.size:=by obtain⟨m,hm⟩:=h;exact DataW.trod_lt m _ _ _ hm
set_option maxRecDepth 100000 in
theorem aVp(H:Type)(enc:TypeId×Value->H)(W:World)(base:Nat)(args:Array Value)(ds gs:List (DataW H))(before:List MemPlace)
  (oz:∀(j:Nat) t v,(Tryz.f6).params[j]?=some t->args[j]?=some v->Value.okWide Tryz.prog W .any base t v)
  (hW:DataW.Whole enc Tryz.prog (Tryz.f6).params.toList Rows.cutVerticesSpec.vars false W args.toList ds gs before) (bw:(DataW.weightsEach Tryz.prog ((Tryz.f6).params.toList++Rows.cutVerticesSpec.plain.varTypes Tryz.prog) (ds++gs)).all (·<=reachBytes)=true) :
  Calls Tryz.prog 6 args W λe W'=>∃ v,e=.returned v/\Rows.cutVerticesSpec.post enc Tryz.prog Tryz.f6 false true false false W args v W':=by
 have hW':=hW;obtain⟨p,q,hA0,hV,rfl,YB,iD⟩:=hW;have hA:DataW.TrodAll enc Tryz.prog W 0 (λ_=>true) true (Tryz.f6).params.toList args.toList ds p:=hA0;rw[Tryz.params6]at hA oz bw;obtain⟨v0,vs0,d0,ds0,p0,q0,dj,rfl,rfl,h0,r0⟩:=trodAll_cons hA;obtain⟨v1,vs1,d1,ds1,p1,q1,rfl,rfl,rfl,h1,r1⟩:=trodAll_cons r0;obtain⟨rfl,rfl,rfl⟩:=trodAll_nil r1;obtain rfl:args=#[v0,v1]:=by cases args;simp_all
 obtain⟨rfl,rfl⟩:=trodVars_none hV;obtain⟨rs,vs,fs,hs,l0,l1,l2⟩:=aUK (oz 0 26 v0 rfl rfl) h0 (λk hk=>kW (bh.1 bw k (pS _ hk)));have t0:=aHb h0;have t1:=aHb h1;have k1:=h1;obtain⟨r,e1⟩:=aUL (oz 1 35 v1 rfl rfl) h1;have pI:∀ n,n<=reachBytes->n<9223372036854775807:=λn hn=>e8 hn d_;have ct:sK W [js rs vs fs,.p r.v] [v0,v1]:=.cons hs (.cons e1 .nil);refine(aVn (pI _ l0) (pI _ l1) (pI _ l2) W _ ct).mono λe W' ⟨he,X9⟩=>?_
 subst he;exact⟨_,rfl,_,_,_,[],_,[],hW',trodAll_mk1 (shut_bool Tryz.underlying4 _),trodAll_cons_mk (Below.trod laidOut k_ (kW k_) h0 X9.Ju t0) (trodAll_cons_mk (Below.trod laidOut k_ (kW k_) k1 X9.Ju t1) trodAll_mk0),rfl,X9.Ju.frame _,λh=>by cases h⟩
end
end cutVertices
namespace cutVertices
section
open Go Go.ChangeShapes Go.WideShapes Go.ChangeAt Go.RowKit
def zI:aj:=[.bool false,.string ByteArray.empty]
def zN:aj:=zI++zI++zI++zI++zI
def RA:Array Value:=#[.agg #[.slice Option.none 0 0,.slice Option.none 0 0,.slice Option.none 0 0],.agg (zN++zN++zN++zN).toArray]
def dI{H:Type}:DataW H:=.agg [.lit (.bool false),.lit (.string [])]
def dN{H:Type}:DataW H:=.agg [.agg [dI,dI,dI,dI],dI]
def aVq{H:Type}:List (DataW H):=[.agg [.nil,.nil,.nil],.agg [.agg [dN,dN,dN],dN]]
def aHc(l:List Nat):Go.Obj->Go.Obj
 |.cells _ t frozen=>.cells (l.map λn:Nat=>Value.int .u8 n).toArray t frozen
 |o=>o
def aVr:List Nat:=[128,191,160,191,128,159,144,191,128,143,0,0,0,0,0,0,0,0,0,0,0,0,0,0,0,0,0,0,0,0,0,0]
noncomputable def Ya(os:Os):World:=
 { World.holding Tryz.prog os ⟨#[],#[],[]⟩with heap:=((World.holding Tryz.prog os ⟨#[],#[],[]⟩).heap.modify 1 (aHc Go.Pinned.utf8FirstZ)).modify 2 (aHc aVr)}
theorem aVs(os:Os):laidMet Tryz.prog Rows.cutVerticesRow.laid ((Ya os).forCall (λ_ _=>0) ⟨#[],RA,[]⟩).memory:=
 laidMet_of_run' 8 k_ k_
theorem reads(os:Os){H:Type}(enc:TypeId×Value->H):∃ places,DataW.whole enc Tryz.prog ((Ya os).forCall (λ_ _=>0) ⟨#[],RA,[]⟩).memory (Tryz.f6).params.toList Rows.cutVerticesSpec.vars false RA.toList 8=some (aVq,[],places):=
 ⟨[],by kernel_rfl⟩
set_option maxRecDepth 100000 in
theorem lifted(os:Os)(started:os.Started)(H:Type)(enc:TypeId×Value->H)(F:Stop.Interp):
  ReturnsInHanded {} Tryz.checked os 6 .any ((OpenSpec.ofChange Rows.cutVerticesSpec).preRow enc Tryz.prog Tryz.f6 Rows.cutVerticesRow.domain false Rows.cutVerticesRow.laid) (((OpenSpec.ofChange Rows.cutVerticesSpec).at F).post enc Tryz.prog Tryz.f6 false true false false):=by
 obtain⟨places,hx⟩:=reads os enc
 refine returnsInHanded_of_row (C:=Tryz.checked) (s:=OpenSpec.ofChange Rows.cutVerticesSpec) own started k_ Tryz.func6
  (witness_row_at (enc:=enc) (C:=Tryz.checked) false (Ya os) RA rfl k_ k_ k_
   (OpenSpec.preRow_of_cond 8 hx k_ n_ k_ (aVs os))) ?_
 intro W base args ds gs before oz hW _ _ bw hL _ _;exact aVp H enc W base args ds gs before oz hW bw
theorem said:Rows.CutVerticesSaid:=
 OpenClaim.holds_of_cond 6 Tryz.f6 rfl rfl rfl rfl rfl rfl rfl ⟨rfl,rfl,rfl,rfl,rfl⟩ rfl rfl rfl rfl rfl k_ Tryz.func6 k_
  (kW k_) (by unfold Func.isWrapper;first|(rw[ax (by decide +kernel)];kernel_rfl)|(rw[au (by decide +kernel)];exact⟨rfl,rfl⟩))
  (λos started H enc _ F=>by rw[OpenClaim.pre_eq_preRow];exact lifted os started H enc F)
theorem plain (f : FuncId) (fn : Func) (hf : Tryz.pinned.checked.prog.funcNamed "culet/culetlaw08.CutVertices" = some f) (hfn : Tryz.pinned.checked.prog.funcs[f]? = some fn) :
  false=Tryz.pinned.checked.prog.looks []/\∀(j:Nat) t,fn.params[j]?=some t->Tryz.pinned.checked.prog.wantsStandIn t=false:=by
 obtain rfl : f = 6 := Option.some.inj ((show Tryz.prog.funcNamed "culet/culetlaw08.CutVertices" = some 6 by kernel_rfl).symm.trans hf) |>.symm;obtain rfl:fn=Tryz.f6:=(Option.some.inj (Tryz.func6.symm.trans hfn)).symm;refine⟨by kernel_rfl,λj t ht=>?_⟩;rw[Tryz.params6]at ht;have hm:t=26\/t=35:=by simpa using Array.mem_of_getElem? ht
 rcases hm with rfl|rfl
 ·exact(show Tryz.prog.wantsStandIn 26=false by kernel_rfl)
 ·exact(show Tryz.prog.wantsStandIn 35=false by kernel_rfl)
end
end cutVertices
theorem cutVertices_card:Rows.CutVerticesCardSaid:=
 Claim7.holds_tied_plain_at .later [] _ _ _ _ cutVertices.said n_ k_ n_ cutVertices_row_tie rfl ⟨rfl,rfl⟩ k_ rfl cutVertices.plain k_
#print axioms cutVertices_card
end Go.Proofs.YtjjefbkbljlgdaaGreatDoor
