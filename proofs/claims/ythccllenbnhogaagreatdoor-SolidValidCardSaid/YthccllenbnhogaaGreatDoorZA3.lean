/- Valid records and points: the proof of SolidValidCardSaid (the law's function answers true at every record and vector; theorem solidValid_card, last part), part 3 of 7; no condition. -/
import Derived.Test.YthccllenbnhogaaGreatDoorZA2
namespace Go.Proofs.YthccllenbnhogaaGreatDoor
open Go Go.RowKit Tryz
variable{i m a q b j size e d off cc N n2 len k1 n1 k2 D A U a1 m1:Nat}{w w':h_}{ι κ bJ:Map}{o:Oper}{c:g_}{f:FuncId}{B Bs:ae}{t:Bool}{fr:aM}{ty:TypeId}{M L Os Vs cy:aE}{z:Int}{xs args vs ca cells' args' ew pre:ah}{α:Type}{fn:Func}{fs:f_}{u v' res:i_}{F:Fact}{P:j_}{Q:Ending->World->Prop}{ks:List (Value×ah)}{ns:l_}{ep:Code}
def E5(D:Nat):Deferred:={ target:=.collected D,args:=#[]}
def ae.held(B:ae)(D:Nat):ae where
 G w:=B.G w/\w.heap[D]?=some (.deferred (some []))
 cM k:=B.cM k\/k=D
 ds:=E5 D::B.ds
 Fa:=B.Fa
 mp:=B.mp
 lt w k h hk:=by
  rcases hk with hk|rfl
  ·exact B.lt w k h.1 hk
  ·exact(wG.1 h.2).1
 dep w w' h h1 h2 h3 h4 h5:=⟨B.dep w w' h.1 h1 h2 h3 h4 λk hk=>h5 k (.inl hk),(h5 D (.inr rfl)).trans h.2⟩
section
variable{P:j_}{B:ae}{N next:Nat}
def aKd(P:j_)(Q:Exit->Act->World->Prop)(j:Option Code)(a:Act)(w:h_):Prop:=
 match j with
 |none=>Q .normal a w
 |some c=>c.wpIn (FW none) 0 P Q a w
def J8(P:j_)(next N:Nat)(ps:Array Tmp)(ep dB:Code)(fr:aM)(Os Vs cy:aE)(ι:Map)(T:p_)(gf:FuncId)(ca:ah)(j:Option Code):Prop:=
 A6 next N fr ι T->∀(cB l D:Nat) (W1:h_) (S:Nat->Prop) (κ:Map) (c:g_) (W:h_) (gC:ah),aJ (oH W1 l S ι) κ c W->
   cX c ((next,.fact (ft l (gy cB T ps ep dB D)))::(Os++Vs))->eH c (next+1)->bL (aH κ) ca gC->
   Calls P gf (.func (.yield l) #[] #[]::gC).toArray W λe W'=>∃ v CY c',e=.returned v/\Map.le κ CY/\aJ (oH W1 l S ι) CY c' W'/\cX c' ((next,.fact (ft l (uz (gy cB T ps ep dB D) j)))::(cy++Vs))/\
    ∀ k,k<next->c k=none->c' k=none
theorem T3{next':Nat}{cc:g_}{a:Act}{g:m_}{gf:FuncId}{ps:Array Tmp}{dB:Code}{j:Option Code}{Q:Exit->Act->World->Prop}
  (hf:fD B ι (bC fr) N a) (hm:aJ B ι cc w) (hL:cX cc (Os++Vs)) (hu:eH cc next) (eC:(Os.all λp=>p.2.owns)=true) (jV:(Vs.all λp=>p.2.soft)=true)
  (hg:fV (bC fr) g=.func (.func gf) #[] ca.toArray) (aKe:L9 g=true) (eK:fW P gf=true)
  (kV:(cy.all λp=>TO Os p.1||ns.contains p.1)=true) (T4:(ns.all (TO cy))=true) (iP:(ns.all λk=>Nat.blt next k&&Nat.blt k next')=true) (D1:next<=next') (uy:(cy.all λp=>p.2.owns)=true) (du:∀ p∈cy++Vs,∀ v∈p.2.cells,pW next ns v=true)
  (vj:J8 P next N ps ep dB fr Os Vs cy ι a.tmps gf ca j)
  (hQ:∀ D κ bX w',(∀ k,B.cM k->k≠D)->w.heap.size<=D->Map.le ι κ->fD (B.held D) κ (bC fr) N { a with defers:=E5 D::a.defers }->aJ (B.held D) κ bX w'->cX bX (cy++Vs)->eH bX next'->aKd P Q j { a with defers:=E5 D::a.defers } w'):(Code.rangeFunc g ps ep dB).wpIn (FW none) 0 P Q a w:=by
 have hO:cX cc Os:=λk x e=>hL k x (by rw[jz,e]);have eC:∀ k x,ai Os k=some x->x.owns=true:=λk x h=>A4 eC h;have jV:∀ k x,ai Vs k=some x->x.soft=true:=λk x h=>A4 jV h;have uy:∀ k x,ai cy k=some x->x.owns=true:=λk x h=>A4 uy h;have du:∀ k x,ai (cy++Vs) k=some x->∀ v∈x.cells,pW next ns v=true:=λk x h=>du _ (iQ h);have iP:∀ k,ns.contains k=true->next<k/\k<next':=λk h=>by have:=aY.1 iP k (by simpa using h);simpa[yu]using this
 have T4:∀ k,ns.contains k=true->ai cy k≠none:=λk h=>aAF (aY.1 T4 k (by simpa using h));have kV:∀ k x,ai cy k=some x->ai Os k≠none\/ns.contains k=true:=λk x e=>by have:=aY.1 kV _ (iQ e);rw[rH]at this;exact this.imp aAF id
 have aAR:=λk x e hx=>TP (Os:=Os) jV (k:=k) (x:=x) e hx;have aAS:=λk F e=>N8 (Os:=Os) eC jV (k:=k) (F:=F) e;have aAT:∀ k lc,ι k=some lc->k<next:=λk lc e=>by
  rcases eU k next with h|h
  ·exact h
  ·rw[hm.dw k (hu k h)]at e;cases e
 have Ee:=XJ hf aKe (by rw[hg];rfl);rw[hg]at Ee;obtain⟨jK,gC,he,h1,h2⟩:=Ee.z7;have ef:jK=#[]:=by
  cases j5:jK.toList with
  |nil=>exact Hz.1 j5
  |cons _ _=>rw[j5]at h1;cases h1
 subst ef;refine wpIn_rangeFunc ?_;intro cB _;obtain⟨W1,J9⟩:∃ W1,(w.alloc (.deferred (some []))).alloc (.loop (gy cB a.tmps ps ep dB w.heap.size))=W1:=⟨_,rfl⟩;have Cu:=run_enterLoop_outer (P:=P) (w:=w) cB a.tmps ps ep dB;rw[show({ state:=.ready,pending:=none,fn:=cB,tmps:=a.tmps,params:=ps,assign:=ep,body:=dB,defers:=w.heap.size }:Loop)=gy cB a.tmps ps ep dB w.heap.size from rfl,J9]at Cu;have pG:Below w.heap.size w W1:=by rw[<-J9];exact((Below.refl _ w).alloc (bh _) _).alloc s_ _
 have aAU:W1.heap.size=w.heap.size+2:=by rw[<-J9];simp
 have hL1:W1.heap[w.heap.size+1]?=some (.loop (gy cB a.tmps ps ep dB w.heap.size)):=by rw[<-J9];have:=World.alloc_heap_new (w.alloc (.deferred (some []))) (.loop (gy cB a.tmps ps ep dB w.heap.size));rwa[World.size_alloc]at this
 have hK1:W1.heap[w.heap.size]?=some (.deferred (some [])):=by rw[<-J9];exact(QP _ _ _ s_).trans (World.alloc_heap_new w _)
 obtain⟨S,hS⟩:∃ S:Nat->Prop,∀ b,S b↔∃ k x o cap,ai Os k=some x/\ι k=some (.at b o cap):=⟨_,λb=>Iff.rfl⟩;have Of:∀ b,S b->b<w.heap.size/\¬B.cM b:=λb hb=>by obtain⟨k,x,o,cap,e1,e2⟩:=(hS b).1 hb;exact hm.own k x b o cap (hO k x e1) (eC k x e1) e2
 have aKf:∀ k x,ai (Os++Vs) k=some x->∃ lc,ι k=some lc:=λk x e=>by obtain⟨lc,q,_⟩:=hm.born k x (hL k x e);exact⟨lc,q⟩
 refine⟨w.heap.size+1,[{ target:=.collected w.heap.size,args:=#[]}],W1,{ target:=.fn (.func gf) gC,args:=#[.func (.yield (w.heap.size+1)) #[] #[]]},W1,gf,#[.func (.yield (w.heap.size+1)) #[] #[]]++gC,W1,Cu,?_,λ_ _=>trivial,?_,λe=>(by cases e),?_⟩
 ·simp only[resolve,he];simp[go_sem]
 ·have:=Md (P:=P) eK (#[.func (.yield (w.heap.size+1)) #[] #[]]++gC) W1;simpa[invoke,go_sem]using this
 ·have hmW:=hm.call pG
  -- the aUg memory
  have cS:aJ (oH W1 (w.heap.size+1) S ι) ι (λk=>match ai (Os++Vs) k with|some x=>some x|none=>(cc k).map λ_=>.dead) W1:=by
   refine N5 (L:=Os++Vs) hmW hL (λ_ _ _=>rfl) (λk x lc _ _ h=>h) ⟨.refl _,rfl,rfl,bh _,λ_ _ _ _=>rfl⟩ (λk x b o cap e hx hl hF=>?_) (bh _) (λk e=>?_) (λk x e=>?_) (λk F e hr=>by rw[aAS k F e]at hr;cases hr) (λ_ _ _ _ _ _ h=>h) (Map.le.refl _)
   ·exact hF.2.1 ((hS b).2 ⟨k,x,o,cap,aAR k x e hx,hl⟩)
   ·split at e
    ·cases e
    ·cases hc:cc k with
     |none=>exact hm.dw k hc
     |some y=>rw[hc]at e;cases e
   ·split at e
    ·rename_i y hy;injection e with e;subst e;exact .inl hy
    ·cases hc:cc k with
     |none=>rw[hc]at e;cases e
     |some y=>
      rw[hc]at e;injection e with e;obtain⟨lc,q,_⟩:=hm.born k y hc;exact .inr ⟨e.symm,lc,q⟩
  generalize gj:(λk=>match ai (Os++Vs) k with|some x=>some x|none=>(cc k).map λ_=>Obj.dead:g_)=c1 at cS;have Ka:ai (Os++Vs) next=none:=Hw hL (hu next (bh _));have aAV:∀ k,next<=k->c1 k=none:=λk hk=>by rw[<-gj];simp only[Hw hL (hu k hk),hu k hk,aAW]
  have aKg:∀ k x,ai (Os++Vs) k=some x->c1 k=some x:=λk x e=>by rw[<-gj];simp only[e]
  have aKh:∀ k F,c1 k=some (.fact F)->F.rc=false:=λk F e=>by
   rw[<-gj]at e;dsimp only at e;split at e
   ·rename_i y hy;injection e with e;subst e;exact aAS k F hy
   ·cases hc:cc k with
    |none=>rw[hc]at e;cases e
    |some y=>rw[hc]at e;cases e
  have dx:=cS.add (k:=next) (x:=.fact (ft (w.heap.size+1) (gy cB a.tmps ps ep dB w.heap.size))) (l:=.val undef) (aAV next (bh _)) ⟨undef,rfl,hL1⟩ n_
   (λF v b e _ hF jj y o' bj hj hy hl=>by
    injection e with e;subst e;have hF:b=w.heap.size+1:=hF;obtain⟨q1,q2⟩:=cS.own jj y b o' bj hj hy hl;have:∃ lc,ι jj=some lc:=⟨_,hl⟩;have gH:b<w.heap.size:=by
     refine(Of b ?_).1;have pd:=hj;rw[<-gj]at pd;dsimp only at pd;split at pd
     ·rename_i z hz;injection pd with pd;subst pd;exact(hS b).2 ⟨jj,z,o',bj,aAR jj z hz hy,hl⟩
     ·cases hc:cc jj with
      |none=>rw[hc]at pd;cases pd
      |some z=>rw[hc]at pd;injection pd with pd;subst pd;cases hy
    omega)
   n_ (λF e _=>⟨by injection e with e;exact⟨_,e.symm⟩,λjj F' hj=>aKh jj F' hj⟩)
  have kC:Map.le ι (dD ι next (.val undef)):=gu (hm.dw next (hu next (bh _)));have oI:A6 next N fr ι a.tmps:=⟨hf.size,hf.slot,aAT⟩
  have gS:=vj oI cB (w.heap.size+1) w.heap.size W1 S (dD ι next (.val undef)) (aV c1 next (.fact (ft (w.heap.size+1) (gy cB a.tmps ps ep dB w.heap.size)))) W1 gC.toList dx
   (λk x e=>by
    unfold aV;by_cases hk:k=next
    ·subst hk;rw[au rfl];have:ai ((k,Obj.fact (ft (w.heap.size+1) (gy cB a.tmps ps ep dB w.heap.size)))::(Os++Vs)) k=some (.fact (ft (w.heap.size+1) (gy cB a.tmps ps ep dB w.heap.size))):=by show(if Nat.beq k k then _ else _)=_;simp
     rw[this]at e;exact e
    ·rw[al hk];have:ai ((next,Obj.fact (ft (w.heap.size+1) (gy cB a.tmps ps ep dB w.heap.size)))::(Os++Vs)) k=ai (Os++Vs) k:=by show(if Nat.beq next k then _ else _)=_;rw[om (mB hk)];rfl
     rw[this]at e;exact aKg k x e)
   (λk hk=>by unfold aV;rw[al o_];exact aAV k o_) (by
    have:bL (aH ι) ca gC.toList:=by simpa using h2
    exact mY kC this)
  have aKi:(.func (.yield (w.heap.size+1)) #[] #[]::gC.toList:ah).toArray=#[.func (.yield (w.heap.size+1)) #[] #[]]++gC:=by apply D2;simp
  rw[aKi]at gS;refine IW.2 (gS.mono ?_)
  rintro e W2 ⟨v,CY,c',rfl,tW,bo,gV,gU⟩
  have hg':c' next=some (.fact (ft (w.heap.size+1) (uz (gy cB a.tmps ps ep dB w.heap.size) j))):=gV next _ (by show(if Nat.beq next next then _ else _)=_;simp);have hO2:ai Os next=none:=by
   rw[jz]at Ka;cases e:ai Os next with
   |none=>rfl
   |some x=>rw[e]at Ka;cases Ka
  have hV2:ai Vs next=none:=by rw[jz,hO2]at Ka;exact Ka
  have aKj:ai cy next=none:=by
   cases e:ai cy next with
   |none=>rfl
   |some x=>
    rcases kV next x e with h|h
    ·exact absurd hO2 h
    ·have:=(iP next h).1;omega
  have aKk:ai (cy++Vs) next=none:=by rw[jz,aKj];exact hV2
  have fX:cX c' (cy++Vs):=λk x e=>gV k x (by
   by_cases hk:k=next
   ·subst hk;rw[aKk]at e;cases e
   ·show(if Nat.beq next k then _ else _)=_;rw[om (mB hk)];exact e)
  have uB:=run_endLoop (P:=P) (E2 bo hg') (by cases j<;>simp[uz]);refine⟨j,_,uB,?_⟩
  -- the marks of the list
  have aAX:∀ k x,ai (cy++Vs) k=some x->ns.contains k=true\/∃ y,ai (Os++Vs) k=some y:=λk x e=>by
   rw[jz]at e;cases e1:ai cy k with
   |some z=>
    rcases kV k z e1 with h|h
    ·cases e2:ai Os k with
     |none=>exact absurd e2 h
     |some y=>exact .inr ⟨y,by rw[jz,e2]⟩
    ·exact .inl h
   |none=>
    rw[e1]at e;cases e2:ai Os k with
    |some y=>exact .inr ⟨y,by rw[jz,e2]⟩
    |none=>exact .inr ⟨x,by rw[jz,e2];exact e⟩
  have aKl:∀ k x,ai (cy++Vs) k=some x->jl ι CY ns k=CY k:=λk x e=>by
   unfold jl;by_cases hc:ns.contains k=true
   ·rw[au hc]
   ·rw[al hc];rcases aAX k x e with h|⟨y,e1⟩
    ·exact absurd h hc
    ·obtain⟨lc,q⟩:=aKf k y e1;rw[q,tW k lc (kC k lc q)]
  have Og:Map.le ι (jl ι CY ns):=λk lc e=>by
   unfold jl;by_cases hc:ns.contains k=true
   ·have:=aAT k lc e;have:=(iP k hc).1;omega
   ·rw[al hc];exact e
  have aKm:∀ k,k<next->∀ lc,CY k=some lc->ι k=some lc:=λk hk lc e=>by
   cases q:ι k with
   |some Hx=>have:=tW k Hx (kC k Hx q);rw[e]at this;exact this.symm
   |none=>
    exfalso;have A8:cc k=none:=by
     cases hc:cc k with
     |none=>rfl
     |some y=>obtain⟨Hx,q',_⟩:=hm.born k y hc;rw[q]at q';cases q'
    have B7:ai (Os++Vs) k=none:=by
     cases e1:ai (Os++Vs) k with
     |none=>rfl
     |some y=>rw[hL k y e1]at A8;cases A8
    have:c' k=none:=gU k hk (by unfold aV;rw[al o_,<-gj];simp only[B7,A8,aAW])
    rw[bo.dw k this]at e;cases e
  have r6:=TL (E2 bo hg');have hDS:¬S w.heap.size:=λh=>by have:=(Of _ h).1;omega
  have aAY:∀ b,b<w.heap.size+2->¬S b->b≠w.heap.size+1->W2.heap[b]?=W1.heap[b]?:=λb hb hs hl=>bo.base.2.2.2.2 b (by rw[aAU];exact hb) hs hl;have aUh:w.heap.size+2<=W2.heap.size:=by rw[<-aAU];exact bo.base.2.2.2.1
  have Kb:∀(o:Go.Obj) b,b≠w.heap.size+1->(W2.putObj (w.heap.size+1) o).heap[b]?=W2.heap[b]?:=λo b hb=>TN hb;have CZ:∀ k,B.cM k->k≠w.heap.size:=λk hk=>by have:=B.lt w k hm.base hk;omega
  have T5:=λk F e=>N8 (Os:=cy) uy jV (k:=k) (F:=F) e;have uY:∀ o:Go.Obj,aJ (B.held w.heap.size) (jl ι CY ns) (λk=>match ai (cy++Vs) k with|some x=>some x|none=>(cc k).map λ_=>.dead) (W2.putObj (w.heap.size+1) o):=λo=>by
   refine N5 (L:=cy++Vs) bo fX aKl (λk x lc e q ho=>?_) ⟨?_,?_⟩ (λk x b oo cap e hx hl hF=>?_) (by rw[qS];exact bh _) (λk e=>?_) (λk x e=>?_) (λk F e hr=>by rw[T5 k F e]at hr;cases hr) (λk F v b e q hF=>?_) (hm.rC.trans Og)
   ·exact N4 r6 (aAI (K:=next) aKm (du k x e) ho) (λF ef=>T5 k F (ef▸e)) (by rw[qS];exact bh _) (λb _ _ _ _=>(Nat.decEq b (w.heap.size+1)).casesOn (λhb=>.inr (Kb o b hb)) λhb=>.inl hb) λF v b _ _ _=>(Nat.decEq b (w.heap.size+1)).casesOn (λhb=>.inr (Kb o b hb)) λhb=>.inl hb
   ·refine B.dep w _ hm.base ?_ ?_ ?_ ?_ λk hk=>?_
    ·exact bo.base.1.trans pG.os
    ·exact bo.base.2.1.trans pG.tape
    ·exact bo.base.2.2.1.trans pG.output
    ·rw[qS];omega
    ·have J5:=B.lt w k hm.base hk;rw[Kb o k o_,aAY k o_ (λhs=>(Of k hs).2 hk) o_];exact pG.block k J5
   ·rw[Kb o _ o_,aAY _ o_ hDS o_];exact hK1
   ·have q:=(bo.own k x b oo cap (fX k x e) hx hl).2;have gH:b≠w.heap.size+1:=λhb=>by obtain⟨lc,q1,q2⟩:=bo.born k x (fX k x e);rw[hl]at q1;injection q1 with q1;subst q1;obtain⟨cs,ty,q3⟩:=aAC q2 hx;subst hb;exact r6 _ _ _ q3
    by_cases hs:S b
    ·obtain⟨p1,p2⟩:=Of b hs;rcases hF with hF|hF
     ·exact p2 hF
     ·omega
    ·have fG:¬b<W1.heap.size:=λhb=>q ⟨hb,hs,gH⟩;rcases hF with hF|hF
     ·have:=B.lt w b hm.base hF;omega
     ·omega
   ·split at e
    ·cases e
    ·rename_i fJ;have aKn:ns.contains k=false:=by
      cases hx:ns.contains k with
      |false=>rfl
      |true=>
       have:=T4 k hx;rw[jz]at fJ;cases e1:ai cy k with
       |none=>exact absurd e1 this
       |some z=>rw[e1]at fJ;cases fJ
     unfold jl;rw[aKn];cases hc:cc k with
     |none=>exact hm.dw k hc
     |some y=>rw[hc]at e;cases e
   ·split at e
    ·rename_i y hy;injection e with e;subst e;exact .inl hy
    ·rename_i fJ;cases hc:cc k with
     |none=>rw[hc]at e;cases e
     |some y=>
      rw[hc]at e;injection e with e;obtain⟨lc,q,_⟩:=hm.born k y hc;exact .inr ⟨e.symm,lc,Og k lc q⟩
   ·obtain⟨lc,q1,v',q2,q3⟩:=bo.born k _ (fX k _ e);rw[q]at q1;injection q1 with q1;subst q1;injection q2 with q2;subst q2;refine(F.soft (T5 k F e) v W2 _ q3 (by rw[qS];exact bh _) λk2 gi cs ty f hc=>?_).2 b hF;rw[Kb o k2 (λe=>by subst e;exact r6 _ _ _ hc)];exact hc
  have fin:=hQ w.heap.size _ _ _ CZ (bh _) Og ⟨by show E5 _::a.defers=E5 _::B.ds;rw[hf.defers],hf.size,λt=>(hf.slot t).mono Og⟩ (uY (.loop { uz (gy cB a.tmps ps ep dB w.heap.size) j with state:=.exhausted })) (λk x e=>by simp only[e]) (λk hk=>by
   have:ai (cy++Vs) k=none:=by
    cases e:ai (cy++Vs) k with
    |none=>rfl
    |some x=>
     rcases aAX k x e with h|⟨y,e1⟩
     ·have:=(iP k h).2;omega
     ·have:=hL _ _ e1;rw[hu k o_]at this;cases this
   simp only[this,hu k (dc D1 hk),aAW])
  cases j with
  |none=>exact fin
  |some cj=>exact fin
theorem aAZ{W:h_}(h:aJ (B.held D) ι c W)(pz:∀ F,¬B.Fa F)(hD:∀ k,B.cM k->k≠D):aJ B ι c (W.putObj D (.deferred none)):=by
 have r6:=aJ4 h.base.2;have ne:∀ b,b≠D->(W.putObj D (.deferred none)).heap[b]?=W.heap[b]?:=λb hb=>TN hb;refine⟨B.dep W _ h.base.1 ⟨rfl,bh _⟩ rfl rfl (by rw[qS];exact bh _) λk hk=>ne k (hD k hk),h.dw,?_,?_,h.inj,?_,?_,h.fa,h.one,h.rC⟩
 ·intro k x hk;obtain⟨l,q1,q2⟩:=h.born k x hk;refine⟨l,q1,N4 r6 q2 (λF e=>?_) (by rw[qS];exact bh _) (λb _ _ _ _=>(Nat.decEq b D).casesOn (λhb=>.inr (ne b hb)) λhb=>.inl hb) λF v b _ _ _=>(Nat.decEq b D).casesOn (λhb=>.inr (ne b hb)) λhb=>.inl hb⟩;subst e;cases hr:F.rc with
  |false=>rfl
  |true=>exact absurd (h.fa k F hk hr) (pz F)
 ·intro k x b o cap hk hx hl;rw[qS];exact⟨(h.own k x b o cap hk hx hl).1,λhF=>(h.own k x b o cap hk hx hl).2 (.inl hF)⟩
 ·intro k j x F b o cap v hk hx hl hj hv hF;obtain⟨lc,q1,v',q2,q3⟩:=h.born j _ hj;rw[hv]at q1;injection q1 with q1;subst q1;injection q2 with q2;subst q2;have hr:F.rc=false:=by
   cases hr:F.rc with
   |false=>rfl
   |true=>exact absurd (h.fa j F hj hr) (pz F)
  refine h.apart k j x F b o cap v hk hx hl hj hv ((F.soft hr v W _ q3 (by rw[qS];exact bh _) λk2 gi cs ty f hc=>?_).2 b hF);rw[ne k2 (λe=>by subst e;exact r6 _ _ _ hc)];exact hc
 ·intro k x b o cap hk hx hl;rw[qS];exact h.seen k x b o cap hk hx hl
theorem aA0{c:Code}{r:lv}{v:i_}{R:Ending->World->Prop}(GW:∀ B,af P B N c fr M next r)(hex:(match r.ex with|.exit _=>false|_=>true)=true)(hv:Aq P fn r.fr r.M=some v)
  {ι:Map} {cc:g_} {a:Act} {w:h_} (hf:fD (B.held D) ι (bC fr) N a) (hm:aJ (B.held D) ι cc w) (ha:cX cc M) (hu:eH cc next) (mE:B.ds=[]) (pz:∀ F,¬B.Fa F) (hD:∀ k,B.cM k->k≠D)
  (hR:∀ av bX v' w',aH av v v'->aJ B av bX w'->cX bX r.M->R (.returned v') w'):c.wpIn (FW none) 0 P (bodyPostM (FW none) 0 P fn R) a w:=by
 refine GW _ none ι cc a w _ hf hm ha hu λav bX a' w' hle wE bo gV _ _ _=>?_;have dx:=aAZ bo pz hD;obtain⟨v',hc,pC⟩:=Mu (fn:=fn) (B:=B) (N:=N) (a:={ a' with defers:=[]}) ⟨mE.symm,wE.size,wE.slot⟩ dx gV hv;have hl:LeavesInM (FW none) 0 P fn a'.tmps R a'.defers .returning w':=by rw[wE.defers];show LeavesInM (FW none) 0 P fn a'.tmps R (E5 D::B.ds) .returning w';rw[mE];exact⟨λe=>(by cases e),.inl ⟨D,_,rfl,run_takeDeferred bo.base.2,v',pC,hR av bX v' _ hc dx gV⟩⟩
 cases hx:r.ex with
 |normal=>exact hl
 |ret=>exact hl
 |exit id=>rw[hx]at hex;cases hex
end
def yW:Code->Nat->Option Code
 |.region i ops d,k=>if Nat.beq i k then some (.region i ops d)else none
 |.seq x y,k=>match yW x k with|some o=>some o|none=>yW y k
 |.cond _ x y,k=>match yW x k with|some o=>some o|none=>yW y k
 |.block _ b,k=>yW b k
 |.loop b,k=>yW b k
 |.scope b,k=>yW b k
 |.rangeFunc _ _ x y,k=>match yW x k with|some o=>some o|none=>yW y k
 |_,_=>none
def C0(fn:Func)(k:Nat):Code:=match fn.body with|some c=>(match yW c k with|some o=>o|none=>.skip)|none=>.skip
def C1:Code->Option Code
 |.seq x y=>match C1 x with|some o=>some o|none=>C1 y
 |.cond _ x y=>match C1 x with|some o=>some o|none=>C1 y
 |.block _ b=>C1 b
 |.loop b=>C1 b
 |.scope b=>C1 b
 |.rangeFunc g p x y=>some (.rangeFunc g p x y)
 |_=>none
def pf(fn:Func):Code:=match fn.body with|some c=>(match C1 c with|some o=>o|none=>.skip)|none=>.skip
def A9:Code->Code|.rangeFunc _ _ x _=>x|c=>c
def Ba:Code->Code|.rangeFunc _ _ _ y=>y|c=>c
def bZ(k:Nat):Value:=.pointer (some ⟨k,0,some 7⟩)
section
variable{P:j_}{B:ae}{N next:Nat}
theorem Kc{g:Nat}{ps:Array Tmp}{dB:Code}(ns:l_){j:Option Code}(cG:ew.all flat=true)(hlen:ew.length=ps.size)(yw:(ps.toList.all λp=>Nat.blt p N)=true)(hg:g<A)
  (du:∀ p∈Os++Vs,p.1<A/\p.1≠g/\l4 A p=true) (Kd:∀ p∈cy,∀ v∈p.2.cells,pW A ns v=true) (eC:(Os.all λp=>p.2.owns)=true) (uy:∀ p∈cy,p.2.owns=true\/p.2=.dead) (jV:(Vs.all λp=>p.2.soft)=true)
  (kV:cy.map (·.1)=Os.map (·.1)++ns) (iP:(ns.all λk=>Nat.ble A k)=true)
  {rA rB:lv} (hA:∀ B,af P B N ep (J4 (ps.toList.zip ew) fr) (Os++Vs) A rA) (TW:rA.ex=.normal) (TX:Nat.ble A rA.next=true) (Od:ai rA.M g=none)
  (hB:∀ B,af P B N dB rA.fr rA.M rA.next rB) (TY:∀ k x,ai cy k=some x->ai rB.M k=some x) (TZ:TS rB.ex=j):Hy P g A N ps ep dB fr Os Vs cy ns ew j where
 flat:=aY.1 cG
 len:=hlen
 jZ p hp:=by have:=aY.1 yw p (by simpa using hp);simpa[yu]using this
 E4:=hg
 low k x h:=by have:=du _ (iQ h);exact⟨this.1,this.2.1,N7 this.2.2⟩
 ok' k x h:=Kd _ (iQ h)
 own k x h:=A4 eC h
 TU k x h:=uy _ (iQ h)
 view k x h:=A4 jV h
 keys:=TQ kV
 new k h:=by have:=aY.1 iP k (by simpa using h);exact pB this
 run:=⟨rA,rB,hA,TW,pB TX,Od,hB,TY,TZ⟩
theorem T6{g:Nat}(h:(L.all λp=>Nat.blt p.1 g&&l4 (g+1) p)=true):∀ p∈L,p.1<g+1/\p.1≠g/\l4 (g+1) p=true:=λp hp=>by have:=aY.1 h p hp;rw[cY,yu]at this;exact⟨by omega,by omega,this.2⟩
theorem HA(h:(L.all (l4 A))=true)(ns:l_):∀ p∈L,∀ v∈p.2.cells,pW A ns v=true:=λp hp v hv=>by unfold pW;rw[aY.1 (aY.1 h p hp) v hv];rfl
theorem Ke(h:(L.all λp=>p.2.owns)=true):∀ p∈L,p.2.owns=true\/p.2=.dead:=λp hp=>.inl (aY.1 h p hp)
theorem aA1(dz:bL (aH ι) args args')(hN:N=args.length+(fn.ntmps-args.length))(mE:B.ds=[]):
  fD B ι (bC (jZ 0 args)) N { tmps:=args'.toArray++Array.replicate (fn.ntmps-args'.toArray.size) undef,defers:=[]}:=by
 refine⟨mE.symm,by simp[hN,dz.length],λt=>?_⟩;rcases Mv dz 0 t (List.replicate (fn.ntmps-args'.length) undef)with h|h
 ·simp only[kB,qx,Gl]at h;have e:(args'.toArray++Array.replicate (fn.ntmps-args'.toArray.size) undef).getD t undef=(args'++List.replicate (fn.ntmps-args'.length) undef).getD t undef:=by simp[pF,D7,<-Array.getElem?_toList]
  dsimp only;rw[e];exact h
 ·exact .inl h
theorem aA2{v:i_}{R:Ending->World->Prop}(hv:Aq P fn fr M=some v)
  {ι:Map} {cc:g_} {a:Act} {w:h_} (hf:fD (B.held D) ι (bC fr) N a) (hm:aJ (B.held D) ι cc w) (ha:cX cc M) (mE:B.ds=[]) (pz:∀ F,¬B.Fa F) (hD:∀ k,B.cM k->k≠D)
  (hR:∀ av bX v' w',aH av v v'->aJ B av bX w'->cX bX M->R (.returned v') w'):LeavesInM (FW none) 0 P fn a.tmps R a.defers .returning w:=by
 have dx:=aAZ hm pz hD;obtain⟨v',hc,pC⟩:=Mu (fn:=fn) (B:=B) (N:=N) (a:={ a with defers:=[]}) ⟨mE.symm,hf.size,hf.slot⟩ dx ha hv;rw[hf.defers];show LeavesInM (FW none) 0 P fn a.tmps R (E5 D::B.ds) .returning w;rw[mE];exact⟨λe=>(by cases e),.inl ⟨D,_,rfl,run_takeDeferred hm.base.2,v',pC,hR ι cc v' _ hc dx ha⟩⟩
theorem aA3{c:Code}{v:i_}(hf:P.funcs[f]?=some fn)(hb:fn.body=some c)(hN:N=args.length+(fn.ntmps-args.length))(dz:args.all flat=true)
  (h:∀ w a,fD (ae.at w) (λ_=>none) (bC (jZ 0 args)) N a->aJ (ae.at w) (λ_=>none) (λ_=>none) w->c.wpIn (FW none) 0 P (bodyPostM (FW none) 0 P fn λe w'=>e=.returned v/\Below w.heap.size w w') a w):aD P f args v:=by
 intro w;rw[aY]at dz;exact IW.1 (callsIn_of_wp_marks (F:=FW none) (n:=0) hf hb trivial (h w _ (aA1 (ky dz) hN rfl) (sZ w)))
theorem aA4{gf:FuncId}{cells:ah}{x:m_}{k:Nat}(iq:P.follows .mixedOrders=true)(hf:P.funcs[f]?=some fn)(ho:di o.op=some x)(eK:fW P f=true)(n:Nat)
  (rs:∀ w,bH P (ae.at w) (args.length+(fn.ntmps-args.length)))
  (h:∀ w,ou (gD (P:=P) fn n args [] 0 (rs w)) [(0,.aI cells ty)]=ow (gD fn n args [] 0 (rs w)) (.func (.func gf) #[] #[.pointer (some ⟨0,0,some 7⟩)]) [(0,.aI cells ty)]) (dz:args.all flat=true) (cG:cells.all flat=true) :
  cz P B o (.func (.func f) #[] #[]::args) [(k,none)] (.func (.func gf) #[] #[.pointer (some ⟨k,0,some 7⟩)]) [(k,.aI cells ty)]:=by
 have:=jP (P:=P) (B:=B) (o:=o) (x:=x) (f:=f) (fi:=[]) (args:=args) (ca:=[]) (need:=[(k,none)]) (val:=.func (.func gf) #[] #[.pointer (some ⟨k,0,some 7⟩)]) (cP:=[(k,.aI cells ty)]) ho eK ?_
 ·simpa using this
 ·intro ι c w hm hn args' ha;have hk:c k=none:=hn (k,none) (aL ..);rw[aY]at dz cG;have e:args'=args:=mZ (by simpa using ha) dz;subst e;refine uc iq hf rfl n (h w) (ky dz) (sZ w) n_ (λ_ _=>rfl) λav bX v' w' _ hc bo dG=>?_;obtain⟨jK,gC,rfl,h1,h2⟩:=hc.z7;have h0:bX 0=some (.aI cells ty):=dG (0,_) (aL ..);obtain⟨l,q1,b,bY,rfl,q2,q3⟩:=bo.born 0 _ h0;obtain⟨q4,q5⟩:=bo.own 0 _ b 0 0 h0 rfl q1;have hbn:w.heap.size<=b:=Oh q5;have ec:bY=cells:=mZ q2 cG;subst ec;have ef:jK=#[]:=by
   cases j5:jK.toList with
   |nil=>exact Hz.1 j5
   |cons _ _=>rw[j5]at h1;cases h1
  subst ef;have lK:gC.toList=[.pointer (some ⟨b,0,none⟩)]:=by
   have h2:bL (aH av) [.pointer (some ⟨0,0,some 7⟩)] gC.toList:=h2;generalize gC.toList=l at h2;cases h2 with
   |cons p q=>
    cases q;obtain⟨b',o',bj,e1,e2⟩:=p.uX rfl;rw[q1]at e1;injection e1 with e1;injection e1 with e1 e3 _;subst e1;subst e3;rw[e2];simp
  have dx:=hm.new (k:=k) (x:=.aI bY ty) (l:=.at b 0 0) bo.base hk ⟨b,bY,rfl,ky cG,q3⟩ (λb' o' bj _ e=>by injection e with e _ _;subst e;exact⟨hbn,q4⟩) n_ rfl;refine⟨dD ι k (.at b 0 0),_,rfl,gu (hm.dw k hk),?_,dx⟩;refine .fn .nil ?_;rw[lK];exact .cons (.ptr (fC _ _ _)) .nil
theorem Kf{ps:Array Tmp}{dB:Code}{T:p_}{gf:FuncId}{Oi:Func}{j:Option Code}{v:i_}{Nc:Nat}(iq:P.follows .mixedOrders=true)(hf:P.funcs[gf]?=some Oi)
  (hN:Nc=(ca.length+1)+(Oi.ntmps-(ca.length+1))) (n:Nat)
  (h:A6 next N fr ι T->∀(cB l D:Nat) (W1:h_) (S:Nat->Prop),∃ rs:bH P (oH W1 l S ι) Nc,ou (gD (P:=P) Oi n (.func (.yield l) #[] #[]::ca) ((next,.fact (ft l (gy cB T ps ep dB D)))::(Os++Vs)) (next+1) rs) ((next,.fact (ft l (uz (gy cB T ps ep dB D) j)))::(cy++Vs))=ow (gD Oi n (.func (.yield l) #[] #[]::ca) ((next,.fact (ft l (gy cB T ps ep dB D)))::(Os++Vs)) (next+1) rs) v ((next,.fact (ft l (uz (gy cB T ps ep dB D) j)))::(cy++Vs))) :
  J8 P next N ps ep dB fr Os Vs cy ι T gf ca j:=by
 intro oI cB l D W1 S κ c W gC hm ha hu lK;obtain⟨rs,h⟩:=h oI cB l D W1 S;refine Rw iq hf (by simpa using hN) n h (.cons (.same rfl) lK) hm ha hu λav bX v' w' hle hc bo dG hk=>⟨v',av,bX,rfl,hle,bo,λk x e=>dG (k,x) (iQ e),λk gU A8=>?_⟩;rw[hk k o_ (Hw ha A8)];exact A8
end
theorem aKo{x:m_}{k:Nat}(r:RV)(ho:di o.op=some x):cz prog B o (.func (.func 116) #[] #[]::[r.v]) [(k,none)] (.func (.func 173) #[] #[.pointer (some ⟨k,0,some 7⟩)]) [(k,.aI r.cs 42)]:=
 aA4 mixed func116 ho k_ 50 (λ_=>[]) (λ_=>k_) k_ k_
def r7(r:RV):aE:=[(0,.aI r.cs 42),(1,.aI [.bool false] 4),(2,.aI r.cs 42)]
def Bb:aM:=[(1,bZ 0),(2,bZ 1),(6,.func (.func 173) #[] #[bZ 2])]
theorem aKp(r:RV):af prog B 12 (C0 f70 0) (jZ 0 [r.v]) [] 0 ⟨.normal,[(1,bZ 0),(2,bZ 1)],[(0,.aI r.cs 42),(1,.aI [.bool false] 4)],2⟩:=
 fE mixed 10 [] k_
theorem aKq(r:RV):af prog B 12 (C0 f70 1) [(1,bZ 0),(2,bZ 1)] [(0,.aI r.cs 42),(1,.aI [.bool false] 4)] 2 ⟨.normal,Bb,r7 r,3⟩:=
 fE mixed 10 [.step 6 (ay f70 6) _ _ _ _ (aKo (k:=2) (x:=.func 116) r k_)] k_
theorem aKr(r:RV)(x:RN)(i:Int)(b:Bool)(hx:aD prog 84 [x.v] (.bool b)):
  Hy prog 3 4 12 #[7,8] (A9 (pf f70)) (Ba (pf f70)) Bb (r7 r) [] (r7 r) [] [.int .i64 i,x.v] (if b then none else some .ret):=by
 have go:∀ ex j,(∀ B,af prog B 12 (Ba (pf f70)) ((4,bZ 4)::Bb) ((4,.aI x.cs 40)::r7 r) 5 ⟨ex,[],r7 r,5⟩)->TS ex=j->Hy prog 3 4 12 #[7,8] (A9 (pf f70)) (Ba (pf f70)) Bb (r7 r) [] (r7 r) [] [.int .i64 i,x.v] j:=λex j h hj=>
  Kc [] (rA:=⟨.normal,(4,bZ 4)::Bb,(4,.aI x.cs 40)::r7 r,5⟩) (rB:=⟨ex,[],r7 r,5⟩) k_ k_ k_ d_ (T6 k_) (HA k_ []) k_ (Ke k_) k_ rfl k_ (λB=>fE mixed 10 [] k_) rfl k_ rfl h (λk x h=>h) hj
 cases b
 ·exact go .ret _ (λB=>fE mixed 10 [hx.at 10] k_) rfl
 ·exact go .normal _ (λB=>fE mixed 10 [hx.at 10] k_) rfl
theorem aKs(r:RV):af prog B 12 (.seq (C0 f70 5) .ret) Bb (r7 r) 3 ⟨.ret,[(2,bZ 1)],[(1,.aI [.bool true] 4)],3⟩:=fE mixed 10 [] k_
theorem aKt{r:RV}{bx Bc bz:Bool}(hx:aD prog 84 [r.x.v] (.bool bx))(hy:aD prog 84 [r.y.v] (.bool Bc))(hz:aD prog 84 [r.z.v] (.bool bz)){T:p_}{m:Map}:
  J8 prog 3 12 #[7,8] (A9 (pf f70)) (Ba (pf f70)) Bb (r7 r) [] (r7 r) m T 173 [bZ 2] (if bx&&Bc&&bz then none else some .ret):=by
 have st:=λ(hc:A6 3 12 Bb m T) (cB l D:Nat) (W1:h_) (S:Nat->Prop) (x:RN) (i:Int) (b:Bool) (h:aD prog 84 [x.v] (.bool b))=>TV (S:=S) (W1:=W1) (l:=l) (D:=D) (cB:=cB) (x:=.tmp 16) (o:=ay f173 19) (aKr r x i b h) k_ hc
 cases bx
 ·exact Kf mixed func173 rfl 100 (v:=.tuple #[]) λhc cB l D W1 S=>⟨[.step 19 _ _ _ _ _ (st hc cB l D W1 S r.x 0 _ hx)],k_⟩
 ·cases Bc
  ·exact Kf mixed func173 rfl 100 (v:=.tuple #[]) λhc cB l D W1 S=>⟨[.step 19 _ _ _ _ _ (st hc cB l D W1 S r.x 0 _ hx),.step 19 _ _ _ _ _ (st hc cB l D W1 S r.y 1 _ hy)],k_⟩
  ·cases bz<;>exact Kf mixed func173 rfl 100 (v:=.tuple #[]) λhc cB l D W1 S=>⟨[.step 19 _ _ _ _ _ (st hc cB l D W1 S r.x 0 _ hx),.step 19 _ _ _ _ _ (st hc cB l D W1 S r.y 1 _ hy),.step 19 _ _ _ _ _ (st hc cB l D W1 S r.z 2 _ hz)],k_⟩
theorem HB{r:RV}{bx Bc bz:Bool}(hx:aD prog 84 [r.x.v] (.bool bx))(hy:aD prog 84 [r.y.v] (.bool Bc))(hz:aD prog 84 [r.z.v] (.bool bz)):
  aD prog 70 [r.v] (.bool (bx&&Bc&&bz)):=by
 refine aA3 (N:=12) func70 rfl rfl k_ λw a hf hm=>?_;refine lT (aKp r none _ _ a w _ hf hm n_ (λ_ _=>rfl) λtg cc0 a0 w0 aA5 Ao jX nj yM Bd _=>?_);refine lT (lT (aKq r none _ _ a0 w0 _ Ao jX nj yM λbJ gk a1 w1 jc gW cS dY dy gN _=>I5 ?_));refine T3 (next:=3) (next':=3) (ns:=[]) (Os:=r7 r) (Vs:=[]) (cy:=r7 r) (gf:=173) (ca:=[bZ 2]) (j:=if bx&&Bc&&bz then none else some .ret) gW cS dY dy k_ k_ k_ k_ k_ k_ k_ k_ (bh _) k_ (HA k_ []) (aKt hx hy hz) λD κ bX w' CZ hDw _ jm dx fX eF=>?_;by_cases hb:(bx&&Bc&&bz)=true
 ·rw[au hb,hb];exact aA0 (B:=ae.at w) (v:=.bool true) (λB=>aKs r) rfl k_ jm dx fX eF rfl (λF h=>h) CZ λav cc v' w' hc hG _=>⟨by rw[hc.fh rfl],hG.base⟩
 ·rw[al hb];refine wpIn_ret (aA2 (B:=ae.at w) (fr:=Bb) (M:=r7 r++[]) (v:=.bool false) k_ jm dx fX rfl (λF h=>h) CZ λav cc v' w' hc hG _=>⟨?_,hG.base⟩);rw[hc.fh rfl];cases hc:bx&&Bc&&bz
  ·rfl
  ·exact absurd hc hb
inductive aK where
 |p (v:i_)
 |r (n:Nat) (xs:ah)
 |q (xs:ah)
 |f (g:FuncId) (xs:ah)
 |b (n:Nat) (xs:ah)
 |o (F:Fact)
 |s (n1:Nat) (iA:ah) (n2:Nat) (ji:ah) (F:Fact)
 |a (n1:Nat) (iA:ah) (n2:Nat) (ji:ah) (n3:Nat) (E6:ah)
 |c (u:i_) (F:Fact)
variable{l:List aK}
def Oj(w:h_)(v:i_)(xs:ah):Prop:=∃ b o,v=.pointer (some ⟨b,o,none⟩)/\b<w.heap.size/\∀(j:Nat) u,xs[j]?=some u->w.cell? ⟨b,o+j,none⟩=some u
def Be(w:h_)(v:i_)(F:Fact):Prop:=F.G v w/\v.cells=#[v]/\v.oneCell'=true
def aK.In(w:h_):aK->Value->Prop
 |.p u,v=>v=u
 |.r n xs,v=>c8 w v n xs
 |.q xs,v=>Oj w v xs
 |.f g xs,v=>∃ u,v=.func (.func g) #[] #[u]/\Oj w u xs
 |.b n xs,v=>∃ b o u,v=.pointer (some ⟨b,o,none⟩)/\b<w.heap.size/\w.cell? ⟨b,o,none⟩=some u/\c8 w u n xs
 |.o F,v=>Be w v F
 |.s n1 iA n2 ji F,v=>∃ u1 u2 u3,v=.agg #[u1,u2,u3]/\c8 w u1 n1 iA/\c8 w u2 n2 ji/\Be w u3 F
 |.a n1 iA n2 ji n3 E6,v=>∃ u1 u2 u3,v=.agg #[u1,u2,u3]/\c8 w u1 n1 iA/\c8 w u2 n2 ji/\c8 w u3 n3 E6
 |.c u F,v=>∃ t,v=.agg #[u,t]/\Be w t F
def aK.ok:aK->Bool
 |.p v=>flat v
 |.r _ xs=>xs.all flat
 |.q xs=>xs.all flat
 |.f _ xs=>xs.all flat
 |.b _ xs=>xs.all flat
 |.o F=>!F.rc
 |.s _ iA _ ji F=>iA.all flat&&(ji.all flat&&!F.rc)
 |.a _ iA _ ji _ E6=>iA.all flat&&(ji.all flat&&E6.all flat)
 |.c u F=>flat u&&!F.rc
inductive uC(w:h_):List aK->ah->Prop
 |nil:uC w [] []
 |cons {a:aK} {v:i_} {l:List aK} {vs:ah}:a.In w v->uC w l vs->uC w (a::l) (v::vs)
def eM:Nat->List aK->ah
 |_,[]=>[]
 |k,.p v::l=>v::eM k l
 |k,.r n _::l=>.slice (some ⟨k,0,some 7⟩) n 0::eM (k+1) l
 |k,.q _::l=>.pointer (some ⟨k,0,some 7⟩)::eM (k+1) l
 |k,.f g _::l=>.func (.func g) #[] #[.pointer (some ⟨k,0,some 7⟩)]::eM (k+1) l
 |k,.b _ _::l=>.pointer (some ⟨k+1,0,some 7⟩)::eM (k+2) l
 |k,.o _::l=>.pointer (some ⟨k,0,some 9⟩)::eM (k+1) l
 |k,.s n1 _ n2 _ _::l=>.agg #[.slice (some ⟨k,0,some 7⟩) n1 0,.slice (some ⟨k+1,0,some 7⟩) n2 0,.pointer (some ⟨k+2,0,some 9⟩)]::eM (k+3) l
 |k,.a n1 _ n2 _ n3 _::l=>.agg #[.slice (some ⟨k,0,some 7⟩) n1 0,.slice (some ⟨k+1,0,some 7⟩) n2 0,.slice (some ⟨k+2,0,some 7⟩) n3 0]::eM (k+3) l
 |k,.c u _::l=>.agg #[u,.pointer (some ⟨k,0,some 9⟩)]::eM (k+1) l
def jr:Nat->List aK->aE
 |_,[]=>[]
 |k,.p _::l=>jr k l
 |k,.r _ xs::l=>(k,.view xs)::jr (k+1) l
 |k,.q xs::l=>(k,.view xs)::jr (k+1) l
 |k,.f _ xs::l=>(k,.view xs)::jr (k+1) l
 |k,.b n xs::l=>(k,.view xs)::(k+1,.view [.slice (some ⟨k,0,some 7⟩) n 0])::jr (k+2) l
 |k,.o F::l=>(k,.fact F)::jr (k+1) l
 |k,.s _ iA _ ji F::l=>(k,.view iA)::(k+1,.view ji)::(k+2,.fact F)::jr (k+3) l
 |k,.a _ iA _ ji _ E6::l=>(k,.view iA)::(k+1,.view ji)::(k+2,.view E6)::jr (k+3) l
 |k,.c _ F::l=>(k,.fact F)::jr (k+1) l
def jG:Nat->List aK->Nat
 |k,[]=>k
 |k,.p _::l=>jG k l
 |k,.r _ _::l=>jG (k+1) l
 |k,.q _::l=>jG (k+1) l
 |k,.f _ _::l=>jG (k+1) l
 |k,.b _ _::l=>jG (k+2) l
 |k,.o _::l=>jG (k+1) l
 |k,.s _ _ _ _ _::l=>jG (k+3) l
 |k,.a _ _ _ _ _ _::l=>jG (k+3) l
 |k,.c _ _::l=>jG (k+1) l
theorem aA6(hm:aJ B ι c w){k:Nat}{v:i_}(hk:c k=none)(h:Oj w v xs)(cG:∀ u∈xs,flat u=true)(fJ:∀ j x,c j=some x->x.owns=false):
  ∃ av,Map.le ι av/\aJ B av (aV c k (.view xs)) w/\aH av (.pointer (some ⟨k,0,some 7⟩)) v:=by
 obtain⟨b,o,rfl,h2,h3⟩:=h;refine⟨dD ι k (.at b o 0),gu (hm.dw k hk),hm.add hk (.inr ⟨b,o,0,xs,rfl,ky cG,h3⟩) n_ n_ (λb1 o1 kS _ e=>?_),?_⟩
 ·injection e with e1 e2 e3;subst e1;exact⟨h2,λj y o' bj hj hy=>by rw[fJ j y hj]at hy;cases hy⟩
 ·have:=aH.ptr (off:=0) (fC ι k (.at b o 0));rwa[ja]at this
def yX(B:ae)(w:h_)(k:Nat)(ι:Map)(c:g_)(L:aE)(n:Nat)(av:Map)(c':g_):Prop:=
 Map.le ι av/\aJ B av c' w/\(∀ j x,c' j=some x->x.owns=false)/\eH c' n/\cX c' L/\(∀ j,j<k->c' j=c j)/\k<=n/\(∀ j x,ai L j=some x->k<=j/\j<n)
theorem aKu{k:Nat}(hm:aJ B ι c w)(ho:∀ j x,c j=some x->x.owns=false)(hu:eH c k):yX B w k ι c [] k ι c:=
 ⟨Map.le.refl _,hm,ho,hu,λj x h=>(by cases h),λ_ _=>rfl,bh _,λj x h=>(by cases h)⟩
theorem Kg{k:Nat}{x:Obj}(ho:∀ j x,c j=some x->x.owns=false)(hu:eH c k)(hle:Map.le ι bJ)(hm:aJ B bJ (aV c k x) w)(hx:x.owns=false):yX B w k ι c [(k,x)] (k+1) bJ (aV c k x):=by
 refine⟨hle,hm,λj y hj=>?_,λj hj=>?_,λj y hj=>?_,λj hj=>?_,yq _,λj y hj=>?_⟩
 ·unfold aV at hj;by_cases bT:j=k
  ·rw[au bT]at hj;injection hj with hj;subst hj;exact hx
  ·rw[al bT]at hj;exact ho j y hj
 ·unfold aV;rw[al o_];exact hu j o_
 ·unfold ai at hj;split at hj
  ·rename_i hb;injection hj with hj;subst hj;unfold aV;rw[au (jY hb).symm]
  ·cases hj
 ·unfold aV;rw[al o_]
 ·unfold ai at hj;split at hj
  ·rename_i hb;have:=jY hb;omega
  ·cases hj
theorem yX.trans{k n:Nat}{c1 c2:g_}{L2:aE}(h:yX B w k ι c L n bJ c1)(h2:yX B w n bJ c1 L2 m κ c2):yX B w k ι c (L++L2) m κ c2:=by
 obtain⟨a1,a2,a3,a4,a5,a6,a7,a8⟩:=h;obtain⟨b1,b2,b3,b4,b5,b6,b7,b8⟩:=h2;refine⟨a1.trans b1,b2,b3,b4,λj x hj=>?_,λj hj=>by rw[b6 j o_,a6 j hj],by omega,λj x hj=>?_⟩
 ·rw[jz]at hj;cases e:ai L j with
  |some y=>
   rw[e]at hj;injection hj with hj;subst hj;rw[b6 j (a8 j _ e).2];exact a5 j _ e
  |none=>rw[e]at hj;exact b5 j x hj
 ·rw[jz]at hj;cases e:ai L j with
  |some y=>rw[e]at hj;injection hj with hj;subst hj;have:=a8 j _ e;omega
  |none=>rw[e]at hj;have:=b8 j x hj;omega
theorem E7{k n:Nat}(hm:aJ B ι c w)(ho:∀ j x,c j=some x->x.owns=false)(hu:eH c k)(h:c8 w u n xs)(cG:xs.all flat=true):
  ∃ av c',yX B w k ι c [(k,.view xs)] (k+1) av c'/\aH av (.slice (some ⟨k,0,some 7⟩) n 0) u:=by
 obtain⟨bJ,q1,q2,q3⟩:=yx hm (hu k (bh _)) h (aY.1 cG) λb o c' _ j y o' bj hj hy=>by rw[ho j y hj]at hy;cases hy
 exact⟨bJ,_,Kg ho hu q1 q2 rfl,q3⟩
theorem T7{k:Nat}(hm:aJ B ι c w)(ho:∀ j x,c j=some x->x.owns=false)(hu:eH c k)(h:Be w u F)(wi:F.rc=false):
  ∃ av c',yX B w k ι c [(k,.fact F)] (k+1) av c'/\aH av (.pointer (some ⟨k,0,some 9⟩)) u:=by
 refine⟨dD ι k (.val u),aV c k (.fact F),Kg ho hu (gu (hm.dw k (hu k (bh _)))) (hm.add (hu k (bh _)) ⟨u,rfl,h.1⟩ n_ (λF' v b e1 e2 hF j y o' bj hj hy=>by rw[ho j y hj]at hy;cases hy) n_ λF' e hr=>?_) rfl,.opq (fC _ _ _) h.2.1 h.2.2⟩;injection e with e;subst e;rw[wi]at hr;cases hr
theorem xm{B:ae}{w:h_}:∀{l:List aK} {vs:ah},uC w l vs->(∀ a∈l,aK.ok a=true)->∀(k:Nat) (ι:Map) (c:g_),aJ B ι c w->(∀ j x,c j=some x->x.owns=false)->eH c k->
  ∃ av c',Map.le ι av/\aJ B av c' w/\eH c' (jG k l)/\cX c' (jr k l)/\(∀ j,j<k->c' j=c j)/\bL (aH av) (eM k l) vs/\k<=jG k l
 |_,_,.nil,_,k,ι,c,hm,ho,hu=>⟨ι,c,Map.le.refl _,hm,hu,λk x h=>(by cases h),λ_ _=>rfl,.nil,bh _⟩
 |_,_,.cons (a:=a) (v:=v) (l:=l) (vs:=vs) h hs,ax,k,ι,c,hm,ho,hu=>by
  have Bf:∀ a∈l,aK.ok a=true:=λa ha=>ax a (bw _ ha);have pX:=ax a (aL ..);have go:∀(L:aE) (n:Nat) (u:i_) (bJ:Map) (c1:g_),yX B w k ι c L n bJ c1->aH bJ u v->
    ∃ av c',Map.le ι av/\aJ B av c' w/\eH c' (jG n l)/\cX c' (L++jr n l)/\(∀ j,j<k->c' j=c j)/\bL (aH av) (u::eM n l) (v::vs)/\k<=jG n l:=by
   intro L n u bJ c1 ⟨q1,q2,q3,q4,q5,q6,q7,q8⟩ q9;obtain⟨av,c',h1,h2,h3,h4,h5,h6,h7⟩:=xm hs Bf n bJ c1 q2 q3 q4;refine⟨av,c',q1.trans h1,h2,h3,λj x hj=>?_,λj hj=>by rw[h5 j o_,q6 j hj],.cons (q9.mono h1) h6,by omega⟩;rw[jz]at hj;cases e:ai L j with
   |some y=>
    rw[e]at hj;injection hj with hj;subst hj;rw[h5 j (q8 j _ e).2];exact q5 j _ e
   |none=>rw[e]at hj;exact h4 j x hj
  cases a with
  |p u=>
   cases h;exact go [] k _ ι c (aKu hm ho hu) (.same pX)
  |r n xs=>
   obtain⟨bJ,c1,q1,q2⟩:=E7 hm ho hu h pX;exact go _ _ _ bJ c1 q1 q2
  |q xs=>
   obtain⟨bJ,q1,q2,q3⟩:=aA6 hm (hu k (bh _)) h (aY.1 pX) ho;exact go _ _ _ bJ _ (Kg ho hu q1 q2 rfl) q3
  |f g xs=>
   obtain⟨u,rfl,oT⟩:=h;obtain⟨bJ,q1,q2,q3⟩:=aA6 hm (hu k (bh _)) oT (aY.1 pX) ho;exact go _ _ _ bJ _ (Kg ho hu q1 q2 rfl) (.fn .nil (.cons q3 .nil))
  |b n xs=>
   obtain⟨b,o,u,rfl,hb,kh,iO⟩:=h;obtain⟨bJ,c1,q1,q2⟩:=E7 hm ho hu iO pX;obtain⟨a1,a2,a3,a4,a5,a6,a7,a8⟩:=q1;have dx:aJ B (dD bJ (k+1) (.at b o 0)) (aV c1 (k+1) (.view [.slice (some ⟨k,0,some 7⟩) n 0])) w:=by
    refine a2.add (a4 _ (bh _)) (.inr ⟨b,o,0,[u],rfl,.cons (q2.mono (gu (a2.dw _ (a4 _ (bh _))))) .nil,λj x hj=>?_⟩) n_ n_ (λb1 o1 kS _ e1=>?_)
    ·cases j with
     |zero=>simp at hj;subst hj;exact kh
     |succ j=>simp at hj
    ·injection e1 with e1 e2 e3;subst e1;exact⟨hb,λj y o' bj hj hy=>by rw[a3 j y hj]at hy;cases hy⟩
   have h2:=Kg a3 a4 (gu (a2.dw _ (a4 _ (bh _)))) dx rfl;have:=aH.ptr (off:=0) (fC bJ (k+1) (.at b o 0));rw[ja]at this;exact go _ _ _ _ _ (yX.trans ⟨a1,a2,a3,a4,a5,a6,a7,a8⟩ h2) this
  |o F=>
   obtain⟨bJ,c1,q1,q2⟩:=T7 hm ho hu h (by simpa[aK.ok]using pX);exact go _ _ _ bJ c1 q1 q2
  |s n1 iA n2 ji F=>
   simp only[aK.ok,cY,yr]at pX;obtain⟨u1,u2,u3,rfl,r1,r2,r3⟩:=h;obtain⟨bJ,c1,q1,p1⟩:=E7 hm ho hu r1 pX.1;obtain⟨dq,c2,q2,p2⟩:=E7 q1.2.1 q1.2.2.1 q1.2.2.2.1 r2 pX.2.1;obtain⟨Ol,c3,q3,p3⟩:=T7 q2.2.1 q2.2.2.1 q2.2.2.2.1 r3 pX.2.2;exact go _ _ _ Ol c3 (q1.trans (q2.trans q3)) (.agg (.cons (p1.mono (q2.1.trans q3.1)) (.cons (p2.mono q3.1) (.cons p3 .nil))))
  |a n1 iA n2 ji n3 E6=>
   simp only[aK.ok,cY]at pX;obtain⟨u1,u2,u3,rfl,r1,r2,r3⟩:=h;obtain⟨bJ,c1,q1,p1⟩:=E7 hm ho hu r1 pX.1;obtain⟨dq,c2,q2,p2⟩:=E7 q1.2.1 q1.2.2.1 q1.2.2.2.1 r2 pX.2.1;obtain⟨Ol,c3,q3,p3⟩:=E7 q2.2.1 q2.2.2.1 q2.2.2.2.1 r3 pX.2.2;exact go _ _ _ Ol c3 (q1.trans (q2.trans q3)) (.agg (.cons (p1.mono (q2.1.trans q3.1)) (.cons (p2.mono q3.1) (.cons p3 .nil))))
  |c u F=>
   simp only[aK.ok,cY,yr]at pX;obtain⟨t,rfl,h⟩:=h;obtain⟨bJ,c1,q1,q2⟩:=T7 hm ho hu h pX.2;exact go _ _ _ bJ c1 q1 (.agg (.cons (.same pX.1) (.cons q2 .nil)))
def cg(P:j_)(f:FuncId)(l:List aK)(res:i_):Prop:=
 ∀ w vs,uC w l vs->Calls P f vs.toArray w λe w'=>e=.returned res/\Below w.heap.size w w'
def kL(P:j_)(f:FuncId)(l:List aK)(ty:TypeId)(size n:Nat)(xs:ah):Prop:=
 ∀ w vs,uC w l vs->Calls P f vs.toArray w λe w'=>∃ v,e=.returned v/\w'.ownsRow w.heap.size ty size v n xs/\Below w.heap.size w w'
section
variable{P:j_}{B:ae}{N:Nat}
theorem gg{v:i_}(iq:P.follows .mixedOrders=true)(hf:P.funcs[f]?=some fn)(hl:(l.all aK.ok)=true)(n:Nat){N:Nat}(hN:N=(eM 0 l).length+(fn.ntmps-(eM 0 l).length))
  (rs:∀ w,bH P (ae.at w) N) (h:∀ w,ou (gD (P:=P) fn n (eM 0 l) (jr 0 l) (jG 0 l) (rs w)) []=ow (gD fn n (eM 0 l) (jr 0 l) (jG 0 l) (rs w)) v []) (hv:flat v=true):cg P f l v:=by
 intro w vs cx;obtain⟨ι,c,h1,h2,h3,h4,h5,h6,h7⟩:=xm cx (aY.1 hl) 0 _ _ (sZ w) n_ (λ_ _=>rfl);exact uc iq hf hN n (h w) h6 h2 h4 h3 λav bX v' w' hle hc hm _=>⟨by rw[hc.fh hv],hm.base⟩
theorem yY{k:Nat}(iq:P.follows .mixedOrders=true)(hf:P.funcs[f]?=some fn)(hl:(l.all aK.ok)=true)(n:Nat){N:Nat}(hN:N=(eM 0 l).length+(fn.ntmps-(eM 0 l).length))
  (rs:∀ w,bH P (ae.at w) N) (h:∀ w,ou (gD (P:=P) fn n (eM 0 l) (jr 0 l) (jG 0 l) (rs w)) [(k,.row xs ty size)]=ow (gD fn n (eM 0 l) (jr 0 l) (jG 0 l) (rs w)) (.slice (some ⟨k,0,some 7⟩) m 0) [(k,.row xs ty size)])
  (hx:(xs.all flat)=true) (hlen:xs.length=m*size):kL P f l ty size m xs:=by
 intro w vs cx;obtain⟨ι,c,h1,h2,h3,h4,h5,h6,h7⟩:=xm cx (aY.1 hl) 0 _ _ (sZ w) n_ (λ_ _=>rfl);refine uc iq hf hN n (h w) h6 h2 h4 h3 λav bX v' w' hle hc hm dG=>⟨v',rfl,?_,hm.base⟩;have:=vk hm (dG (k,_) (aL ..)) hc o_ (aY.1 hx);rwa[<-hlen,mN]at this
inductive gh(B:ae):List aK->ah->List (Nat×Option Obj)->Prop
 |nil:gh B [] [] []
 |p {v:i_} {l:List aK} {vs:ah} {nd:q_}:flat v=true->gh B l vs nd->gh B (.p v::l) (v::vs) nd
 |w {k n cc:Nat} {x:Obj} {l:List aK} {vs:ah} {nd:q_}:x.reads=true->(x.cells.all flat)=true->(n=0->x.cells=[])->gh B l vs nd->gh B (.r n x.cells::l) (.slice (some ⟨k,0,some 7⟩) n cc::vs) ((k,some x)::nd)
 |r {k off n cc len:Nat} {x:Obj} {l:List aK} {vs:ah} {nd:q_}:x.reads=true->(x.cells.all flat)=true->(n=0->len=0)->gh B l vs nd->gh B (.r n ((x.cells.drop off).take len)::l) (.slice (some ⟨k,off,some 7⟩) n cc::vs) ((k,some x)::nd)
 |q {k:Nat} {x:Obj} {l:List aK} {vs:ah} {nd:q_}:x.reads=true->(x.cells.all flat)=true->gh B l vs nd->gh B (.q x.cells::l) (.pointer (some ⟨k,0,some 7⟩)::vs) ((k,some x)::nd)
 |f {g:FuncId} {k:Nat} {x:Obj} {l:List aK} {vs:ah} {nd:q_}:x.reads=true->(x.cells.all flat)=true->gh B l vs nd->gh B (.f g x.cells::l) (.func (.func g) #[] #[.pointer (some ⟨k,0,some 7⟩)]::vs) ((k,some x)::nd)
 |b {k m n cc:Nat} {x y:Obj} {l:List aK} {vs:ah} {nd:q_}:y.reads=true->y.cells=[.slice (some ⟨k,0,some 7⟩) n cc]->x.reads=true->(x.cells.all flat)=true->(n=0->x.cells=[])->gh B l vs nd->gh B (.b n x.cells::l) (.pointer (some ⟨m,0,some 7⟩)::vs) ((m,some y)::(k,some x)::nd)
 |o {k:Nat} {F:Fact} {l:List aK} {vs:ah} {nd:q_}:gh B l vs nd->gh B (.o F::l) (.pointer (some ⟨k,0,some 9⟩)::vs) ((k,some (.fact F))::nd)
 |e {v:i_} {n:Nat} {xs:ah} {l:List aK} {vs:ah} {nd:q_}:flat v=true->(∀ w,B.G w->c8 w v n xs)->gh B l vs nd->gh B (.r n xs::l) (v::vs) nd
 |s {k1 n1 c1 k2 n2 c2 k3:Nat} {x1 x2:Obj} {F:Fact} {l:List aK} {vs:ah} {nd:q_}:x1.reads=true->(x1.cells.all flat)=true->(n1=0->x1.cells=[])->x2.reads=true->(x2.cells.all flat)=true->(n2=0->x2.cells=[])->gh B l vs nd->
   gh B (.s n1 x1.cells n2 x2.cells F::l) (.agg #[.slice (some ⟨k1,0,some 7⟩) n1 c1,.slice (some ⟨k2,0,some 7⟩) n2 c2,.pointer (some ⟨k3,0,some 9⟩)]::vs) ((k1,some x1)::(k2,some x2)::(k3,some (.fact F))::nd)
 |oi {k:Nat} {F F':Fact} {l:List aK} {vs:ah} {nd:q_}:(∀ v w,F'.G v w->F.G v w)->gh B l vs nd->gh B (.o F::l) (.pointer (some ⟨k,0,some 9⟩)::vs) ((k,some (.fact F'))::nd)
 |si {k1 n1 c1 k2 n2 c2 k3:Nat} {x1 x2:Obj} {F F':Fact} {l:List aK} {vs:ah} {nd:q_}:(∀ v w,F'.G v w->F.G v w)->x1.reads=true->(x1.cells.all flat)=true->(n1=0->x1.cells=[])->x2.reads=true->(x2.cells.all flat)=true->(n2=0->x2.cells=[])->gh B l vs nd->
   gh B (.s n1 x1.cells n2 x2.cells F::l) (.agg #[.slice (some ⟨k1,0,some 7⟩) n1 c1,.slice (some ⟨k2,0,some 7⟩) n2 c2,.pointer (some ⟨k3,0,some 9⟩)]::vs) ((k1,some x1)::(k2,some x2)::(k3,some (.fact F'))::nd)
 |c {u:i_} {k:Nat} {F F':Fact} {l:List aK} {vs:ah} {nd:q_}:flat u=true->(∀ v w,F'.G v w->F.G v w)->gh B l vs nd->gh B (.c u F::l) (.agg #[u,.pointer (some ⟨k,0,some 9⟩)]::vs) ((k,some (.fact F'))::nd)
theorem yZ(hm:aJ B ι c w){k:Nat}{v:i_}(hk:c k=some (.fact F))(hc:aH ι (.pointer (some ⟨k,0,some 9⟩)) v):Be w v F:=by
 obtain⟨l,h1,u,h2,h3⟩:=hm.born k _ hk;subst h2;generalize hp:Value.pointer (some ⟨k,0,some 9⟩)=p at hc;cases hc with
 |same h=>subst hp;cases h
 |ptr h=>injection hp with hp;injection hp with hp;injection hp with _ _ hp;cases hp
 |slc h=>cases hp
 |slcN h=>cases hp
 |opq h4 h5 h6=>
  injection hp with hp;injection hp with hp;injection hp with iD;subst iD;rw[h1]at h4;injection h4 with h4;injection h4 with h4;subst h4;exact⟨h3,h5,h6⟩
 |fn=>cases hp
 |agg=>cases hp
 |tup=>cases hp
theorem aA7(hm:aJ B ι c w){k:Nat}{x:Obj}{v:i_}(hk:c k=some x)(hx:x.reads=true)(cG:∀ u∈x.cells,flat u=true)(hc:aH ι (.pointer (some ⟨k,0,some 7⟩)) v):Oj w v x.cells:=by
 obtain⟨b,o,cap,hb,rfl⟩:=hc.uX rfl;obtain⟨l,h1,h2⟩:=hm.born k x hk;dsimp only at hb;rw[hb]at h1;injection h1 with h1;subst h1;obtain⟨bY,fo,kh⟩:=h2.at hx;have fo:=mZ fo cG;subst fo;refine⟨b,o,by simp,?_,λj u hj=>kh j u hj⟩;by_cases ho:x.owns=true
 ·exact(hm.own k x b o cap hk ho hb).1
 ·have hv:x.jv=true:=by unfold Obj.reads at hx;rw[rH]at hx;exact hx.resolve_left ho
  exact(hm.seen k x b o cap hk hv hb).1
theorem Bg{nd:q_}(h:gh B l vs nd)(hm:aJ B ι c w):∀{args:ah},(∀ p∈nd,c p.1=p.2)->bL (aH ι) vs args->uC w l args:=by
 induction h with
 |nil=>intro args _ h;cases h;exact .nil
 |p hv _ ih=>
  intro args hn h;cases h with
  |cons h1 h2=>exact .cons (h1.fh hv) (ih hn h2)
 |@w k n cc x l vs nd hx cG hlen _ ih=>
  intro args hn h;cases h with
  |cons h1 h2=>
   refine .cons ?_ (ih (λp hp=>hn p (bw _ hp)) h2);have:=ox (len:=x.cells.length) hm (hn (k,some x) (aL ..)) hx (aY.1 cG) (λh=>by rw[hlen h];rfl) h1;rw[lW,mN]at this;exact this
 |@r k off n cc len x l vs nd hx cG hlen _ ih=>
  intro args hn h;cases h with
  |cons h1 h2=>
   refine .cons ?_ (ih (λp hp=>hn p (bw _ hp)) h2);exact ox (len:=len) hm (hn (k,some x) (aL ..)) hx (aY.1 cG) hlen h1
 |@q k x l vs nd hx cG _ ih=>
  intro args hn h;cases h with
  |cons h1 h2=>exact .cons (aA7 hm (hn (k,some x) (aL ..)) hx (aY.1 cG) h1) (ih (λp hp=>hn p (bw _ hp)) h2)
 |@f g k x l vs nd hx cG _ ih=>
  intro args hn h;cases h with
  |cons h1 h2=>
   refine .cons ?_ (ih (λp hp=>hn p (bw _ hp)) h2);obtain⟨jK,gC,rfl,q1,q2⟩:=h1.z7;have ef:jK=#[]:=by
    cases j5:jK.toList with
    |nil=>exact Hz.1 j5
    |cons _ _=>rw[j5]at q1;cases q1
   subst ef;have q2:bL (aH ι) [.pointer (some ⟨k,0,some 7⟩)] gC.toList:=q2;cases lK:gC.toList with
   |nil=>rw[lK]at q2;cases q2
   |cons u t=>
    rw[lK]at q2;cases q2 with
    |cons q3 q4=>
     cases q4;refine⟨u,?_,aA7 hm (hn (k,some x) (aL ..)) hx (aY.1 cG) q3⟩
     congr 1
     apply D2;rw[lK]
 |@b k m n cc x y l vs nd hy hyc hx cG hlen _ ih=>
  intro args hn h;cases h with
  |@cons _ u _ _ h1 h2=>
   refine .cons ?_ (ih (λp hp=>hn p (bw _ (bw _ hp))) h2);obtain⟨b,o,cap,hb,rfl⟩:=h1.uX rfl;have hk:=hn (m,some y) (aL ..);obtain⟨lc,g1,g2⟩:=hm.born m y hk;dsimp only at hb;rw[hb]at g1;injection g1 with g1;subst g1;obtain⟨bY,fo,kh⟩:=g2.at hy;rw[hyc]at fo;obtain⟨u,rfl,hu⟩:=mz fo;have iO:=ox (len:=x.cells.length) hm (hn (k,some x) (bw _ (aL ..))) hx (aY.1 cG) (λh=>by rw[hlen h];rfl) hu;rw[lW,mN]at iO;refine⟨b,o,u,by simp,?_,?_,iO⟩
   ·by_cases ho:y.owns=true
    ·exact(hm.own m y b o cap hk ho hb).1
    ·have hv:y.jv=true:=by unfold Obj.reads at hy;rw[rH]at hy;exact hy.resolve_left ho
     exact(hm.seen m y b o cap hk hv hb).1
   ·have:=kh 0 u rfl;simpa using this
 |@o k F l vs nd _ ih=>
  intro args hn h;cases h with
  |cons h1 h2=>exact .cons (yZ hm (hn (k,_) (aL ..)) h1) (ih (λp hp=>hn p (bw _ hp)) h2)
 |@c u k F F' l vs nd hu hi _ ih=>
  intro args hn h;cases h with
  |cons h1 h2=>
   refine .cons ?_ (ih (λp hp=>hn p (bw _ hp)) h2);obtain⟨cs,rfl,fo⟩:=h1.Gb;obtain⟨a,b,bW,q1,q2⟩:=iY fo;have bM:=yZ hm (hn (k,_) (aL ..)) q2;refine⟨b,?_,hi _ _ bM.1,bM.2⟩;rw[q1.fh hu]at bW
   congr 1
   apply D2;rw[bW]
 |@e v n xs l vs nd hv hB _ ih=>
  intro args hn h;cases h with
  |cons h1 h2=>
   refine .cons ?_ (ih hn h2);rw[h1.fh hv];exact hB w hm.base
 |@s k1 n1 c1 k2 n2 c2 k3 x1 x2 F l vs nd r1 f1 l1 r2 f2 l2 _ ih=>
  intro args hn h;cases h with
  |cons h1 h2=>
   refine .cons ?_ (ih (λp hp=>hn p (bw _ (bw _ (bw _ hp)))) h2);obtain⟨us,rfl,Kh⟩:=h1.Gb;obtain⟨u1,u2,u3,hu,q1,q2,q3⟩:=IP Kh;have p1:=ox (len:=x1.cells.length) hm (hn (k1,some x1) (aL ..)) r1 (aY.1 f1) (λh=>by rw[l1 h];rfl) q1;have p2:=ox (len:=x2.cells.length) hm (hn (k2,some x2) (bw _ (aL ..))) r2 (aY.1 f2) (λh=>by rw[l2 h];rfl) q2;rw[lW,mN]at p1 p2;refine⟨u1,u2,u3,?_,p1,p2,yZ hm (hn (k3,_) (bw _ (bw _ (aL ..)))) q3⟩
   congr 1
   rw[<-xn (xs:=us),hu]
 |@oi k F F' l vs nd himp _ ih=>
  intro args hn h;cases h with
  |cons h1 h2=>
   have h3:=yZ hm (hn (k,_) (aL ..)) h1;exact .cons ⟨himp _ _ h3.1,h3.2⟩ (ih (λp hp=>hn p (bw _ hp)) h2)
 |@si k1 n1 c1 k2 n2 c2 k3 x1 x2 F F' l vs nd himp r1 f1 l1 r2 f2 l2 _ ih=>
  intro args hn h;cases h with
  |cons h1 h2=>
   refine .cons ?_ (ih (λp hp=>hn p (bw _ (bw _ (bw _ hp)))) h2);obtain⟨us,rfl,Kh⟩:=h1.Gb;obtain⟨u1,u2,u3,hu,q1,q2,q3⟩:=IP Kh;have p1:=ox (len:=x1.cells.length) hm (hn (k1,some x1) (aL ..)) r1 (aY.1 f1) (λh=>by rw[l1 h];rfl) q1;have p2:=ox (len:=x2.cells.length) hm (hn (k2,some x2) (bw _ (aL ..))) r2 (aY.1 f2) (λh=>by rw[l2 h];rfl) q2;rw[lW,mN]at p1 p2;have h3:=yZ hm (hn (k3,_) (bw _ (bw _ (aL ..)))) q3;refine⟨u1,u2,u3,?_,p1,p2,⟨himp _ _ h3.1,h3.2⟩⟩
   congr 1
   rw[<-xn (xs:=us),hu]
theorem pg{nd:q_}{x:m_}(h:cg P f l res)(hs:gh B l vs nd)(ho:di o.op=some x)(eK:fW P f=true)(Aj:flat res=true):
  cz P B o (.func (.func f) #[] #[]::vs) nd res []:=by
 have:=jP (P:=P) (B:=B) (o:=o) (x:=x) (f:=f) (fi:=[]) (args:=vs) (ca:=[]) (need:=nd) (val:=res) (cP:=[]) ho eK ?_
 ·simpa using this
 ·intro ι c w hm hn args' ha;rw[jy,gY]at ha;refine(h w args' (Bg hs hm hn ha)).mono ?_
  rintro e w' ⟨rfl,hb⟩
  exact⟨ι,res,rfl,Map.le.refl _,.same Aj,hm.call hb⟩
def aQ.cR(fn:Func)(key:Nat)(vs:ah){nd:q_}(h:cg P f l res)(hs:gh B l vs nd)(ho:di (ay fn key).op=some (.func f):=by kernel_rfl)(hc:fW P f=true:=by kernel_rfl)(hr:flat res=true:=by kernel_rfl):aQ P B N:=
 .step key (ay fn key) (.func (.func f) #[] #[]::vs) nd res [] (pg h hs ho hc hr)
theorem aKv{nd:q_}{x:m_}(h:cg P f l res)(hs:gh B l (vs++ca) nd)(ho:di o.op=some x)(eK:fW P f=true)(Aj:flat res=true):
  cz P B o (.func (.func f) #[] ca.toArray::vs) nd res []:=by
 have:=jP (P:=P) (B:=B) (o:=o) (x:=x) (f:=f) (fi:=[]) (args:=vs) (ca:=ca) (need:=nd) (val:=res) (cP:=[]) ho eK ?_
 ·simpa using this
 ·intro ι c w hm hn args' ha;rw[jy]at ha;refine(h w args' (Bg hs hm hn ha)).mono ?_
  rintro e w' ⟨rfl,hb⟩
  exact⟨ι,res,rfl,Map.le.refl _,.same Aj,hm.call hb⟩
theorem r8{n:Nat}{nd:q_}{x:m_}(h:kL P f l ty size n xs)(hs:gh B l vs nd)(ho:di o.op=some x)(eK:fW P f=true)(hx:(xs.all flat)=true)(k:Nat):
  cz P B o (.func (.func f) #[] #[]::vs) ((k,none)::nd) (.slice (some ⟨k,0,some 7⟩) n 0) [(k,.row xs ty size)]:=by
 have:=jP (P:=P) (B:=B) (o:=o) (x:=x) (f:=f) (fi:=[]) (args:=vs) (ca:=[]) (need:=(k,none)::nd) (val:=.slice (some ⟨k,0,some 7⟩) n 0) (cP:=[(k,.row xs ty size)]) ho eK ?_
 ·simpa using this
 ·intro ι c w hm hn args' ha;rw[jy,gY]at ha;refine(h w args' (Bg hs hm (λp hp=>hn p (bw _ hp)) ha)).mono ?_
  rintro e w' ⟨v,rfl,h1,h2⟩
  obtain⟨av,q1,q2,q3⟩:=En hm h2 (k:=k) (hn (k,none) (aL ..)) h1 (aY.1 hx);exact⟨av,v,rfl,q1,q3,q2⟩
end
section
open CR OF
@[ext] structure V3 (α:Type) where
 x:α
 y:α
 z:α
namespace V3
section
variable{α:Type}
instance[Add α]:Add (V3 α):=⟨λu v=>⟨u.x+v.x,u.y+v.y,u.z+v.z⟩⟩
instance[Sub α]:Sub (V3 α):=⟨λu v=>⟨u.x-v.x,u.y-v.y,u.z-v.z⟩⟩
instance[Neg α]:Neg (V3 α):=⟨λu=>⟨-u.x,-u.y,-u.z⟩⟩
instance[Zero α]:Zero (V3 α):=⟨⟨0,0,0⟩⟩
def smul[Mul α](v:V3 α)(k:α):V3 α:=⟨v.x*k,v.y*k,v.z*k⟩
def dot[Add α][Mul α](u v:V3 α):α:=u.x*v.x+u.y*v.y+u.z*v.z
def aw[Sub α][Mul α](u v:V3 α):V3 α:=⟨u.y*v.z-u.z*v.y,u.z*v.x-u.x*v.z,u.x*v.y-u.y*v.x⟩
def cI[Add α][Sub α][Mul α](u v w:V3 α):α:=dot u (aw v w)
end
def V(i:Nat):V3 E:=⟨E.var (3*i),E.var (3*i+1),E.var (3*i+2)⟩
def S(j:Nat):E:=E.var (90+j)
def flat{F:Type}:List (V3 F)->List F
 |[]=>[]
 |v::vs=>v.x::v.y::v.z::flat vs
def Om{F:Type}[CR F](vs:List (V3 F))(ss:List F)(i:Nat):F:=cond (Nat.blt i 90) ((flat vs).getD i 0) (ss.getD (i-90) 0)
def aA8{F:Type}[CR F](ρ:Nat->F)(v:V3 E):V3 F:=⟨v.x.den ρ,v.y.den ρ,v.z.den ρ⟩
section
variable{F:Type}[CR F]
theorem ring(vs:List (V3 F))(ss:List F)(l r:(Nat->V3 E)->(Nat->E)->E)
  (h:E.peq (l V S).norm (r V S).norm=true) :
  (l V S).den (Om vs ss)=(r V S).den (Om vs ss):=E.prove _ _ _ h
theorem mO(vs:List (V3 F))(ss:List F)(l r:(Nat->V3 E)->(Nat->E)->V3 E)
  (h:(E.peq (l V S).x.norm (r V S).x.norm&&
   E.peq (l V S).y.norm (r V S).y.norm&&
   E.peq (l V S).z.norm (r V S).z.norm)=true) :
  aA8 (Om vs ss) (l V S)=aA8 (Om vs ss) (r V S):=by
 simp only[cY]at h;exact V3.ext (E.prove _ _ _ h.1.1) (E.prove _ _ _ h.1.2) (E.prove _ _ _ h.2)
theorem y0(u v:V3 F):dot u v=dot v u:=ring [u,v] [] (λV _=>dot (V 0) (V 1)) (λV _=>dot (V 1) (V 0)) d_
theorem k7(u v w:V3 F):dot u (v+w)=dot u v+dot u w:=ring [u,v,w] [] (λV _=>dot (V 0) (V 1+V 2)) (λV _=>dot (V 0) (V 1)+dot (V 0) (V 2)) d_
theorem k8(u v w:V3 F):dot u (v-w)=dot u v-dot u w:=ring [u,v,w] [] (λV _=>dot (V 0) (V 1-V 2)) (λV _=>dot (V 0) (V 1)-dot (V 0) (V 2)) d_
theorem tx(u v:V3 F):dot u (-v)=-dot u v:=ring [u,v] [] (λV _=>dot (V 0) (-V 1)) (λV _=>-dot (V 0) (V 1)) d_
theorem Bh(u v:V3 F):dot (-u) v=-dot u v:=ring [u,v] [] (λV _=>dot (-V 0) (V 1)) (λV _=>-dot (V 0) (V 1)) d_
theorem iT(u v:V3 F)(k:F):dot u (smul v k)=dot u v*k:=ring [u,v] [k] (λV S=>dot (V 0) (smul (V 1) (S 0))) (λV S=>dot (V 0) (V 1)*S 0) d_
theorem On(u v w:V3 F):dot (u+v) w=dot u w+dot v w:=ring [u,v,w] [] (λV _=>dot (V 0+V 1) (V 2)) (λV _=>dot (V 0) (V 2)+dot (V 1) (V 2)) d_
theorem aKw(u v:V3 F)(k:F):dot (smul u k) v=dot u v*k:=ring [u,v] [k] (λV S=>dot (smul (V 0) (S 0)) (V 1)) (λV S=>dot (V 0) (V 1)*S 0) d_
theorem C2(u:V3 F):dot u 0=0:=by show u.x*0+u.y*0+u.z*0=0;rw[CR.mul_zero,CR.mul_zero,CR.mul_zero,CR.add_zero,CR.add_zero]
theorem aKx(u:V3 F):dot 0 u=0:=by rw[y0,C2]
theorem E8(u v:V3 F):dot u (aw u v)=0:=ring [u,v] [] (λV _=>dot (V 0) (aw (V 0) (V 1))) (λ_ _=>0) d_
theorem C3(u v:V3 F):dot v (aw u v)=0:=ring [u,v] [] (λV _=>dot (V 1) (aw (V 0) (V 1))) (λ_ _=>0) d_
theorem Ki(u:V3 F):aw u u=0:=mO [u] [] (λV _=>aw (V 0) (V 0)) (λ_ _=>0) d_
theorem HC(u v:V3 F):aw v u=-aw u v:=mO [u,v] [] (λV _=>aw (V 1) (V 0)) (λV _=>-aw (V 0) (V 1)) d_
theorem Oo(u v w:V3 F):cI u v w=cI v w u:=ring [u,v,w] [] (λV _=>cI (V 0) (V 1) (V 2)) (λV _=>cI (V 1) (V 2) (V 0)) d_
theorem aA9(u v w:V3 F):cI u w v=-cI u v w:=ring [u,v,w] [] (λV _=>cI (V 0) (V 2) (V 1)) (λV _=>-cI (V 0) (V 1) (V 2)) d_
theorem neg_neg(u:V3 F):- -u=u:=mO [u] [] (λV _=>- -V 0) (λV _=>V 0) d_
theorem sub_self(u:V3 F):u-u=0:=mO [u] [] (λV _=>V 0-V 0) (λ_ _=>0) d_
theorem add_zero(u:V3 F):u+0=u:=V3.ext (CR.add_zero _) (CR.add_zero _) (CR.add_zero _)
theorem add_sub_cancel(u v:V3 F):u+(v-u)=v:=mO [u,v] [] (λV _=>V 0+(V 1-V 0)) (λV _=>V 1) d_
theorem smul_zero(u:V3 F):smul u 0=0:=V3.ext (CR.mul_zero _) (CR.mul_zero _) (CR.mul_zero _)
theorem aKy(u:V3 F):smul u 1=u:=V3.ext (CR.mul_one _) (CR.mul_one _) (CR.mul_one _)
theorem aBa(u:V3 F)(a b:F):smul (smul u a) b=smul u (a*b):=V3.ext (CR.mul_assoc _ _ _) (CR.mul_assoc _ _ _) (CR.mul_assoc _ _ _)
theorem neg_zero:-(0:V3 F)=0:=V3.ext CR.neg_zero CR.neg_zero CR.neg_zero
end
section
variable{F:Type}[OF F]
theorem sub_eq_zero{u v:V3 F}:u-v=0↔u=v:=by
 constructor
 ·intro h;exact V3.ext (OF.sub_eq_zero.1 (ch V3.x h)) (OF.sub_eq_zero.1 (ch V3.y h)) (OF.sub_eq_zero.1 (ch V3.z h))
 ·rintro rfl;exact sub_self u
theorem T8{u:V3 F}(h:u≠0):0<dot u u:=by
 by_cases hx:u.x=0
 ·by_cases hy:u.y=0
  ·have hz:u.z≠0:=λhz=>h (V3.ext hx hy hz);exact Z7 (add_nonneg (mK _) (mK _)) (S5 hz)
  ·exact He (Z7 (mK _) (S5 hy)) (mK _)
 ·exact He (He (S5 hx) (mK _)) (mK _)
theorem Bi{u:V3 F}(h:u≠0):dot u u≠0:=OF.ne_of_gt (T8 h)
theorem aKz{u:V3 F}{k:F}(h:smul u k=0):u=0\/k=0:=by
 by_cases hk:k=0
 ·exact .inr hk
 ·left;have hx:=(mul_eq_zero.1 (ch V3.x h:u.x*k=0)).resolve_right hk;have hy:=(mul_eq_zero.1 (ch V3.y h:u.y*k=0)).resolve_right hk;have hz:=(mul_eq_zero.1 (ch V3.z h:u.z*k=0)).resolve_right hk;exact V3.ext hx hy hz
theorem neg_eq_zero{u:V3 F}:-u=0↔u=0:=by
 constructor
 ·intro h;rw[<-neg_neg u,h,neg_zero]
 ·rintro rfl;exact neg_zero
theorem HD{a b c v:V3 F}(hd:cI a b c≠0)(ha:dot a v=0)(hb:dot b v=0)(hc:dot c v=0):v=0:=by
 have e:smul v (cI a b c)=smul (aw b c) (dot a v)+smul (aw c a) (dot b v)+smul (aw a b) (dot c v):=
  mO [a,b,c,v] [] (λV _=>smul (V 3) (cI (V 0) (V 1) (V 2)))
   (λV _=>smul (aw (V 1) (V 2)) (dot (V 0) (V 3))+smul (aw (V 2) (V 0)) (dot (V 1) (V 3))+smul (aw (V 0) (V 1)) (dot (V 2) (V 3))) d_
 rw[ha,hb,hc,smul_zero,smul_zero,smul_zero,add_zero,add_zero]at e;exact(aKz e).resolve_right hd
theorem aBb{a b v:V3 F}(hd:aw a b≠0)(ha:dot a v=0)(hb:dot b v=0):v=smul (aw a b) (dot (aw a b) v*(dot (aw a b) (aw a b))⁻¹):=by
 have bd:=Bi hd;have e:smul v (dot (aw a b) (aw a b))=smul (aw a b) (dot (aw a b) v)+smul (aw b (aw a b)) (dot a v)+smul (aw (aw a b) a) (dot b v):=
  mO [a,b,v] [] (λV _=>smul (V 2) (dot (aw (V 0) (V 1)) (aw (V 0) (V 1))))
   (λV _=>smul (aw (V 0) (V 1)) (dot (aw (V 0) (V 1)) (V 2))+smul (aw (V 1) (aw (V 0) (V 1))) (dot (V 0) (V 2))+smul (aw (aw (V 0) (V 1)) (V 0)) (dot (V 1) (V 2))) d_
 rw[ha,hb,smul_zero,smul_zero,add_zero,add_zero]at e;rw[<-aBa,<-e,aBa,lI _ bd,aKy]
end
end V3
end
variable{acc:List (V3 K)}
section
open CR OF V3
@[ext] structure HS (F:Type) where
 n:V3 F
 d:F
section
variable{F:Type}[OF F]
def hJ(ps:List (HS F))(v:V3 F):Prop:=∀ p∈ps,dot p.n v<=p.d
def dS(p:HS F)(v:V3 F):Prop:=dot p.n v=p.d
def Cl(ps:List (HS F)):Prop:=
 (∃ p∈ps,∃ q∈ps,aw p.n q.n≠0)/\∀ p∈ps,∀ q∈ps,aw p.n q.n≠0->∃ r∈ps,0<dot r.n (aw p.n q.n)
def j6(ps:List (HS F)):Prop:=∀ p∈ps,p.n≠0
theorem Kj{d:V3 F}(h:d≠0):∃ u:V3 F,u≠0/\dot d u=0:=by
 by_cases hz:d.z=0
 ·by_cases hy:d.y=0
  ·have hx:d.x≠0:=λhx=>h (V3.ext hx hy hz);refine⟨⟨d.z,0,-d.x⟩,λe=>hx ?_,ring [d] [] (λV _=>dot (V 0) ⟨(V 0).z,0,-(V 0).x⟩) (λ_ _=>0) d_⟩;have:-d.x=0:=ch V3.z e;rw[<-CR.neg_neg d.x,this,CR.neg_zero]
  ·refine⟨⟨-d.y,d.x,0⟩,λe=>hy ?_,ring [d] [] (λV _=>dot (V 0) ⟨-(V 0).y,(V 0).x,0⟩) (λ_ _=>0) d_⟩;have:-d.y=0:=ch V3.x e;rw[<-CR.neg_neg d.y,this,CR.neg_zero]
 ·refine⟨⟨0,-d.z,d.y⟩,λe=>hz ?_,ring [d] [] (λV _=>dot (V 0) ⟨0,-(V 0).z,(V 0).y⟩) (λ_ _=>0) d_⟩;have:-d.z=0:=ch V3.y e;rw[<-CR.neg_neg d.z,this,CR.neg_zero]
theorem aKA(l:List (F×F))(h0:∀ x∈l,0<=x.2)(hp:∃ x∈l,0<x.1):
  ∃ t:F,0<=t/\(∃ x∈l,0<x.1/\x.1*t=x.2)/\∀ x∈l,x.1*t<=x.2:=by
 induction l with
 |nil=>obtain⟨x,hx,_⟩:=hp;cases hx
 |cons y l ih=>
  obtain⟨a,b⟩:=y;have hb:0<=b:=h0 _ (aL ..);have h0':∀ x∈l,0<=x.2:=λx hx=>h0 x (bw _ hx)
  -- t=b/a aUi,if it is at most t' aUj t' is aUk
  have new:0<a->(∀ x∈l,0<x.1->x.1*(b*a⁻¹)<=x.2)->
    ∃ t:F,0<=t/\(∃ x∈(a,b)::l,0<x.1/\x.1*t=x.2)/\∀ x∈(a,b)::l,x.1*t<=x.2:=by
   intro ha hl;have e:a*(b*a⁻¹)=b:=by rw[CR.mul_left_comm,lI _ (OF.ne_of_gt ha),CR.mul_one]
   have ht:0<=b*a⁻¹:=mul_nonneg hb (le_of_lt (inv_pos ha));refine⟨b*a⁻¹,ht,⟨_,aL ..,ha,e⟩,?_⟩;intro x hx;rcases b9.1 hx with rfl|hx
   ·exact OF.le_of_eq e
   ·by_cases h:0<x.1
    ·exact hl x hx h
    ·refine OF.le_trans ?_ (h0' x hx);rw[<-neg_nonneg,<-CR.neg_mul];exact mul_nonneg (neg_nonneg.2 (OF.not_lt.1 h)) ht
  by_cases hl:∃ x∈l,0<x.1
  ·obtain⟨t,ht,⟨x,hx,kM,y7⟩,aU⟩:=ih h0' hl;by_cases mC:a*t<=b
   ·exact⟨t,ht,⟨x,bw _ hx,kM,y7⟩,λz hz=>by
     rcases b9.1 hz with rfl|hz
     ·exact mC
     ·exact aU z hz⟩
   ·have Oq:=OF.not_le.1 mC;have ha:0<a:=by
     rcases OF.lt_trichotomy 0 a with h|h|h
     ·exact h
     ·rw[<-h,CR.zero_mul]at Oq;exact absurd (OF.lt_of_le_of_lt hb Oq) (OF.lt_irrefl _)
     ·have:=mul_nonneg (neg_nonneg.2 (le_of_lt h)) ht;rw[CR.neg_mul,neg_nonneg]at this;exact absurd (OF.lt_of_le_of_lt hb (OF.lt_of_lt_of_le Oq this)) (OF.lt_irrefl _)
    refine new ha λz hz Ae=>?_;refine OF.le_trans ?_ (aU z hz);refine le_of_lt ((mul_lt_mul_left Ae).2 ?_);rw[<-mul_lt_mul_left ha,CR.mul_left_comm,lI _ (OF.ne_of_gt ha),CR.mul_one];exact Oq
  ·obtain⟨x,hx,kM⟩:=hp;rcases b9.1 hx with rfl|hx
   ·exact new kM λz hz Ae=>(hl ⟨z,hz,Ae⟩).elim
   ·exact(hl ⟨x,hx,kM⟩).elim
theorem vj{ps:List (HS F)}{v u:V3 F}(hv:hJ ps v)(hu:∃ p∈ps,0<dot p.n u):
  ∃ t:F,0<=t/\(∃ q∈ps,0<dot q.n u/\dS q (v+smul u t))/\hJ ps (v+smul u t):=by
 obtain⟨t,ht,⟨x,hx,kM,y7⟩,aU⟩:=aKA (ps.map λp=>(dot p.n u,p.d-dot p.n v))
  (λx hx=>by obtain⟨p,hp,rfl⟩:=de.1 hx;exact OF.sub_nonneg.2 (hv p hp))
  (by obtain⟨p,hp,h⟩:=hu;exact⟨_,de.2 ⟨p,hp,rfl⟩,h⟩)
 obtain⟨q,hq,rfl⟩:=de.1 hx;have e:∀ p:HS F,dot p.n (v+smul u t)=dot p.n v+dot p.n u*t:=λp=>by rw[k7,iT]
 refine⟨t,ht,⟨q,hq,kM,?_⟩,?_⟩
 ·unfold dS;rw[e,y7];exact kt (dot q.n v) q.d (λa d=>a+(d-a)) (λ_ d=>d) d_
 ·intro p hp;have:=aU _ (de.2 ⟨p,hp,rfl⟩);rw[e];have h2:=(add_le_add_left (dot p.n v)).2 this;rwa[show dot p.n v+(p.d-dot p.n v)=p.d from kt (dot p.n v) p.d (λa d=>a+(d-a)) (λ_ d=>d) d_]at h2
theorem Ot{p q u:V3 F}(hp:p≠0)(h:aw p q=0)(hu:dot p u=0):dot q u=0:=by
 have e:dot q u*dot p p=dot p u*dot p q-dot (aw p (aw p q)) u:=
  ring [p,q,u] [] (λV _=>dot (V 1) (V 2)*dot (V 0) (V 0)) (λV _=>dot (V 0) (V 2)*dot (V 0) (V 1)-dot (aw (V 0) (aw (V 0) (V 1))) (V 2)) d_
 have z:aw p (0:V3 F)=0:=mO [p] [] (λV _=>aw (V 0) 0) (λ_ _=>0) d_;rw[h,hu,z,aKx,CR.zero_mul,OF.sub_zero]at e;exact(mul_eq_zero.1 e).resolve_right (Bi hp)
theorem E9{p d:V3 F}(hp:p≠0)(hd:d≠0)(h:dot p d=0):aw p d≠0:=by
 intro e;have e2:dot (aw p d) (aw p d)=dot p p*dot d d-dot p d*dot p d:=
  ring [p,d] [] (λV _=>dot (aw (V 0) (V 1)) (aw (V 0) (V 1))) (λV _=>dot (V 0) (V 0)*dot (V 1) (V 1)-dot (V 0) (V 1)*dot (V 0) (V 1)) d_
 rw[e,h,C2,CR.mul_zero,OF.sub_zero]at e2;exact mul_ne_zero (Bi hp) (Bi hd) e2.symm
theorem T9{d u:V3 F}{t:F}(hd:d≠0)(h:dot d u=0):d+smul u t≠0:=by intro e;have:=ch (dot d) e;rw[k7,iT,h,CR.zero_mul,CR.add_zero,C2]at this;exact Bi hd this
theorem aBc{ns:List (V3 F)}(hs:∃ a∈ns,∃ b∈ns,∃ c∈ns,cI a b c≠0){u:V3 F}(hu:u≠0):
  (∃ n∈ns,0<dot n u)\/(∃ n∈ns,0<dot n (-u)):=by
 obtain⟨a,ha,b,hb,c,hc,hd⟩:=hs;have key:∀ n∈ns,dot n u≠0->(∃ n∈ns,0<dot n u)\/(∃ n∈ns,0<dot n (-u)):=by
  intro n hn h;rcases OF.lt_trichotomy 0 (dot n u)with k|k|k
  ·exact .inl ⟨n,hn,k⟩
  ·exact absurd k.symm h
  ·exact .inr ⟨n,hn,by rw[tx];exact neg_pos.2 k⟩
 by_cases h1:dot a u=0
 ·by_cases h2:dot b u=0
  ·by_cases h3:dot c u=0
   ·exact absurd (HD hd h1 h2 h3) hu
   ·exact key c hc h3
  ·exact key b hb h2
 ·exact key a ha h1
theorem ray{ns:List (V3 F)}(h0:∀ n∈ns,n≠0)(hs:∃ a∈ns,∃ b∈ns,∃ c∈ns,cI a b c≠0){d:V3 F}(hd:d≠0)(cx:∀ n∈ns,dot n d<=0):
  ∃ p∈ns,∃ q∈ns,aw p q≠0/\∀ n∈ns,dot n (aw p q)<=0:=by
 -- one Ou
 have Ua:∀{v u:V3 F},(∀ n∈ns,dot n v<=0)->(∃ n∈ns,0<dot n u)->∃ t:F,(∃ q∈ns,0<dot q u/\dot q (v+smul u t)=0)/\∀ n∈ns,dot n (v+smul u t)<=0:=by
  intro v u hv hu
  obtain⟨t,_,⟨q,hq,o5,vB⟩,aU⟩:=vj (ps:=ns.map λn=>⟨n,0⟩) (v:=v) (u:=u)
   (λp hp=>by obtain⟨n,hn,rfl⟩:=de.1 hp;exact hv n hn)
   (by obtain⟨n,hn,h⟩:=hu;exact⟨⟨n,0⟩,de.2 ⟨n,hn,rfl⟩,h⟩)
  obtain⟨n,hn,rfl⟩:=de.1 hq;exact⟨t,⟨n,hn,o5,vB⟩,λm hm=>aU ⟨m,0⟩ (de.2 ⟨m,hm,rfl⟩)⟩
 have one:∃ d1:V3 F,d1≠0/\(∃ p∈ns,dot p d1=0)/\∀ n∈ns,dot n d1<=0:=by
  obtain⟨u,hu,Ov⟩:=Kj hd;rcases aBc hs hu with h|h
  ·obtain⟨t,⟨q,hq,_,vB⟩,aU⟩:=Ua cx h;exact⟨_,T9 hd Ov,⟨q,hq,vB⟩,aU⟩
  ·obtain⟨t,⟨q,hq,_,vB⟩,aU⟩:=Ua cx h;exact⟨_,T9 hd (by rw[tx,Ov,CR.neg_zero]),⟨q,hq,vB⟩,aU⟩
 obtain⟨d1,Ub,⟨p,hp,Gi⟩,Uc⟩:=one;have Ow:=h0 p hp;have fin:∀ u:V3 F,dot p u=0->dot d1 u=0->(∃ n∈ns,0<dot n u)->∃ p∈ns,∃ q∈ns,aw p q≠0/\∀ n∈ns,dot n (aw p q)<=0:=by
  intro u Bj Ov h;obtain⟨t,⟨q,hq,hqu,vB⟩,aU⟩:=Ua Uc h;have bd:aw p q≠0:=λe=>by rw[Ot Ow e Bj]at hqu;exact OF.lt_irrefl _ hqu
  have Ts:d1+smul u t≠0:=T9 Ub Ov;have Fb:dot p (d1+smul u t)=0:=by rw[k7,iT,Bj,Gi,CR.zero_mul,CR.add_zero]
  have e:=aBb bd Fb vB;generalize dot (aw p q) (d1+smul u t)*(dot (aw p q) (aw p q))⁻¹=k at e;rcases OF.lt_trichotomy 0 k with hk|hk|hk
  ·refine⟨p,hp,q,hq,bd,λn hn=>?_⟩;have:=aU n hn;rw[e,iT,CR.mul_comm]at this;rw[<-CR.mul_zero k,mul_le_mul_left hk]at this;exact this
  ·rw[<-hk,smul_zero]at e;exact absurd e Ts
  ·refine⟨q,hq,p,hp,λe'=>bd (by rw[HC,e',V3.neg_zero]),λn hn=>?_⟩;have:=aU n hn;rw[e,iT,HC q p,tx,CR.neg_mul,<-CR.mul_neg,CR.mul_comm]at this;rw[<-CR.mul_zero (-k),mul_le_mul_left (neg_pos.2 hk)]at this;exact this
 have hc:=E9 Ow Ub Gi;rcases aBc hs hc with h|h
 ·exact fin _ (E8 p d1) (C3 p d1) h
 ·exact fin _ (by rw[tx,E8,CR.neg_zero]) (by rw[tx,C3,CR.neg_zero]) h
theorem Cl.span{ps:List (HS F)}(h:Cl ps):∃ a∈ps.map HS.n,∃ b∈ps.map HS.n,∃ c∈ps.map HS.n,cI a b c≠0:=by obtain⟨⟨p,hp,q,hq,N1⟩,gS⟩:=h;obtain⟨r,hr,h⟩:=gS p hp q hq N1;exact⟨r.n,de.2 ⟨r,hr,rfl⟩,p.n,de.2 ⟨p,hp,rfl⟩,q.n,de.2 ⟨q,hq,rfl⟩,OF.ne_of_gt h⟩
theorem Cl.bounds{ps:List (HS F)}(h:Cl ps)(hp:j6 ps){u:V3 F}(hu:u≠0):∃ r∈ps,0<dot r.n u:=by
 apply jo;intro fJ;have cx:∀ n∈ps.map HS.n,dot n u<=0:=by intro n hn;obtain⟨p,hp,rfl⟩:=de.1 hn;exact OF.not_lt.1 λk=>fJ ⟨p,hp,k⟩
 obtain⟨a,ha,b,hb,bd,aU⟩:=ray (λn hn=>by obtain⟨p,jg,rfl⟩:=de.1 hn;exact hp p jg) h.span hu cx;obtain⟨p,jg,rfl⟩:=de.1 ha;obtain⟨q,Bk,rfl⟩:=de.1 hb;obtain⟨r,hr,nS⟩:=h.2 p jg q Bk bd;exact OF.lt_irrefl _ (OF.lt_of_lt_of_le nS (aU r.n (de.2 ⟨r,hr,rfl⟩)))
def l5(ps:List (HS F))(v:V3 F):Prop:=
 hJ ps v/\∃ p∈ps,∃ q∈ps,∃ r∈ps,cI p.n q.n r.n≠0/\dS p v/\dS q v/\dS r v
theorem top{ps:List (HS F)}(hc:Cl ps)(hp:j6 ps){x m:V3 F}(hx:hJ ps x):∃ v,l5 ps v/\dot m x<=dot m v:=by
 -- a step along a line
 have go:∀{x u:V3 F},hJ ps x->u≠0->∃ u':V3 F,(u'=u\/u'=-u)/\∃ t:F,(∃ q∈ps,0<dot q.n u'/\dS q (x+smul u' t))/\hJ ps (x+smul u' t)/\dot m x<=dot m (x+smul u' t):=by
  have half:∀{x u:V3 F},hJ ps x->u≠0->0<=dot m u->∃ t:F,(∃ q∈ps,0<dot q.n u/\dS q (x+smul u t))/\hJ ps (x+smul u t)/\dot m x<=dot m (x+smul u t):=by intro x u hx hu hm;obtain⟨t,ht,hq,cx⟩:=vj hx (hc.bounds hp hu);refine⟨t,hq,cx,?_⟩;rw[k7,iT];have:=(add_le_add_left (dot m x)).2 (mul_nonneg hm ht);rwa[CR.add_zero]at this
  intro x u hx hu;rcases OF.le_total 0 (dot m u)with h|h
  ·exact⟨u,.inl rfl,half hx hu h⟩
  ·exact⟨-u,.inr rfl,half hx (λe=>hu (neg_eq_zero.1 e)) (by rw[tx];exact neg_nonneg.2 h)⟩
 obtain⟨⟨p0,Ow,_⟩,_⟩:=hc;obtain⟨u1,_,t1,⟨p,iJ,_,Fb⟩,Uc,cS⟩:=go hx (hp p0 Ow);generalize x+smul u1 t1=x1 at *;obtain⟨u,hu,Bj⟩:=Kj (hp p iJ);obtain⟨u2,h2,t2,⟨q,k9,o5,vB⟩,aKB,dx⟩:=go Uc hu;have aBd:dot p.n u2=0:=by
  rcases h2 with rfl|rfl
  ·exact Bj
  ·rw[tx,Bj,CR.neg_zero]
 have aKC:dS p (x1+smul u2 t2):=by unfold dS at *;rw[k7,iT,aBd,CR.zero_mul,CR.add_zero,Fb]
 generalize x1+smul u2 t2=x2 at *;have bd:aw p.n q.n≠0:=λe=>by rw[Ot (hp p iJ) e aBd]at o5;exact OF.lt_irrefl _ o5
 obtain⟨u3,h3,t3,⟨r,hrm,nS,Fc⟩,aKD,uY⟩:=go aKB bd;have aBe:dot p.n u3=0/\dot q.n u3=0:=by
  rcases h3 with rfl|rfl
  ·exact⟨E8 _ _,C3 _ _⟩
  ·rw[tx,tx,E8,C3,CR.neg_zero];exact⟨rfl,rfl⟩
 refine⟨_,⟨aKD,p,iJ,q,k9,r,hrm,?_,?_,?_,Fc⟩,OF.le_trans cS (OF.le_trans dx uY)⟩
 ·intro e;have e2:dot r.n (aw p.n q.n)=0:=by rw[show dot r.n (aw p.n q.n)=cI r.n p.n q.n from rfl,Oo];exact e
  rcases h3 with rfl|rfl
  ·rw[e2]at nS;exact OF.lt_irrefl _ nS
  ·rw[tx,e2,CR.neg_zero]at nS;exact OF.lt_irrefl _ nS
 ·unfold dS at *;rw[k7,iT,aBe.1,CR.zero_mul,CR.add_zero,aKC]
 ·unfold dS at *;rw[k7,iT,aBe.2,CR.zero_mul,CR.add_zero,vB]
theorem aKE{ps:List (HS F)}(hp:j6 ps){v x:V3 F}(hv:l5 ps v)(hx:hJ ps x)(bd:x≠v):
  ∃ p∈ps,∃ q∈ps,dS p v/\dS q v/\aw p.n q.n≠0/\∀ r∈ps,dS r v->dot r.n (aw p.n q.n)<=0:=by
 classical
 obtain⟨_,a,ha,b,hb,c,hc,hd,ta,tb,tc⟩:=hv
 let ts:=ps.filter λp=>decide (dS p v)
 have mem:∀ p,p∈ts↔p∈ps/\dS p v:=λp=>by simp[ts]
 obtain⟨n,hn,m,hm,lA,aU⟩:=ray (ns:=ts.map HS.n) (d:=x-v)
  (λn hn=>by obtain⟨p,jg,rfl⟩:=de.1 hn;exact hp p ((mem p).1 jg).1)
  ⟨a.n,de.2 ⟨a,(mem a).2 ⟨ha,ta⟩,rfl⟩,b.n,de.2 ⟨b,(mem b).2 ⟨hb,tb⟩,rfl⟩,c.n,de.2 ⟨c,(mem c).2 ⟨hc,tc⟩,rfl⟩,hd⟩
  (λe=>bd (V3.sub_eq_zero.1 e))
  (λn hn=>by obtain⟨p,jg,rfl⟩:=de.1 hn;obtain⟨iD,ht⟩:=(mem p).1 jg;rw[k8,show dot p.n v=p.d from ht,<-neg_nonneg,OF.neg_sub];exact OF.sub_nonneg.2 (hx p iD))
 obtain⟨p,jg,rfl⟩:=de.1 hn;obtain⟨q,Bk,rfl⟩:=de.1 hm;exact⟨p,((mem p).1 jg).1,q,((mem q).1 Bk).1,((mem p).1 jg).2,((mem q).1 Bk).2,lA,λr hr ht=>aU r.n (de.2 ⟨r,(mem r).2 ⟨hr,ht⟩,rfl⟩)⟩
end
structure iK(F:Type)[OF F] where
 fw:V3 F->Prop
 add:∀{x y},fw x->fw y->fw (x+y)
 mul:∀{x k},fw x->0<k->fw (smul x k)
 asymm:∀{x},fw x->fw (-x)->False
namespace iK
variable{F:Type}[OF F](H:iK F)
theorem zero{H:iK F}:¬H.fw 0:=λh=>H.asymm h (by rw[V3.neg_zero];exact h)
def opp:iK F where
 fw v:=H.fw (-v)
 add {x y} hx hy:=by rw[show -(x+y)=-x+-y from mO [x,y] [] (λV _=>-(V 0+V 1)) (λV _=>-V 0+-V 1) d_];exact H.add hx hy
 mul {x k} hx hk:=by rw[show -(smul x k)=smul (-x) k from mO [x] [k] (λV S=>-(smul (V 0) (S 0))) (λV S=>smul (-V 0) (S 0)) d_];exact H.mul hx hk
 asymm {x} h k:=H.asymm h k
theorem ne{H:iK F}{a b:V3 F}(h:H.fw (b-a)):a≠b:=by rintro rfl;rw[V3.sub_self]at h;exact zero h
theorem aBf{H:iK F}{a b c:V3 F}(h:H.fw (b-a))(k:H.fw (c-b)):H.fw (c-a):=by rw[show c-a=(b-a)+(c-b)from mO [a,b,c] [] (λV _=>V 2-V 0) (λV _=>(V 1-V 0)+(V 2-V 1)) d_];exact H.add h k
theorem HE{H:iK F}{a b:V3 F}(h:H.fw (b-a))(k:H.fw (a-b)):False:=by apply H.asymm h;rw[show -(b-a)=a-b from mO [a,b] [] (λV _=>-(V 1-V 0)) (λV _=>V 0-V 1) d_];exact k
end iK
section
variable{F:Type}[OF F](n:V3 F)
def tr(x y:V3 F):F:=dot n (aw x y)
def turn(a b c:V3 F):F:=dot n (aw (b-a) (c-a))
theorem Ud(a b c:V3 F):turn n a b c=turn n b c a:=
 ring [n,a,b,c] [] (λV _=>dot (V 0) (aw (V 2-V 1) (V 3-V 1))) (λV _=>dot (V 0) (aw (V 3-V 2) (V 1-V 2))) d_
theorem aBg(a b c:V3 F):turn n a c b=-turn n a b c:=
 ring [n,a,b,c] [] (λV _=>dot (V 0) (aw (V 3-V 1) (V 2-V 1))) (λV _=>-dot (V 0) (aw (V 2-V 1) (V 3-V 1))) d_
theorem Ue(a b c:V3 F):turn n a b c=tr n (b-a) (c-b):=
 ring [n,a,b,c] [] (λV _=>dot (V 0) (aw (V 2-V 1) (V 3-V 1))) (λV _=>dot (V 0) (aw (V 2-V 1) (V 3-V 2))) d_
theorem aKF(a b c:V3 F):turn n a b c=tr n (b-a) (c-a):=rfl
theorem Ox(x y:V3 F):tr n y x=-tr n x y:=
 ring [n,x,y] [] (λV _=>dot (V 0) (aw (V 2) (V 1))) (λV _=>-dot (V 0) (aw (V 1) (V 2))) d_
theorem Uf(x y:V3 F):tr n x (-y)=-tr n x y:=
 ring [n,x,y] [] (λV _=>dot (V 0) (aw (V 1) (-V 2))) (λV _=>-dot (V 0) (aw (V 1) (V 2))) d_
theorem aKG(x:V3 F):tr n x x=0:=ring [n,x] [] (λV _=>dot (V 0) (aw (V 1) (V 1))) (λ_ _=>0) d_
theorem C4(a b:V3 F):b-a=-(a-b):=mO [a,b] [] (λV _=>V 1-V 0) (λV _=>-(V 0-V 1)) d_
theorem aBh{x y z:V3 F}(hn:n≠0)(hx:dot n x=0)(hy:dot n y=0)(hz:dot n z=0):
  smul y (tr n x z)=smul z (tr n x y)+smul x (tr n y z):=by
 have hd:cI x y z=0:=by apply jo;intro h;exact hn (HD h (by rw[y0];exact hx) (by rw[y0];exact hy) (by rw[y0];exact hz))
 have e:smul y (tr n x z)=smul z (tr n x y)+smul x (tr n y z)-smul n (cI x y z):=
  mO [n,x,y,z] [] (λV _=>smul (V 2) (dot (V 0) (aw (V 1) (V 3))))
   (λV _=>smul (V 3) (dot (V 0) (aw (V 1) (V 2)))+smul (V 1) (dot (V 0) (aw (V 2) (V 3)))-smul (V 0) (cI (V 1) (V 2) (V 3))) d_
 rw[e,hd,smul_zero];exact mO [smul z (tr n x y),smul x (tr n y z)] [] (λV _=>V 0+V 1-0) (λV _=>V 0+V 1) d_
theorem Ug(H:iK F){x y z:V3 F}(hn:n≠0)(hx:dot n x=0)(hy:dot n y=0)(hz:dot n z=0)(fx:H.fw x)(fy:H.fw y)(fz:H.fw z)
  (h:0<tr n x y) (k:0<tr n y z):0<tr n x z:=by
 have e:=aBh n hn hx hy hz;have f:H.fw (smul y (tr n x z)):=by rw[e];exact H.add (H.mul fz h) (H.mul fx k)
 rcases OF.lt_trichotomy 0 (tr n x z)with g|g|g
 ·exact g
 ·rw[<-g,smul_zero]at f;exact absurd f iK.zero
 ·exact(H.asymm f (by rw[show -(smul y (tr n x z))=smul y (-(tr n x z))from mO [y] [tr n x z] (λV S=>-(smul (V 0) (S 0))) (λV S=>smul (V 0) (-S 0)) d_];exact H.mul fy (neg_pos.2 g))).elim
theorem aKH{m x y z:V3 F}(hn:n≠0)(hx:dot n x=0)(hy:dot n y=0)(hz:dot n z=0)(fx:0<dot m x)(fy:0<dot m y)(fz:0<dot m z)
  (h:0<tr n x y) (k:0<tr n y z):0<tr n x z:=by
 have e:=ch (dot m) (aBh n hn hx hy hz);rw[k7,iT,iT,iT]at e;have p:0<dot m y*tr n x z:=by rw[e];exact add_pos (mul_pos fz h) (mul_pos fx k)
 rwa[<-CR.mul_zero (dot m y),mul_lt_mul_left fy]at p
variable{ι:Type}(pt:ι->V3 F)
structure Conv(S:List ι):Prop where
 pY:∀ a∈S,∀ b∈S,dot n (pt b-pt a)=0
 xo:∀ c∈S,∃ m:V3 F,∀ w∈S,w≠c->dot m (pt w)<dot m (pt c)
variable{n pt}
theorem Conv.sub{S T:List ι}(h:Conv n pt S)(hT:∀ x∈T,x∈S):Conv n pt T:=
 ⟨λa ha b hb=>h.pY a (hT a ha) b (hT b hb),λc hc=>(h.xo c (hT c hc)).imp λ_ hm w hw=>hm w (hT w hw)⟩
theorem Conv.aBi{S:List ι}(h:Conv n pt S)(hn:n≠0){a b c:ι}(ha:a∈S)(hb:b∈S)(hc:c∈S)(bW:a≠b)(Oy:a≠c)(y8:b≠c):
  turn n (pt a) (pt b) (pt c)≠0:=by
 intro e;generalize hx:pt b-pt a=x at *;generalize hy:pt c-pt a=y at *;have px:dot n x=0:=hx▸h.pY a ha b hb;have py:dot n y=0:=hy▸h.pY a ha c hc;have e':dot n (aw x y)=0:=by rw[<-hx,<-hy];exact e
 have hz:aw x y=0:=by
  apply jo;intro bd;apply E9 hn bd e';have e2:aw n (aw x y)=smul x (dot n y)-smul y (dot n x):=
   mO [n,x,y] [] (λV _=>aw (V 0) (aw (V 1) (V 2))) (λV _=>smul (V 1) (dot (V 0) (V 2))-smul (V 2) (dot (V 0) (V 1))) d_
  rw[e2,px,py,smul_zero,smul_zero,V3.sub_self]
 obtain⟨ma,fa⟩:=h.xo a ha;obtain⟨mb,fb⟩:=h.xo b hb;obtain⟨mc,fc⟩:=h.xo c hc;have hax:dot ma x<0:=by rw[<-hx,k8,<-neg_pos,OF.neg_sub];exact OF.sub_pos.2 (fa b hb (mB bW))
 have hay:dot ma y<0:=by rw[<-hy,k8,<-neg_pos,OF.neg_sub];exact OF.sub_pos.2 (fa c hc (mB Oy))
 have Uh:0<dot mb x:=by rw[<-hx,k8];exact OF.sub_pos.2 (fb a ha bW)
 have aKI:dot mb y<dot mb x:=by have:=fb c hc (mB y8);rw[<-hx,<-hy,k8,k8,OF.lt_def];rw[show dot mb (pt b)-dot mb (pt a)-(dot mb (pt c)-dot mb (pt a))=dot mb (pt b)-dot mb (pt c)from k6 (dot mb (pt a)) (dot mb (pt b)) (dot mb (pt c)) (λa b c=>b-a-(c-a)) (λ_ b c=>b-c) d_];exact this
 have Ui:0<dot mc y:=by rw[<-hy,k8];exact OF.sub_pos.2 (fc a ha Oy)
 have aKJ:dot mc x<dot mc y:=by have:=fc b hb y8;rw[<-hx,<-hy,k8,k8,OF.lt_def];rw[show dot mc (pt c)-dot mc (pt a)-(dot mc (pt b)-dot mc (pt a))=dot mc (pt c)-dot mc (pt b)from k6 (dot mc (pt a)) (dot mc (pt b)) (dot mc (pt c)) (λa b c=>c-a-(b-a)) (λ_ b c=>c-b) d_];exact this
 -- y is a aUl t of x
 have kM:x≠0:=by rintro rfl;rw[C2]at Uh;exact OF.lt_irrefl _ Uh
 have key:∀ m:V3 F,dot m y*dot x x=dot m x*dot x y:=by
  intro m;have e2:dot m y*dot x x=dot m x*dot x y-dot m (aw x (aw x y)):=
   ring [m,x,y] [] (λV _=>dot (V 0) (V 2)*dot (V 1) (V 1)) (λV _=>dot (V 0) (V 1)*dot (V 1) (V 2)-dot (V 0) (aw (V 1) (aw (V 1) (V 2)))) d_
  rw[hz,show aw x (0:V3 F)=0 from mO [x] [] (λV _=>aw (V 0) 0) (λ_ _=>0) d_,C2,OF.sub_zero]at e2;exact e2
 have GP:=T8 kM;have kb:=key mb;have kc:=key mc;have ka:=key ma
 -- from b: t<1;from c: t>1 as t>0
 have t1:dot x y<dot x x:=by rw[<-mul_lt_mul_left Uh,<-kb,CR.mul_comm,CR.mul_comm (dot mb x),mul_lt_mul_left GP];exact aKI
 have aKK:0<dot x y:=by have h1:0 < -dot ma x:=neg_pos.2 hax;rw[<-mul_lt_mul_left h1,CR.mul_zero,CR.neg_mul,<-ka,<-CR.neg_mul];exact mul_pos (neg_pos.2 hay) GP
 have Kk:0<dot mc x:=by
  have:0<dot x y*dot mc x:=by rw[CR.mul_comm,<-kc];exact mul_pos Ui GP
  rwa[<-CR.mul_zero (dot x y),mul_lt_mul_left aKK]at this
 have t2:dot x x<dot x y:=by rw[<-mul_lt_mul_left Kk,<-kc,CR.mul_comm,CR.mul_comm (dot mc y),mul_lt_mul_left GP];exact aKJ
 exact OF.lt_irrefl _ (OF.lt_trans t1 t2)
def oJ(n:V3 F)(pt:ι->V3 F)(T:List ι)(a b:ι):Prop:=∀ c∈T,c≠a->c≠b->0<turn n (pt a) (pt b) (pt c)
variable(H:iK F)
def eO(n:V3 F)(pt:ι->V3 F)(H:iK F)(T:List ι):List ι->Prop
 |[]=>False
 |[a]=>a∈T/\∀ c∈T,c≠a->H.fw (pt c-pt a)
 |b::a::st=>b∈T/\H.fw (pt b-pt a)/\oJ n pt T a b/\eO n pt H T (a::st)
def pop(n:V3 F)(pt:ι->V3 F)(p:ι):List ι->List ι
 |b::a::st=>if 0<turn n (pt a) (pt b) (pt p)then b::a::st else pop n pt p (a::st)
 |st=>st
def half(n:V3 F)(pt:ι->V3 F)(l:List ι):List ι:=l.foldl (λst p=>p::pop n pt p st) []
variable{H}
theorem eO.mem{T:List ι}:∀{st:List ι},eO n pt H T st->∀ x∈st,x∈T
 |[a],h,x,hx=>by rcases b9.1 hx with rfl|hx;exact h.1;cases hx
 |b::a::st,h,x,hx=>by
  rcases b9.1 hx with rfl|hx
  ·exact h.1
  ·exact eO.mem h.2.2.2 x hx
theorem eO.below{T:List ι}:∀{b:ι} {st:List ι},eO n pt H T (b::st)->∀ x∈st,H.fw (pt b-pt x)
 |b,a::st,h,x,hx=>by
  rcases b9.1 hx with rfl|hx
  ·exact h.2.1
  ·exact iK.aBf (eO.below h.2.2.2 x hx) h.2.1
 |b,[],_,x,hx=>by cases hx
theorem eO.least{T:List ι}:∀{st:List ι},eO n pt H T st->∃ a,st.getLast?=some a/\a∈T/\∀ c∈T,c≠a->H.fw (pt c-pt a)
 |[a],h=>⟨a,rfl,h.1,h.2⟩
 |b::a::st,h=>by obtain⟨x,hx,hm,aU⟩:=eO.least h.2.2.2;exact⟨x,by rw[Oz];exact hx,hm,aU⟩
theorem eO.grow{T:List ι}{p w:ι}(hn:n≠0)(hc:Conv n pt (p::T))(hp:∀ c∈T,H.fw (pt p-pt c))(hw:w∈T)
  (hpw:∀ c∈T,c≠w->0<turn n (pt w) (pt p) (pt c)):∀{st:List ι},eO n pt H T st->(∀ x∈st,H.fw (pt w-pt x))->eO n pt H (p::T) st
 |[a],h,_=>⟨bw _ h.1,λc hc ha=>by
   rcases b9.1 hc with rfl|hc
   ·exact hp a h.1
   ·exact h.2 c hc ha⟩
 |v::u::st,h,bK=>by
  refine⟨bw _ h.1,h.2.1,?_,eO.grow hn hc hp hw hpw h.2.2.2 λx hx=>bK x (bw _ hx)⟩;intro c dF QO jW;rcases b9.1 dF with rfl|dF
  ·have hv:v∈T:=h.1;have hu:u∈T:=eO.mem h.2.2.2 u (aL ..);have fwv:H.fw (pt w-pt v):=bK v (aL ..);have wv:w≠v:=by rintro rfl;exact iK.ne fwv rfl
   have wu:w≠u:=by rintro rfl;exact iK.ne (bK w (bw _ (aL ..))) rfl
   have h1:=h.2.2.1 w hw wu wv;have h2:=hpw v hv (mB wv);rw[<-Ud]at h2;rw[Ue]at h1 ⊢;have qy:=bw c hv;exact Ug n H hn (hc.pY u (bw _ hu) v qy) (hc.pY v qy w (bw _ hw)) (hc.pY v qy c (aL ..)) h.2.1 fwv (hp v hv) h1 h2
  ·exact h.2.2.1 c dF QO jW
theorem eO.pop{T:List ι}{p:ι}(hn:n≠0)(hc:Conv n pt (p::T))(hp:∀ c∈T,H.fw (pt p-pt c))
  (aKL:∀ a∈T,∀ c∈T,c≠a->H.fw (pt c-pt a)\/H.fw (pt a-pt c)) :
  ∀{b:ι} {st:List ι},eO n pt H T (b::st)->
   ((∀ c∈T,c≠b->H.fw (pt b-pt c))\/∃ e∈T,e≠b/\H.fw (pt e-pt b)/\oJ n pt T b e/\turn n (pt b) (pt e) (pt p)<=0)->
   eO n pt H (p::T) (p::Go.Proofs.YthccllenbnhogaaGreatDoor.pop n pt p (b::st)):=by
 have pp:p∈p::T:=aL ..;have mm:∀{x},x∈T->x∈p::T:=λh=>bw _ h;have pne:∀ c∈T,p≠c:=λc hc e=>iK.ne (hp c hc) (by rw[e])
 -- points in front of b
 have front:∀{b c:ι},b∈T->c∈T->c≠b->H.fw (pt c-pt b)->
   ((∀ c∈T,c≠b->H.fw (pt b-pt c))\/∃ e∈T,e≠b/\H.fw (pt e-pt b)/\oJ n pt T b e/\turn n (pt b) (pt e) (pt p)<=0)->0<turn n (pt b) (pt p) (pt c):=by
  intro b c hb dF mP hf kU;rcases kU with Bl|⟨e,he,heb,OA,hl,ht⟩
  ·exact(iK.HE hf (Bl c dF mP)).elim
  ·have Eg:0<turn n (pt b) (pt p) (pt e):=by
    rw[aBg,neg_pos];rcases OF.o8 ht with h|h
    ·exact h
    ·exact absurd h (hc.aBi hn (mm hb) (mm he) pp (mB heb) (mB (pne b hb)) (mB (pne e he)))
   by_cases hce:c=e
   ·rw[hce];exact Eg
   ·have h3:=hl c dF mP hce;exact Ug n H hn (hc.pY b (mm hb) p pp) (hc.pY b (mm hb) e (mm he)) (hc.pY b (mm hb) c (mm dF)) (hp b hb) OA hf Eg h3
 intro b st;induction st generalizing b with
 |nil=>
  intro h kU;refine⟨pp,hp b h.1,?_,mm h.1,λc dF mP=>?_⟩
  ·intro c dF mP Fe;have uD:c∈T:=(b9.1 dF).resolve_left Fe;exact front h.1 uD mP (h.2 c uD mP) kU
  ·rcases b9.1 dF with rfl|uD
   ·exact hp b h.1
   ·exact h.2 c uD mP
 |cons a st ih=>
  intro h kU;have ha:a∈T:=eO.mem h.2.2.2 a (aL ..);have hb:b∈T:=h.1;unfold Go.Proofs.YthccllenbnhogaaGreatDoor.pop;split
  ·rename_i OB;have aU:∀ c∈T,c≠b->0<turn n (pt b) (pt p) (pt c):=by
    intro c uD mP;rcases aKL b hb c uD mP with hf|hf
    ·exact front hb uD mP hf kU
    ·-- c aKM behind b
     have h1:0<tr n (pt b-pt a) (pt p-pt b):=by rw[<-Ue];exact OB
     rw[aKF];by_cases lK:c=a
     ·rw[lK,C4 (pt b) (pt a),Uf,neg_pos,Ox,JS];exact h1
     ·have h2:=h.2.2.1 c uD lK mP;rw[Ue]at h2;rw[C4 (pt b) (pt c),Uf,neg_pos,Ox,JS];refine Ug n H hn (hc.pY c (mm uD) b (mm hb)) (hc.pY a (mm ha) b (mm hb)) (hc.pY b (mm hb) p pp) hf h.2.1 (hp b hb) ?_ h1;rw[C4 (pt b) (pt c),Uf,neg_pos,Ox,JS]at h2;exact h2
   refine⟨pp,hp b hb,?_,mm hb,h.2.1,?_,?_⟩
   ·intro c dF mP Fe;exact aU c ((b9.1 dF).resolve_left Fe) mP
   ·intro c dF lK mP;rcases b9.1 dF with rfl|uD
    ·exact OB
    ·exact h.2.2.1 c uD lK mP
   ·exact eO.grow hn hc hp hb aU h.2.2.2 (eO.below h)
  ·rename_i OB;exact ih h.2.2.2 (.inr ⟨b,hb,λe=>iK.ne h.2.1 (by rw[e]),h.2.1,h.2.2.1,OF.not_lt.1 OB⟩)
end
section
variable{F:Type}[OF F]{n:V3 F}{ι:Type}{pt:ι->V3 F}{H:iK F}
def xq(pt:ι->V3 F)(H:iK F)(l:List ι):Prop:=l.Pairwise λa b=>H.fw (pt b-pt a)
theorem aBj(p:ι):∀(b:ι) (st:List ι),∃ x e8,pop n pt p (b::st)=x::e8
 |b,[]=>⟨b,[],rfl⟩
 |b,a::st=>by
  unfold pop;split
  ·exact⟨_,_,rfl⟩
  ·exact aBj p a st
theorem xq.total{l:List ι}(h:xq pt H l):∀ a∈l,∀ c∈l,c≠a->H.fw (pt c-pt a)\/H.fw (pt a-pt c):=by
 induction l with
 |nil=>intro a ha;cases ha
 |cons x l ih=>
  have h1:=sj.1 h;intro a ha c hc lK;rcases b9.1 ha with e|fX
  ·rcases b9.1 hc with e2|c9
   ·exact absurd (e2.trans e.symm) lK
   ·exact .inl (e▸h1.1 c c9)
  ·rcases b9.1 hc with e2|c9
   ·exact .inr (e2▸h1.1 a fX)
   ·exact ih h1.2 a fX c c9 lK
theorem eO.congr{T T':List ι}(h:∀ x,x∈T↔x∈T'):∀{st:List ι},eO n pt H T st->eO n pt H T' st
 |[a],hc=>⟨(h a).1 hc.1,λc hm=>hc.2 c ((h c).2 hm)⟩
 |b::a::st,hc=>⟨(h b).1 hc.1,hc.2.1,λc hm=>hc.2.2.1 c ((h c).2 hm),eO.congr h hc.2.2.2⟩
theorem aBk(hn:n≠0):∀(l T:List ι) (b:ι) (st:List ι),Conv n pt (T++l)->xq pt H (T++l)->b∈T->(∀ c∈T,c≠b->H.fw (pt b-pt c))->
  eO n pt H T (b::st)->∃ x e8,l.foldl (λst p=>p::pop n pt p st) (b::st)=x::e8/\eO n pt H (T++l) (x::e8)/\(∀ c∈T++l,c≠x->H.fw (pt x-pt c))/\(l.getLast?).getD b=x
 |[],T,b,st,_,_,hb,Bl,h=>⟨b,st,rfl,by rw[gY];exact h,by rw[gY];exact Bl,rfl⟩
 |p::l,T,b,st,hc,hs,hb,Bl,h=>by
  have oV:=List.pairwise_append.1 hs;have hp:∀ c∈T,H.fw (pt p-pt c):=λc uD=>oV.2.2 c uD p (aL ..);have mem:∀ x,x∈p::T↔x∈T++[p]:=λx=>by simp[or_comm]
  have h1:=eO.pop hn (hc.sub (T:=p::T) λx hx=>by
   rcases b9.1 hx with rfl|hx
   ·exact eA.2 (.inr (aL ..))
   ·exact eA.2 (.inl hx)) hp (xq.total oV.1) h (.inl Bl)
  obtain⟨x,e8,hx⟩:=aBj (n:=n) (pt:=pt) p b st;rw[hx]at h1;have e:T++[p]++l=T++p::l:=by simp
  obtain⟨y,st2,hf,xt,Uj,hl⟩:=aBk hn l (T++[p]) p (x::e8) (by rw[e];exact hc) (by rw[e];exact hs) s_
   (λc dF Fe=>by
    rcases eA.1 dF with dF|dF
    ·exact hp c dF
    ·exact absurd (xu.1 dF) Fe) (eO.congr mem h1)
  refine⟨y,st2,?_,by rw[<-e];exact xt,by rw[<-e];exact Uj,?_⟩
  ·rw[vi,hx];exact hf
  ·rw[<-hl];cases l with
   |nil=>rfl
   |cons z l=>rw[Oz,List.getLast?_eq_some_getLast (l:=z::l) s_];rfl
theorem aBl(hn:n≠0){l:List ι}{a:ι}(hc:Conv n pt (a::l))(hs:xq pt H (a::l)):
  ∃ x st,half n pt (a::l)=x::st/\eO n pt H (a::l) (x::st)/\(∀ c∈a::l,c≠x->H.fw (pt x-pt c))/\(l.getLast?).getD a=x:=by
 have oV:=sj.1 hs
 exact aBk hn l [a] a [] (by exact hc) (by exact hs) (aL ..)
  (λc dF lK=>absurd (xu.1 dF) lK) ⟨aL ..,λc dF lK=>absurd (xu.1 dF) lK⟩
def qa(R:ι->ι->Prop):List ι->Prop
 |[]=>True
 |[_]=>True
 |a::b::l=>R a b/\qa R (b::l)
theorem Uk{R:ι->ι->Prop}:∀{l:List ι} {a:ι} {m:List ι},qa R (l++[a])->qa R (a::m)->qa R (l++a::m)
 |[],a,m,_,h=>h
 |[x],a,m,h1,h=>⟨h1.1,h⟩
 |x::y::l,a,m,h1,h=>⟨h1.1,Uk (l:=y::l) h1.2 h⟩
theorem aBm{R:ι->ι->Prop}:∀{l:List ι} {a b:ι},qa R (l++[a])->R a b->qa R (l++[a,b])
 |[],a,b,_,h=>⟨h,trivial⟩
 |[x],a,b,h1,h=>⟨h1.1,h,trivial⟩
 |x::y::l,a,b,h1,h=>⟨h1.1,aBm (l:=y::l) h1.2 h⟩
theorem eO.steps{T:List ι}:∀{st:List ι},eO n pt H T st->qa (λa b=>oJ n pt T a b/\H.fw (pt b-pt a)) st.reverse
 |[a],_=>trivial
 |b::a::st,h=>by have ih:=eO.steps h.2.2.2;rw[vC]at ih ⊢;rw[vC,B8];exact aBm ih ⟨h.2.2.1,h.2.1⟩
theorem qa.imp{R R':ι->ι->Prop}(h:∀ a b,R a b->R' a b):∀{l:List ι},qa R l->qa R' l
 |[],_=>trivial
 |[_],_=>trivial
 |_::b::l,hs=>⟨h _ _ hs.1,qa.imp h (l:=b::l) hs.2⟩
def order(n:V3 F)(pt:ι->V3 F)(l:List ι):List ι:=(half n pt l).tail.reverse++(half n pt l.reverse).tail.reverse
theorem aKN(hn:n≠0){S:List ι}(hc:Conv n pt S){c:ι}(Kl:c∈S):∀{l:List ι} {a b:ι},(∀ x∈a::l,x∈S)->c∉a::l->
  qa (λa b=>oJ n pt S a b) (a::l)->(a::l).getLast?=some b->a=b\/0<tr n (pt a-pt c) (pt b-pt c):=by
 obtain⟨m,hm⟩:=hc.xo c Kl;intro l;induction l with
 |nil=>intro a b _ _ _ h;left;simpa using h
 |cons x l ih=>
  intro a b hS A8 bK vn;right;have Kk:c∉x::l:=λh=>A8 (bw _ h);have lK:c≠a:=λh=>A8 (h▸aL ..);have aBn:c≠x:=λh=>Kk (h▸aL ..);have h1:0<tr n (pt a-pt c) (pt x-pt c):=by have:=bK.1 c Kl lK aBn;rw[<-Ud]at this;exact this
  have aBo:(x::l).getLast?=some b:=by rw[Oz]at vn;exact vn
  have hb:b∈x::l:=List.mem_of_getLast? aBo;have aS:=hS a (aL ..);have xS:=hS x (bw _ (aL ..));have bS:=hS b (bw _ hb);have neg:∀ y∈S,c≠y->0<dot (-m) (pt y-pt c):=by intro y hy Ui;rw[Bh,k8,OF.neg_sub];exact OF.sub_pos.2 (hm y hy (mB Ui))
  rcases ih (λy hy=>hS y (bw _ hy)) Kk bK.2 aBo with rfl|h2
  ·exact h1
  ·exact aKH n hn (hc.pY c Kl a aS) (hc.pY c Kl x xS) (hc.pY c Kl b bS) (neg a aS lK) (neg x xS aBn) (neg b bS (λh=>Kk (h▸hb))) h1 h2
theorem aKO(l:List ι)(a:ι):(l++[a]).getLast?=some a:=by simp
theorem aBp{S:List ι}(hS:∀ a∈S,∀ b∈S,pt a=pt b->a=b){a b c:ι}(hb:b∈S)(hc:c∈S)(bW:b≠a)(Oy:c≠a)(h1:oJ n pt S a b)(h2:oJ n pt S a c):b=c:=by apply jo;intro y8;have k1:=h1 c hc Oy (mB y8);have k2:=h2 b hb bW y8;rw[aBg]at k2;exact OF.lt_irrefl _ (OF.lt_trans k1 (neg_pos.1 k2))
theorem Ul{T:List ι}:∀{st:List ι},eO n pt H T st->st.Pairwise λa b=>H.fw (pt a-pt b)
 |[_],_=>aBq ..
 |b::a::st,h=>sj.2 ⟨eO.below h,Ul h.2.2.2⟩
theorem aKP(hn:n≠0){l:List ι}{a b:ι}(hc:Conv n pt (a::b::l))(hs:xq pt H (a::b::l)):
  ∃ m,order n pt (a::b::l)=a::m/\(a::m).Nodup/\(∀ x,x∈a::m↔x∈a::b::l)/\qa (λx y=>oJ n pt (a::b::l) x y) (a::m++[a]):=by
 generalize hS:a::b::l=S at *
 -- the way there
 obtain⟨z,st,hh,xt,Bl,hz⟩:=aBl (H:=H) hn (l:=b::l) (a:=a) (hS▸hc) (hS▸hs);rw[hS]at hh xt Bl
 -- the list from Um end on,and the opposite half
 have aKQ:∃ w t,S.reverse=w::t:=by
  cases h:S.reverse with
  |nil=>rw[aBr]at h;rw[<-hS]at h;cases h
  |cons w t=>exact⟨w,t,rfl⟩
 obtain⟨w,t,OC⟩:=aKQ;have y9:∀ x,x∈w::t↔x∈S:=λx=>by rw[<-OC];exact Km
 have Q9:xq pt H.opp (w::t):=by rw[<-OC];unfold xq at *;rw[aBs];refine hs.imp ?_;intro x y h;show H.fw (-(pt x-pt y));rw[<-C4];exact h
 have hcr:Conv n pt (w::t):=hc.sub λx hx=>(y9 x).1 hx;obtain⟨z',e8,Bm,C5,aKR,lQ⟩:=aBl (H:=H.opp) hn hcr Q9;have aS:a∈S:=by rw[<-hS];exact aL ..
 have bS:b∈S:=by rw[<-hS];exact bw _ (aL ..)
 have Un:∀ c∈S,c≠a->H.fw (pt c-pt a):=by intro c dF lK;rw[<-hS]at dF hs;exact(sj.1 hs).1 c ((b9.1 dF).resolve_left lK)
 -- the ends of both aKS
 have hza:z'=a:=by
  apply jo;intro bd;have h1:=aKR a ((y9 a).2 aS) (mB bd);have h2:=Un z' ((y9 z').1 (eO.mem C5 z' (aL ..))) bd;have oh:H.fw (pt a-pt z'):=by rw[C4 (pt z') (pt a)];exact h1
  exact iK.HE h2 oh
 subst hza;obtain⟨a1,dY,aKT,aKU⟩:=eO.least xt;have hra:a1=z':=by apply jo;intro bd;exact iK.HE (Un a1 aKT bd) (aKU z' aS (mB bd))
 rw[hra]at dY;obtain⟨w1,Ff,aKV,aKW⟩:=eO.least C5;have zS:z∈S:=eO.mem xt z (aL ..);have hwz:w1=z:=by
  apply jo;intro bd;have h1:=Bl w1 ((y9 w1).1 aKV) bd;have h2:=aKW z ((y9 z).2 zS) (mB bd);have yS:H.fw (pt w1-pt z):=by rw[C4 (pt z) (pt w1)];exact h2
  exact iK.HE h1 yS
 rw[hwz]at Ff;have haz:z'≠z:=by
  rintro rfl
  rcases Classical.em (b=z')with rfl|xw
  ·rw[<-hS]at hs;exact iK.ne ((sj.1 hs).1 b (aL ..)) rfl
  ·exact iK.HE (Un b bS xw) (Bl b bS xw)
 -- the pieces
 have aKX:∃ u,st.reverse=z'::u:=by
  cases st with
  |nil=>simp at dY;exact absurd dY.symm haz
  |cons x st=>
   rw[Oz]at dY;cases h:(x::st).reverse with
   |nil=>rw[aBr]at h;cases h
   |cons q u=>
    have:(x::st)=(q::u).reverse:=by rw[<-h,List.reverse_reverse]
    rw[this,vC,List.getLast?_append,List.getLast?_singleton]at dY;simp at dY;exact⟨u,by rw[dY]⟩
 have aKY:∃ u,e8.reverse=z::u:=by
  cases e8 with
  |nil=>simp at Ff;exact absurd Ff haz
  |cons x e8=>
   rw[Oz]at Ff;cases h:(x::e8).reverse with
   |nil=>rw[aBr]at h;cases h
   |cons q u=>
    have:(x::e8)=(q::u).reverse:=by rw[<-h,List.reverse_reverse]
    rw[this,vC,List.getLast?_append,List.getLast?_singleton]at Ff;simp at Ff;exact⟨u,by rw[Ff]⟩
 obtain⟨u,hu⟩:=aKX;obtain⟨u',oT⟩:=aKY;have aKZ:order n pt S=z'::(u++z::u'):=by unfold order;rw[hh,OC,Bm];simp only[List.tail_cons];rw[hu,oT];rfl
 refine⟨u++z::u',aKZ,?_,?_,?_⟩
 case refine_3=>
  have s1:=(eO.steps xt).imp (R':=λx y=>oJ n pt S x y) λx y h=>h.1;have s2:=(eO.steps C5).imp (R':=λx y=>oJ n pt S x y) λx y h c dF=>h.1 c ((y9 c).2 dF);rw[vC,hu]at s1;rw[vC,oT]at s2;have:=Uk (l:=z'::u) (a:=z) (m:=u'++[z']) s1 s2;simpa using this
 case refine_2=>
  have sub:∀ x,x∈z'::(u++z::u')->x∈S:=by
   intro x hx;have:x∈z'::u\/x∈z::u':=by
    rcases b9.1 hx with h|h
    ·exact .inl (h▸aL ..)
    ·rcases eA.1 h with h|h
     ·exact .inl (bw _ h)
     ·exact .inr h
   rcases this with h|h
   ·rw[<-hu,Km]at h;exact eO.mem xt x (bw _ h)
   ·rw[<-oT,Km]at h;exact(y9 x).1 (eO.mem C5 x (bw _ h))
  intro x;refine⟨sub x,λhx=>?_⟩;apply jo;intro fJ;have s1:=(eO.steps xt).imp (R':=λx y=>oJ n pt S x y) λx y h=>h.1;have s2:=(eO.steps C5).imp (R':=λx y=>oJ n pt S x y) λx y h c dF=>h.1 c ((y9 c).2 dF);rw[vC,hu]at s1;rw[vC,oT]at s2;have s3:=Uk (l:=z'::u) (a:=z) (m:=u'++[z']) s1 s2;have kM:z'≠x:=λh=>fJ (h▸aL ..)
  -- the first step,then the rest back to Um start
  have aK0:∃ y v,u++z::(u'++[z'])=y::v:=by
   cases u with
   |nil=>exact⟨z,_,rfl⟩
   |cons y u=>exact⟨y,_,rfl⟩
  obtain⟨y,v,IL⟩:=aK0;have s3':qa (λx y=>oJ n pt S x y) (z'::y::v):=by rw[<-IL];exact s3
  have aU:∀ q∈y::v,q=z'\/q∈z'::(u++z::u'):=by
   intro q hq;rw[<-IL]at hq;have:q∈u++z::u'\/q=z':=by simpa[or_assoc]using hq
   rcases this with h|h
   ·exact .inr (bw _ h)
   ·exact .inl h
  have iG:x∉y::v:=λh=>by
   rcases aU x h with h|h
   ·exact kM h.symm
   ·exact fJ h
  have hyS:∀ q∈y::v,q∈S:=λq hq=>by
   rcases aU q hq with h|h
   ·rw[h];exact aS
   ·exact sub q h
  have vn:(y::v).getLast?=some z':=by rw[<-IL,show u++z::(u'++[z'])=(u++z::u')++[z']by simp];exact aKO _ _
  have hyx:x≠y:=λh=>iG (h▸aL ..);have h1:0<tr n (pt z'-pt x) (pt y-pt x):=by have:=s3'.1 x hx (mB kM) hyx;rw[<-Ud]at this;exact this
  rcases aKN hn hc hx hyS iG s3'.2 vn with h2|h2
  ·rw[h2,aKG]at h1;exact OF.lt_irrefl _ h1
  ·rw[Ox]at h2;exact OF.lt_irrefl _ (OF.lt_trans h1 (neg_pos.1 h2))
 case refine_1=>
  have d1:=Ul xt;have d2:=Ul C5;have e1:(z'::u).Pairwise λa b=>H.fw (pt b-pt a):=by rw[<-hu,aBs];exact(sj.1 d1).2
  have e2:(z::u').Pairwise λa b=>H.fw (pt a-pt b):=by rw[<-oT,aBs];refine(sj.1 d2).2.imp ?_;intro x y h;rw[C4 (pt x) (pt y)];exact h
  have inj:∀ x∈S,∀ y∈S,pt x=pt y->x=y:=by
   intro x hx y hy km;apply jo;intro bd;rcases xq.total hs y hy x hx bd with h|h
   ·exact iK.ne h km.symm
   ·exact iK.ne h km
  have n1:(z'::u).Nodup:=e1.imp λh=>λe=>iK.ne h (by rw[e]);have n2:(z::u').Nodup:=e2.imp λh=>λe=>iK.ne h (by rw[e]);rw[show z'::(u++z::u')=(z'::u)++(z::u')from rfl,List.nodup_append];refine⟨n1,n2,?_⟩;intro x hx y hy km;subst km
  -- x aKM on both aKS: Um aUm differ
  have aK1:∀{l:List ι} {e x:ι},qa (λa b=>oJ n pt S a b/\H.fw (pt b-pt a)) (l++[e])->x∈l->∃ y∈l++[e],oJ n pt S x y/\H.fw (pt y-pt x):=by
   intro l;induction l with
   |nil=>intro e x _ h;cases h
   |cons p l ih=>
    intro e x bK hx;cases l with
    |nil=>
     rcases b9.1 hx with rfl|h
     ·exact⟨e,by simp,bK.1⟩
     ·cases h
    |cons q l=>
     rcases b9.1 hx with rfl|h
     ·exact⟨q,by simp,bK.1⟩
     ·obtain⟨y,hy,h2⟩:=ih (e:=e) bK.2 h;exact⟨y,bw _ hy,h2⟩
  have s1:=eO.steps xt;rw[vC,hu]at s1;obtain⟨y1,hy1,uZ,gW⟩:=aK1 s1 hx;have y1S:y1∈S:=by rw[<-hu,<-vC,Km]at hy1;exact eO.mem xt y1 hy1
  have s2:=(eO.steps C5).imp (R':=λx y=>oJ n pt S x y/\H.fw (pt x-pt y)) λx y h=>⟨λc dF=>h.1 c ((y9 c).2 dF),by have:H.fw (-(pt y-pt x)):=h.2;rwa[<-C4]at this⟩
  rw[vC,oT]at s2;have aK2:∀{l:List ι} {e x:ι},qa (λa b=>oJ n pt S a b/\H.fw (pt a-pt b)) (l++[e])->x∈l->∃ y∈l++[e],oJ n pt S x y/\H.fw (pt x-pt y):=by
   intro l;induction l with
   |nil=>intro e x _ h;cases h
   |cons p l ih=>
    intro e x bK hx;cases l with
    |nil=>
     rcases b9.1 hx with rfl|h
     ·exact⟨e,by simp,bK.1⟩
     ·cases h
    |cons q l=>
     rcases b9.1 hx with rfl|h
     ·exact⟨q,by simp,bK.1⟩
     ·obtain⟨y,hy,h2⟩:=ih (e:=e) bK.2 h;exact⟨y,bw _ hy,h2⟩
  obtain⟨y2,uE,ll,jm⟩:=aK2 s2 hy;have y2S:y2∈S:=by rw[<-oT,<-vC,Km]at uE;exact(y9 y2).1 (eO.mem C5 y2 uE)
  have:=aBp inj y1S y2S (λe=>iK.ne gW (by rw[e])) (λe=>iK.ne jm (by rw[e])) uZ ll;subst this;exact iK.HE gW jm
end
section
variable{F:Type}[OF F]
def zf(v:V3 F):Prop:=0<v.x\/(v.x=0/\(0<v.y\/(v.y=0/\0<v.z)))
theorem aK3(v:V3 F)(k:F):(smul v k).x=v.x*k:=rfl
theorem aK4(v:V3 F)(k:F):(smul v k).y=v.y*k:=rfl
theorem aK5(v:V3 F)(k:F):(smul v k).z=v.z*k:=rfl
theorem aK6(u v:V3 F):(u+v).x=u.x+v.x:=rfl
theorem aK7(u v:V3 F):(u+v).y=u.y+v.y:=rfl
theorem aK8(u v:V3 F):(u+v).z=u.z+v.z:=rfl
theorem aK9(u:V3 F):(-u).x=-u.x:=rfl
theorem aLa(u:V3 F):(-u).y=-u.y:=rfl
theorem aLb(u:V3 F):(-u).z=-u.z:=rfl
def aBt:iK F where
 fw:=zf
 add {x y} hx hy:=by
  unfold zf at *;rw[aK6,aK7,aK8];rcases hx with hx|⟨hx,gK|⟨gK,Kn⟩⟩<;>rcases hy with hy|⟨hy,uE|⟨uE,Uo⟩⟩
  ·exact .inl (add_pos hx hy)
  ·exact .inl (by rw[hy,CR.add_zero];exact hx)
  ·exact .inl (by rw[hy,CR.add_zero];exact hx)
  ·exact .inl (by rw[hx,CR.zero_add];exact hy)
  ·exact .inr ⟨by rw[hx,hy,CR.add_zero],.inl (add_pos gK uE)⟩
  ·exact .inr ⟨by rw[hx,hy,CR.add_zero],.inl (by rw[uE,CR.add_zero];exact gK)⟩
  ·exact .inl (by rw[hx,CR.zero_add];exact hy)
  ·exact .inr ⟨by rw[hx,hy,CR.add_zero],.inl (by rw[gK,CR.zero_add];exact uE)⟩
  ·exact .inr ⟨by rw[hx,hy,CR.add_zero],.inr ⟨by rw[gK,uE,CR.add_zero],add_pos Kn Uo⟩⟩
 mul {x k} hx hk:=by
  unfold zf at *;rw[aK3,aK4,aK5];rcases hx with hx|⟨hx,gK|⟨gK,Kn⟩⟩
  ·exact .inl (mul_pos hx hk)
  ·exact .inr ⟨by rw[hx,CR.zero_mul],.inl (mul_pos gK hk)⟩
  ·exact .inr ⟨by rw[hx,CR.zero_mul],.inr ⟨by rw[gK,CR.zero_mul],mul_pos Kn hk⟩⟩
 asymm {x} hx hy:=by
  unfold zf at *;rw[aK9,aLa,aLb]at hy;have no:∀ a:F,0<a->0 < -a->False:=λa h k=>OF.lt_irrefl _ (OF.lt_trans h (neg_pos.1 k));have nz:∀ a:F,0<a->-a=0->False:=λa h k=>by rw[<-CR.neg_neg a,k,CR.neg_zero]at h;exact OF.lt_irrefl _ h
  have Up:∀ a:F,a=0->0 < -a->False:=λa h k=>by rw[h,CR.neg_zero]at k;exact OF.lt_irrefl _ k
  rcases hx with hx|⟨hx,gK|⟨gK,Kn⟩⟩<;>rcases hy with hy|⟨hy,uE|⟨uE,Uo⟩⟩
  ·exact no _ hx hy
  ·exact nz _ hx hy
  ·exact nz _ hx hy
  ·exact Up _ hx hy
  ·exact no _ gK uE
  ·exact nz _ gK uE
  ·exact Up _ hx hy
  ·exact Up _ gK uE
  ·exact no _ Kn Uo
theorem aLc{a b:V3 F}(h:a≠b):zf (b-a)\/zf (a-b):=by
 unfold zf;show(0<b.x-a.x\/(b.x-a.x=0/\(0<b.y-a.y\/(b.y-a.y=0/\0<b.z-a.z))))\/(0<a.x-b.x\/(a.x-b.x=0/\(0<a.y-b.y\/(a.y-b.y=0/\0<a.z-b.z))));simp only[OF.sub_pos,OF.sub_eq_zero];rcases OF.lt_trichotomy a.x b.x with hx|hx|hx
 ·exact .inl (.inl hx)
 ·rcases OF.lt_trichotomy a.y b.y with hy|hy|hy
  ·exact .inl (.inr ⟨hx.symm,.inl hy⟩)
  ·rcases OF.lt_trichotomy a.z b.z with hz|hz|hz
   ·exact .inl (.inr ⟨hx.symm,.inr ⟨hy.symm,hz⟩⟩)
   ·exact absurd (V3.ext hx hy hz) h
   ·exact .inr (.inr ⟨hx,.inr ⟨hy,hz⟩⟩)
  ·exact .inr (.inr ⟨hx,.inl hy⟩)
 ·exact .inr (.inl hx)
theorem l5.xo{ps:List (HS F)}{c:V3 F}(h:l5 ps c):∃ m:V3 F,∀ w,hJ ps w->w≠c->dot m w<dot m c:=by
 obtain⟨_,p,hp,q,hq,r,hr,hd,tp,tq,tr⟩:=h;refine⟨p.n+q.n+r.n,λw hw bd=>?_⟩;rw[On,On,On,On,show dot p.n c=p.d from tp,show dot q.n c=q.d from tq,show dot r.n c=r.d from tr];rcases OF.o8 (hw p hp)with h1|h1
 ·exact add_lt_add_of_lt_of_le (add_lt_add_of_lt_of_le h1 (hw q hq)) (hw r hr)
 ·rcases OF.o8 (hw q hq)with h2|h2
  ·exact add_lt_add_of_lt_of_le (add_lt_add_of_le_of_lt (hw p hp) h2) (hw r hr)
  ·rcases OF.o8 (hw r hr)with h3|h3
   ·exact add_lt_add_of_le_of_lt (OF.add_le_add (hw p hp) (hw q hq)) h3
   ·refine absurd (V3.sub_eq_zero.1 (HD hd ?_ ?_ ?_)) bd
    ·rw[k8,h1,show dot p.n c=p.d from tp,OF.sub_self]
    ·rw[k8,h2,show dot q.n c=q.d from tq,OF.sub_self]
    ·rw[k8,h3,show dot r.n c=r.d from tr,OF.sub_self]
theorem aLd{ps:List (HS F)}{p:HS F}{ι:Type}{pt:ι->V3 F}{S:List ι}(hS:∀ i∈S,l5 ps (pt i)/\dS p (pt i))
  (Uq:∀ i∈S,∀ j∈S,pt i=pt j->i=j):Conv p.n pt S where
 pY a ha b hb:=by rw[k8,show dot p.n (pt a)=p.d from(hS a ha).2,show dot p.n (pt b)=p.d from(hS b hb).2,OF.sub_self]
 xo c hc:=by obtain⟨m,hm⟩:=(hS c hc).1.xo;exact⟨m,λw hw bd=>hm _ (hS w hw).1.1 λe=>bd (Uq w hw c hc e)⟩
structure eP(F:Type) where
 lo:Option F
 hi:Option F
def Bn(s:eP F)(a b:F):Option (eP F):=
 if aB a=0 then(if 0<=b then some s else none)
 else
  let t:=b*a⁻¹
  let s':eP F:=
   if 0<a then(match s.hi with|some h=>if t<h then⟨s.lo,some t⟩else s|none=>⟨s.lo,some t⟩)
   else(match s.lo with|some l=>if l<t then⟨some t,s.hi⟩else s|none=>⟨some t,s.hi⟩)
  match s'.lo,s'.hi with
  |some l,some h=>if l<h then some s' else none
  |_,_=>some s'
def eP.Sat(s:eP F)(t:F):Prop:=(∀ l,s.lo=some l->l<=t)/\(∀ h,s.hi=some h->t<=h)
def eP.Open(s:eP F):Prop:=∀ l h,s.lo=some l->s.hi=some h->l<h
theorem aLe(s:eP F)(a b:F):
  (∀ s',Bn s a b=some s'->(s.Open->s'.Open)/\(∀ t,s'.Sat t↔s.Sat t/\a*t<=b)/\(∀ l,s'.lo=some l->s.lo=some l\/(a<0/\a*l=b))/\(∀ h,s'.hi=some h->s.hi=some h\/(0<a/\a*h=b)))/\
  (Bn s a b=none->∀ t1 t2,s.Sat t1->a*t1<=b->s.Sat t2->a*t2<=b->t1<t2->False):=by
 unfold Bn;by_cases ha:aB a=0
 ·rw[au ha];have gV:=(e7 a).1 ha;by_cases hb:0<=b
  ·rw[au hb];refine⟨λs' h=>?_,λh=>by cases h⟩;injection h with h;subst h;exact⟨id,λt=>⟨λh=>⟨h,by rw[gV,CR.zero_mul];exact hb⟩,λh=>h.1⟩,λl h=>.inl h,λl h=>.inl h⟩
  ·rw[al hb];refine⟨λs' h=>(by cases h),λ_ t1 t2 _ h1 _ _ _=>hb ?_⟩;rw[gV,CR.zero_mul]at h1;exact h1
 ·rw[al ha];have gV:a≠0:=λe=>ha ((e7 a).2 e);have e:a*(b*a⁻¹)=b:=by rw[CR.mul_left_comm,lI _ gV,CR.mul_one]
  generalize b*a⁻¹=t0 at e;dsimp only
  -- the new part,and what it says
  have key:∃ s':eP F,(if 0<a then(match s.hi with|some h=>if t0<h then⟨s.lo,some t0⟩else s|none=>⟨s.lo,some t0⟩)
    else(match s.lo with|some l=>if l<t0 then⟨some t0,s.hi⟩else s|none=>⟨some t0,s.hi⟩):eP F)=s'/\(∀ t,s'.Sat t↔s.Sat t/\a*t<=b)/\(∀ l,s'.lo=some l->s.lo=some l\/(a<0/\a*l=b))/\(∀ h,s'.hi=some h->s.hi=some h\/(0<a/\a*h=b)):=by
   by_cases hp:0<a
   ·rw[au hp];have le:∀ t,a*t<=b↔t<=t0:=λt=>by rw[<-e,mul_le_mul_left hp]
    cases hh:s.hi with
    |none=>
     refine⟨_,rfl,λt=>?_,λl h=>.inl h,λh k=>.inr ⟨hp,by injection k with k;rw[<-k];exact e⟩⟩;rw[le];exact⟨λh=>⟨⟨h.1,λx hx=>by rw[hh]at hx;cases hx⟩,h.2 t0 rfl⟩,λh=>⟨h.1.1,λx hx=>by injection hx with hx;rw[<-hx];exact h.2⟩⟩
    |some h0=>
     dsimp only;by_cases ao:t0<h0
     ·rw[au ao];refine⟨_,rfl,λt=>?_,λl h=>.inl h,λh k=>.inr ⟨hp,by injection k with k;rw[<-k];exact e⟩⟩;rw[le];exact⟨λh=>⟨⟨h.1,λx hx=>by rw[hh]at hx;injection hx with hx;rw[<-hx];exact OF.le_trans (h.2 t0 rfl) (OF.le_of_lt ao)⟩,h.2 t0 rfl⟩,λh=>⟨h.1.1,λx hx=>by injection hx with hx;rw[<-hx];exact h.2⟩⟩
     ·rw[al ao];refine⟨_,rfl,λt=>?_,λl h=>.inl h,λh k=>.inl (hh.symm.trans k)⟩;rw[le];exact⟨λh=>⟨h,OF.le_trans (h.2 h0 hh) (OF.not_lt.1 ao)⟩,λh=>h.1⟩
   ·rw[al hp];have hn:a<0:=by
     rcases OF.o8 (OF.not_lt.1 hp)with h|h
     ·exact h
     ·exact absurd h gV
    have le:∀ t,a*t<=b↔t0<=t:=λt=>by rw[<-e,<-mul_le_mul_left (a:=t0) (b:=t) (neg_pos.2 hn),OF.le_def,OF.le_def,show -a*t - -a*t0=a*t0-a*t from k6 a t t0 (λa t u=>-a*t - -a*u) (λa t u=>a*u-a*t) d_]
    cases hh:s.lo with
    |none=>
     refine⟨_,rfl,λt=>?_,λl k=>.inr ⟨hn,by injection k with k;rw[<-k];exact e⟩,λh k=>.inl k⟩;rw[le];exact⟨λh=>⟨⟨λx hx=>(by rw[hh]at hx;cases hx),h.2⟩,h.1 t0 rfl⟩,λh=>⟨λx hx=>by injection hx with hx;rw[<-hx];exact h.2,h.1.2⟩⟩
    |some h0=>
     dsimp only;by_cases ao:h0<t0
     ·rw[au ao];refine⟨_,rfl,λt=>?_,λl k=>.inr ⟨hn,by injection k with k;rw[<-k];exact e⟩,λh k=>.inl k⟩;rw[le];exact⟨λh=>⟨⟨λx hx=>by rw[hh]at hx;injection hx with hx;rw[<-hx];exact OF.le_trans (OF.le_of_lt ao) (h.1 t0 rfl),h.2⟩,h.1 t0 rfl⟩,λh=>⟨λx hx=>by injection hx with hx;rw[<-hx];exact h.2,h.1.2⟩⟩
     ·rw[al ao];refine⟨_,rfl,λt=>?_,λl h=>.inl (hh.symm.trans h),λh k=>.inl k⟩;rw[le];exact⟨λh=>⟨h,OF.le_trans (OF.not_lt.1 ao) (h.1 h0 hh)⟩,λh=>h.1⟩
  obtain⟨s1,wB,uF,eG,ik⟩:=key;rw[wB];cases hl:s1.lo with
  |none=>
   refine⟨λs' h=>?_,λh=>by cases h⟩;injection h with h;subst h;exact⟨λ_ l h cZ=>(by rw[hl]at cZ;cases cZ),uF,eG,ik⟩
  |some l=>
   cases hh:s1.hi with
   |none=>
    refine⟨λs' h=>?_,λh=>by cases h⟩;injection h with h;subst h;exact⟨λ_ l h _ Bm=>(by rw[hh]at Bm;cases Bm),uF,eG,ik⟩
   |some h=>
    dsimp only;by_cases ao:l<h
    ·rw[au ao];refine⟨λs' h=>?_,λh=>by cases h⟩;injection h with h;subst h;refine⟨λ_ l' h' cZ Bm=>?_,uF,eG,ik⟩;rw[hl]at cZ;rw[hh]at Bm;injection cZ with cZ;injection Bm with Bm;rw[<-cZ,<-Bm];exact ao
    ·rw[al ao];refine⟨λs' h=>(by cases h),λ_ t1 t2 h1 k1 h2 k2 OD=>ao ?_⟩;have q1:=((uF t1).2 ⟨h1,k1⟩).1 l hl;have q2:=((uF t2).2 ⟨h2,k2⟩).2 h hh;exact OF.lt_of_le_of_lt q1 (OF.lt_of_lt_of_le OD q2)
def Fg:eP F->List (F×F)->Option (eP F)
 |s,[]=>some s
 |s,x::l=>(Bn s x.1 x.2).bind λs'=>Fg s' l
theorem Ur:∀(l:List (F×F)) (s:eP F),s.Open->
  (∀ s',Fg s l=some s'->s'.Open/\(∀ t,s'.Sat t↔s.Sat t/\∀ x∈l,x.1*t<=x.2)/\(∀ t,s'.lo=some t->s.lo=some t\/∃ x∈l,x.1<0/\x.1*t=x.2)/\(∀ t,s'.hi=some t->s.hi=some t\/∃ x∈l,0<x.1/\x.1*t=x.2))/\
  (Fg s l=none->∀ t1 t2,s.Sat t1->(∀ x∈l,x.1*t1<=x.2)->s.Sat t2->(∀ x∈l,x.1*t2<=x.2)->t1<t2->False)
 |[],s,ho=>⟨λs' h=>by injection h with h;subst h;exact⟨ho,λt=>⟨λh=>⟨h,λx hx=>by cases hx⟩,λh=>h.1⟩,λt h=>.inl h,λt h=>.inl h⟩,λh=>by cases h⟩
 |x::l,s,ho=>by
  obtain⟨h1,h2⟩:=aLe s x.1 x.2;unfold Fg;cases hn:Bn s x.1 x.2 with
  |none=>
   refine⟨λs' h=>(by cases h),λ_ t1 t2 a b c d e=>?_⟩;exact h2 hn t1 t2 a (b x (aL ..)) c (d x (aL ..)) e
  |some s1=>
   obtain⟨o1,Us,zg,hi1⟩:=h1 s1 hn;obtain⟨k1,k2⟩:=Ur l s1 (o1 ho);refine⟨λs' h=>?_,λh t1 t2 a b c d e=>?_⟩
   ·obtain⟨o2,aLf,vD,Rz⟩:=k1 s' h;refine⟨o2,λt=>?_,λt ht=>?_,λt ht=>?_⟩
    ·rw[aLf,Us];constructor
     ·rintro⟨⟨p,q⟩,r⟩
      exact⟨p,λy hy=>by
       rcases b9.1 hy with rfl|hy
       ·exact q
       ·exact r y hy⟩
     ·rintro⟨p,q⟩
      exact⟨⟨p,q x (aL ..)⟩,λy hy=>q y (bw _ hy)⟩
    ·rcases vD t ht with h|⟨y,hy,h⟩
     ·rcases zg t h with h|h
      ·exact .inl h
      ·exact .inr ⟨x,aL ..,h⟩
     ·exact .inr ⟨y,bw _ hy,h⟩
    ·rcases Rz t ht with h|⟨y,hy,h⟩
     ·rcases hi1 t h with h|h
      ·exact .inl h
      ·exact .inr ⟨x,aL ..,h⟩
     ·exact .inr ⟨y,bw _ hy,h⟩
   ·exact k2 h t1 t2 ((Us t1).2 ⟨a,b x (aL ..)⟩) (λy hy=>b y (bw _ hy)) ((Us t2).2 ⟨c,d x (aL ..)⟩) (λy hy=>d y (bw _ hy)) e
end
section
variable{F:Type}[OF F]
def l8(p q:HS F):V3 F:=
 let d:=aw p.n q.n
 smul (smul (aw q.n d) p.d+smul (aw d p.n) q.d) (dot d d)⁻¹
theorem aBu{p q:HS F}(h:aw p.n q.n≠0):dS p (l8 p q):=by
 unfold dS l8;dsimp only;have e:dot p.n (smul (aw q.n (aw p.n q.n)) p.d+smul (aw (aw p.n q.n) p.n) q.d)=p.d*dot (aw p.n q.n) (aw p.n q.n):=
  ring [p.n,q.n] [p.d,q.d] (λV S=>dot (V 0) (smul (aw (V 1) (aw (V 0) (V 1))) (S 0)+smul (aw (aw (V 0) (V 1)) (V 0)) (S 1))) (λV S=>S 0*dot (aw (V 0) (V 1)) (aw (V 0) (V 1))) d_
 rw[iT,e,CR.mul_assoc,lI _ (Bi h),CR.mul_one]
theorem aBv{p q:HS F}(h:aw p.n q.n≠0):dS q (l8 p q):=by
 unfold dS l8;dsimp only;have e:dot q.n (smul (aw q.n (aw p.n q.n)) p.d+smul (aw (aw p.n q.n) p.n) q.d)=q.d*dot (aw p.n q.n) (aw p.n q.n):=
  ring [p.n,q.n] [p.d,q.d] (λV S=>dot (V 1) (smul (aw (V 1) (aw (V 0) (V 1))) (S 0)+smul (aw (aw (V 0) (V 1)) (V 0)) (S 1))) (λV S=>S 1*dot (aw (V 0) (V 1)) (aw (V 0) (V 1))) d_
 rw[iT,e,CR.mul_assoc,lI _ (Bi h),CR.mul_one]
def zi(ps:List (HS F))(p q:HS F):Option (V3 F×V3 F):=
 let d:=aw p.n q.n
 if aB d.x=0/\aB d.y=0/\aB d.z=0 then none
 else match Fg ⟨none,none⟩ (ps.map λr=>(dot r.n d,r.d-dot r.n (l8 p q)))with
  |some ⟨some lo,some hi⟩=>some (l8 p q+smul d lo,l8 p q+smul d hi)
  |_=>none
theorem OE(d:V3 F):(aB d.x=0/\aB d.y=0/\aB d.z=0)↔d=0:=by rw[e7,e7,e7];exact⟨λh=>V3.ext h.1 h.2.1 h.2.2,λh=>by subst h;exact⟨rfl,rfl,rfl⟩⟩
theorem OG{ps:List (HS F)}{b d:V3 F}{t:F}:hJ ps (b+smul d t)↔∀ x∈ps.map λr=>(dot r.n d,r.d-dot r.n b),x.1*t<=x.2:=by
 constructor
 ·intro h x hx;obtain⟨r,hr,rfl⟩:=de.1 hx;have:=h r hr;rw[k7,iT]at this;dsimp only;rw[<-add_le_add_left (dot r.n b),show dot r.n b+(r.d-dot r.n b)=r.d from kt (dot r.n b) r.d (λa d=>a+(d-a)) (λ_ d=>d) d_];exact this
 ·intro h r hr;have:=h _ (de.2 ⟨r,hr,rfl⟩);dsimp only at this;rw[<-add_le_add_left (dot r.n b),show dot r.n b+(r.d-dot r.n b)=r.d from kt (dot r.n b) r.d (λa d=>a+(d-a)) (λ_ d=>d) d_]at this;rw[k7,iT];exact this
theorem aBw:(⟨none,none⟩:eP F).Open:=λl h hl _=>by cases hl
theorem Ko(t:F):(⟨none,none⟩:eP F).Sat t:=⟨λl h=>(by cases h),λl h=>(by cases h)⟩
theorem aLg{ps:List (HS F)}{p q:HS F}(hp:p∈ps)(hq:q∈ps){u v:V3 F}(h:zi ps p q=some (u,v)):l5 ps u/\l5 ps v:=by
 unfold zi at h;dsimp only at h;split at h
 ·cases h
 ·rename_i hd;rw[OE]at hd;have tp:=aBu hd;have tq:=aBv hd;generalize l8 p q=b at *;split at h
  ·rename_i lo hi hn;injection h with h;injection h with h1 h2;obtain⟨ho,uF,eG,ik⟩:=(Ur _ _ aBw).1 _ hn;have ao:=ho lo hi rfl rfl
   -- a Kp of the line on a Ou aLh it
   have fin:∀ t:F,lo<=t->t<=hi->(∃ x∈ps.map λr=>(dot r.n (aw p.n q.n),r.d-dot r.n b),x.1≠0/\x.1*t=x.2)->l5 ps (b+smul (aw p.n q.n) t):=by
    rintro t h1 h2 ⟨x,hx,kM,y7⟩
    obtain⟨r,hr,rfl⟩:=de.1 hx;refine⟨?_,p,hp,q,hq,r,hr,?_,?_,?_,?_⟩
    ·rw[OG];exact((uF t).1 ⟨λl hl=>by injection hl with hl;rw[<-hl];exact h1,λl hl=>by injection hl with hl;rw[<-hl];exact h2⟩).2
    ·intro e;rw[<-Oo]at e;exact kM e
    ·unfold dS at *;rw[k7,iT,E8,CR.zero_mul,CR.add_zero,tp]
    ·unfold dS at *;rw[k7,iT,C3,CR.zero_mul,CR.add_zero,tq]
    ·unfold dS;rw[k7,iT];dsimp only at y7;rw[y7];exact kt (dot r.n b) r.d (λa d=>a+(d-a)) (λ_ d=>d) d_
   rw[<-h1,<-h2];constructor
   ·rcases eG lo rfl with k|⟨x,hx,kM,y7⟩
    ·cases k
    ·exact fin lo (OF.le_refl _) (OF.le_of_lt ao) ⟨x,hx,OF.ne_of_lt kM,y7⟩
   ·rcases ik hi rfl with k|⟨x,hx,kM,y7⟩
    ·cases k
    ·exact fin hi (OF.le_of_lt ao) (OF.le_refl _) ⟨x,hx,OF.ne_of_gt kM,y7⟩
  ·cases h
theorem aLi{ps:List (HS F)}(hc:Cl ps)(hp:j6 ps){v x:V3 F}(hv:l5 ps v)(hx:hJ ps x)(bd:x≠v):
  ∃ p∈ps,∃ q∈ps,aw p.n q.n≠0/\(∃ u w,zi ps p q=some (u,w)/\(v=u\/v=w))/\(∃ u w,zi ps q p=some (u,w)/\(v=u\/v=w)):=by
 obtain⟨p,iD,q,AQ,tp,tq,hd,aU⟩:=aKE hp hv hx bd
 -- one order;c=d or c=-d is the direction aUn the Ut
 have one:∀ p q:HS F,p∈ps->q∈ps->dS p v->dS q v->aw p.n q.n≠0->∀ c:V3 F,(c=aw p.n q.n\/c=-aw p.n q.n)->(∀ r∈ps,dS r v->dot r.n c<=0)->
   ∃ u w,zi ps p q=some (u,w)/\(v=u\/v=w):=by
  intro p q iD AQ tp tq hd c Uu aU;have pE:c≠0:=by
   rcases Uu with rfl|rfl
   ·exact hd
   ·exact λe=>hd (neg_eq_zero.1 e)
  have bp:=aBu hd;have bq:=aBv hd
  -- v on the line
  have OH:dot p.n (v-l8 p q)=0/\dot q.n (v-l8 p q)=0:=by unfold dS at *;rw[k8,k8,tp,tq,bp,bq,OF.sub_self,OF.sub_self];exact⟨rfl,rfl⟩
  obtain⟨t0,vE⟩:∃ t0,v=l8 p q+smul (aw p.n q.n) t0:=
   ⟨_,by rw[<-aBb hd OH.1 OH.2,V3.add_sub_cancel]⟩
  -- a aUo Kp of the line
  obtain⟨e,he,⟨r,hr,nS,Fc⟩,cx⟩:=vj hv.1 (hc.bounds hp pE);have aBx:0<e:=by
   rcases OF.o8 he with h|h
   ·exact h
   ·rw[<-h,smul_zero,V3.add_zero]at Fc;exact absurd (OF.lt_of_lt_of_le nS (aU r hr Fc)) (OF.lt_irrefl _)
  -- a Ou at v aLh the line
  have aBy:=hv.1;obtain⟨_,a1,dY,a2,fX,a3,A7,aLj,t1,t2,t3⟩:=hv;obtain⟨s,hs,ts,Uv⟩:∃ s∈ps,dS s v/\dot s.n c<0:=by
   apply jo;intro fJ;have z:∀ a∈ps,dS a v->dot a.n c=0:=λa ha ta=>by
    rcases OF.o8 (aU a ha ta)with h|h
    ·exact(fJ ⟨a,ha,ta,h⟩).elim
    ·exact h
   exact pE (HD aLj (z a1 dY t1) (z a2 fX t2) (z a3 A7 t3))
  have Fb:∀ t:F,v+smul (aw p.n q.n) t=l8 p q+smul (aw p.n q.n) (t0+t):=λt=>by rw[vE];exact mO [l8 p q,aw p.n q.n] [t0,t] (λV S=>V 0+smul (V 1) (S 0)+smul (V 1) (S 1)) (λV S=>V 0+smul (V 1) (S 0+S 1)) d_
  have aBz:∀ t:F,hJ ps (v+smul (aw p.n q.n) t)->∀ x∈ps.map λr=>(dot r.n (aw p.n q.n),r.d-dot r.n (l8 p q)),x.1*(t0+t)<=x.2:=λt h=>by rw[Fb]at h;exact OG.1 h
  have f0:=aBz 0 (by rw[smul_zero,V3.add_zero];exact aBy);rw[CR.add_zero]at f0
  -- the other Kp
  have f1:∃ t1:F,t1≠0/\hJ ps (v+smul (aw p.n q.n) t1):=by
   rcases Uu with rfl|rfl
   ·exact⟨e,OF.ne_of_gt aBx,cx⟩
   ·refine⟨-e,OF.ne_of_lt (JS.2 aBx),?_⟩;rw[show smul (aw p.n q.n) (-e)=smul (-aw p.n q.n) e from mO [aw p.n q.n] [e] (λV S=>smul (V 0) (-S 0)) (λV S=>smul (-V 0) (S 0)) d_];exact cx
  obtain⟨t1,iE,f1⟩:=f1;have f1:=aBz t1 f1;unfold zi;dsimp only;rw[al (by rw[OE];exact hd)];obtain⟨n1,n2⟩:=Ur (ps.map λr=>(dot r.n (aw p.n q.n),r.d-dot r.n (l8 p q))) ⟨none,none⟩ aBw;cases hN:Fg ⟨none,none⟩ (ps.map λr=>(dot r.n (aw p.n q.n),r.d-dot r.n (l8 p q)))with
  |none=>
   exfalso;rcases OF.lt_trichotomy 0 t1 with h|h|h
   ·exact n2 hN t0 (t0+t1) (Ko _) f0 (Ko _) f1 (by have:=(add_lt_add_left t0).2 h;rwa[CR.add_zero]at this)
   ·exact iE h.symm
   ·exact n2 hN (t0+t1) t0 (Ko _) f1 (Ko _) f0 (by have:=(add_lt_add_left t0).2 h;rwa[CR.add_zero]at this)
  |some sg=>
   obtain⟨ho,uF,_,_⟩:=n1 sg hN;have s0:=(uF t0).2 ⟨Ko _,f0⟩
   -- beyond a Ou
   have beyond:∀ c:V3 F,c≠0->∃ t:F,0<=t/\¬hJ ps (v+smul c t):=by intro c pE;obtain⟨t,ht,⟨r,hr,nS,Fc⟩,_⟩:=vj aBy (hc.bounds hp pE);refine⟨t+1,add_nonneg ht (OF.le_of_lt OF.zero_lt_one),λh=>?_⟩;have h1:=h r hr;rw[show v+smul c (t+1)=v+smul c t+c from mO [v,c] [t] (λV S=>V 0+smul (V 1) (S 0+1)) (λV S=>V 0+smul (V 1) (S 0)+V 1) d_,k7,show dot r.n (v+smul c t)=r.d from Fc]at h1;have:=(add_lt_add_left r.d).2 nS;rw[CR.add_zero]at this;exact OF.lt_irrefl _ (OF.lt_of_lt_of_le this h1)
   obtain⟨lo,hi⟩:=sg;have ik:∃ h,hi=some h:=by
    cases hi with
    |some h=>exact⟨h,rfl⟩
    |none=>
     exfalso;obtain⟨t,ht,fJ⟩:=beyond _ hd;apply fJ;rw[Fb,OG];refine((uF (t0+t)).1 ⟨λl hl=>?_,λh hh=>(by cases hh)⟩).2;refine OF.le_trans (s0.1 l hl) ?_;have:=(add_le_add_left t0).2 ht;rwa[CR.add_zero]at this
   have eG:∃ l,lo=some l:=by
    cases lo with
    |some h=>exact⟨h,rfl⟩
    |none=>
     exfalso;obtain⟨t,ht,fJ⟩:=beyond (-aw p.n q.n) (λe=>hd (neg_eq_zero.1 e));apply fJ;rw[show smul (-aw p.n q.n) t=smul (aw p.n q.n) (-t)from mO [aw p.n q.n] [t] (λV S=>smul (-V 0) (S 0)) (λV S=>smul (V 0) (-S 0)) d_,Fb,OG];refine((uF (t0+-t)).1 ⟨λh hh=>(by cases hh),λl hl=>?_⟩).2;refine OF.le_trans ?_ (s0.2 l hl);have:=(add_le_add_left t0).2 (JT.2 ht);rwa[CR.add_zero]at this
   obtain⟨hi,rfl⟩:=ik;obtain⟨lo,rfl⟩:=eG;have ao:=ho lo hi rfl rfl;have l0:=s0.1 lo rfl;have h0:=s0.2 hi rfl;refine⟨_,_,rfl,?_⟩
   -- the value of s on the line
   have aBA:∀ t:F,(∀ x∈ps.map λr=>(dot r.n (aw p.n q.n),r.d-dot r.n (l8 p q)),x.1*t<=x.2)->dot s.n (aw p.n q.n)*t<=dot s.n (aw p.n q.n)*t0:=by
    intro t h;have h1:=h _ (de.2 ⟨s,hs,rfl⟩);dsimp only at h1;have h2:dot s.n (aw p.n q.n)*t0=s.d-dot s.n (l8 p q):=by have:dot s.n v=s.d:=ts;rw[vE,k7,iT]at this;rw[<-this];exact kt (dot s.n (l8 p q)) (dot s.n (aw p.n q.n)*t0) (λ_ b=>b) (λa b=>a+b-a) d_
    rw[h2];exact h1
   rcases Uu with rfl|rfl
   ·left;have k:=aBA lo ((uF lo).1 ⟨λl hl=>(by injection hl with hl;rw[hl];exact OF.le_refl _),λh hh=>(by injection hh with hh;rw[<-hh];exact OF.le_of_lt ao)⟩).2;have k2:t0<=lo:=by
     rw[<-mul_le_mul_left (neg_pos.2 Uv),CR.neg_mul,CR.neg_mul,OF.le_def,show -(dot s.n (aw p.n q.n)*lo) - -(dot s.n (aw p.n q.n)*t0)=dot s.n (aw p.n q.n)*t0-dot s.n (aw p.n q.n)*lo from
       kt (dot s.n (aw p.n q.n)*lo) (dot s.n (aw p.n q.n)*t0) (λa b=>-a - -b) (λa b=>b-a) d_]
     exact k
    rw[OF.le_antisymm l0 k2];exact vE
   ·right;rw[tx,JS]at Uv;have k:=aBA hi ((uF hi).1 ⟨λl hl=>(by injection hl with hl;rw[<-hl];exact OF.le_of_lt ao),λh hh=>(by injection hh with hh;rw[hh];exact OF.le_refl _)⟩).2;rw[mul_le_mul_left Uv]at k;rw[OF.le_antisymm k h0];exact vE
 refine⟨p,iD,q,AQ,hd,one p q iD AQ tp tq hd _ (.inl rfl) aU,one q p AQ iD tq tp (λe=>hd (by rw[HC,e,V3.neg_zero])) _ (.inr ?_) aU⟩;rw[<-HC]
def Bo(ps:List (HS F))(x:V3 F):Prop:=∀ p∈ps,dot p.n x<p.d
def qb(ps:List (HS F)):Prop:=∃ x,Bo ps x
theorem Bo.inside{ps:List (HS F)}{x:V3 F}(h:Bo ps x):hJ ps x:=λp hp=>OF.le_of_lt (h p hp)
def aBB(l:List (V3 F)):V3 F:=l.foldl (λs v=>s+v) 0
theorem aBC(m:V3 F):∀(l:List (V3 F)) (s:V3 F),dot m (l.foldl (λs v=>s+v) s)=l.foldl (λ(a:F) v=>a+dot m v) (dot m s)
 |[],_=>rfl
 |v::l,s=>by rw[vi,aBC,vi,k7]
theorem OI(f:V3 F->F):∀(l:List (V3 F)) (a:F),l.foldl (λ(a:F) v=>a+f v) a=a+l.foldl (λ(a:F) v=>a+f v) 0
 |[],a=>by rw[aBD,aBD,CR.add_zero]
 |v::l,a=>by rw[vi,vi,OI f l (a+f v),OI f l (0+f v),CR.zero_add,CR.add_assoc]
theorem aBE{f:V3 F->F}{d:F}:∀{l:List (V3 F)},(∀ v∈l,f v<=d)->l.foldl (λ(a:F) v=>a+f v) 0<=CR.ofNat l.length*d
 |[],_=>by rw[aBD,List.length_nil,CR.ofNat,CR.zero_mul];exact OF.le_refl _
 |v::l,h=>by rw[vi,OI,CR.zero_add,nL,CR.ofNat,CR.add_mul,CR.one_mul,CR.add_comm];exact OF.add_le_add (aBE λv hv=>h v (bw _ hv)) (h v (aL ..))
theorem aBF{f:V3 F->F}{d:F}:∀{l:List (V3 F)},(∀ v∈l,f v<=d)->(∃ v∈l,f v<d)->l.foldl (λ(a:F) v=>a+f v) 0<CR.ofNat l.length*d
 |[],_,h=>by obtain⟨v,hv,_⟩:=h;cases hv
 |v::l,h,k=>by
  rw[vi,OI,CR.zero_add,nL,CR.ofNat,CR.add_mul,CR.one_mul,CR.add_comm];have hl:∀ v∈l,f v<=d:=λv hv=>h v (bw _ hv);obtain⟨x,hx,xe⟩:=k;rcases b9.1 hx with rfl|hx
  ·exact add_lt_add_of_le_of_lt (aBE hl) xe
  ·exact add_lt_add_of_lt_of_le (aBF hl ⟨x,hx,xe⟩) (h v (aL ..))
theorem Uw:∀{n:Nat},0<n->(0:F)<CR.ofNat n
 |n+1,_=>by
  rw[CR.ofNat];rcases nq n with rfl|h
  ·rw[CR.ofNat,CR.zero_add];exact OF.zero_lt_one
  ·exact add_pos (Uw h) OF.zero_lt_one
def C6(l:List (V3 F)):V3 F:=smul (aBB l) (CR.ofNat l.length)⁻¹
theorem aLk(m:V3 F)(l:List (V3 F)):dot m (C6 l)=l.foldl (λ(a:F) v=>a+dot m v) 0*(CR.ofNat l.length)⁻¹:=by unfold C6 aBB;rw[iT,aBC,C2]
theorem aBG{m:V3 F}{d:F}{l:List (V3 F)}(h:∀ v∈l,dot m v<=d)(k:∃ v∈l,dot m v<d):dot m (C6 l)<d:=by
 have hl:0<l.length:=by
  obtain⟨v,hv,_⟩:=k;cases l with
  |nil=>cases hv
  |cons a l=>exact SD _
 have hp:=Uw (F:=F) hl;rw[aLk,<-mul_lt_mul_left hp,CR.mul_left_comm,lI _ (OF.ne_of_gt hp),CR.mul_one];exact aBF h k
theorem aBH{ps:List (HS F)}(hc:Cl ps)(hp:j6 ps){l:List (V3 F)}(hl:∀ v,v∈l↔l5 ps v)(hf:qb ps):l≠[]/\Bo ps (C6 l):=by
 obtain⟨x,hx⟩:=hf;have xo:∀ p∈ps,∃ v∈l,dot p.n v<p.d:=by intro p iJ;obtain⟨v,hv,hm⟩:=top hc hp (m:=-p.n) hx.inside;refine⟨v,(hl v).2 hv,?_⟩;rw[Bh,Bh,OF.le_def,show -dot p.n v - -dot p.n x=dot p.n x-dot p.n v from kt (dot p.n v) (dot p.n x) (λa b=>-a - -b) (λa b=>b-a) d_]at hm;exact OF.lt_of_le_of_lt hm (hx p iJ)
 obtain⟨⟨p,iJ,_⟩,_⟩:=hc;refine⟨λe=>?_,λp iJ=>aBG (λv hv=>((hl v).1 hv).1 p iJ) (xo p iJ)⟩;obtain⟨v,hv,_⟩:=xo p iJ;rw[e]at hv;cases hv
theorem aLl{ps:List (HS F)}(hc:Cl ps)(hp:j6 ps)(hf:qb ps)(v:V3 F):∃ x,hJ ps x/\x≠v:=by
 obtain⟨x,hx⟩:=hf;by_cases h:x=v
 ·obtain⟨p,iJ,_⟩:=hc.1;have js:=hp p iJ;obtain⟨w,hw,hm⟩:=top hc hp (m:=p.n) hx.inside;by_cases hwx:w=x
  ·-- then every aUp is x,which is on a Ou
   obtain⟨_,q,hq,_,_,_,_,_,tq,_⟩:=hw;have:=hx q hq;rw[hwx]at tq;rw[show dot q.n x=q.d from tq]at this;exact absurd this (OF.lt_irrefl _)
  ·exact⟨w,hw.1,λe=>hwx (e.trans h.symm)⟩
 ·exact⟨x,hx.inside,h⟩
end
section
variable{F:Type}[OF F]
def OJ(l:List (V3 F)):Prop:=∃ o rest,l=o::rest/\∃ a∈rest,∃ b∈rest,∃ c∈rest,cI (a-o) (b-o) (c-o)≠0
theorem aLm{ps:List (HS F)}(hp:j6 ps){l:List (V3 F)}(hl:∀ v∈l,hJ ps v)(h:OJ l):qb ps:=by
 obtain⟨o,rest,rfl,a,ha,b,hb,c,hc,hd⟩:=h;have io:=hl o (aL ..);have ia:=hl a (bw _ ha);have ib:=hl b (bw _ hb);have ic:=hl c (bw _ hc);refine⟨C6 [o,a,b,c],λp iJ=>aBG (λv hv=>?_) ?_⟩
 ·simp only[b9,fv,fA]at hv;rcases hv with rfl|rfl|rfl|rfl
  ·exact io p iJ
  ·exact ia p iJ
  ·exact ib p iJ
  ·exact ic p iJ
 ·apply jo;intro fJ;have tight:∀ v∈[o,a,b,c],dot p.n v=p.d:=by
   intro v hv;have cx:dot p.n v<=p.d:=by
    simp only[b9,fv,fA]at hv;rcases hv with rfl|rfl|rfl|rfl
    ·exact io p iJ
    ·exact ia p iJ
    ·exact ib p iJ
    ·exact ic p iJ
   rcases OF.o8 cx with h|h
   ·exact(fJ ⟨v,hv,h⟩).elim
   ·exact h
  have to:=tight o s_;have z:∀ v∈[o,a,b,c],dot (v-o) p.n=0:=λv hv=>by rw[y0,k8,tight v hv,to,OF.sub_self]
  exact hp p iJ (HD hd (z a s_) (z b s_) (z c s_))
theorem aLn{ps:List (HS F)}(hc:Cl ps)(hp:j6 ps){l:List (V3 F)}(hl:∀ v,v∈l↔l5 ps v)(hf:qb ps):OJ l:=by
 have bd:=(aBH hc hp hl hf).1;cases l with
 |nil=>exact absurd rfl bd
 |cons o rest=>
  apply jo;intro fJ;have hz:∀ a∈rest,∀ b∈rest,∀ c∈rest,cI (a-o) (b-o) (c-o)=0:=by intro a ha b hb c hc;apply jo;intro h;exact fJ ⟨o,rest,rfl,a,ha,b,hb,c,hc,h⟩
  -- a direction that all points have in Mh
  obtain⟨m,hm,OH⟩:∃ m:V3 F,m≠0/\∀ v∈rest,dot m (v-o)=0:=by
   by_cases h2:∃ a∈rest,∃ b∈rest,aw (a-o) (b-o)≠0
   ·obtain⟨a,ha,b,hb,h⟩:=h2;refine⟨_,h,λv hv=>?_⟩;rw[y0];exact hz v hv a ha b hb
   ·have yS:∀ a∈rest,∀ b∈rest,aw (a-o) (b-o)=0:=λa ha b hb=>jo λh=>h2 ⟨a,ha,b,hb,h⟩;by_cases h1:∃ a∈rest,a-o≠0
    ·obtain⟨a,ha,h⟩:=h1;obtain⟨u,hu,OL⟩:=Kj h;exact⟨u,hu,λv hv=>by rw[y0];exact Ot h (yS a ha v hv) OL⟩
    ·obtain⟨p,iJ,_⟩:=hc.1;exact⟨p.n,hp p iJ,λv hv=>by rw[jo (λh=>h1 ⟨v,hv,h⟩:¬¬(v-o=0)),C2]⟩
  have heq:∀ v,l5 ps v->dot m v=dot m o:=by
   intro v hv;rcases b9.1 ((hl v).2 hv)with rfl|h
   ·rfl
   ·have:=OH v h;rw[k8]at this;exact OF.sub_eq_zero.1 this
  -- so every Kp inside has the same product
  have all:∀ y,hJ ps y->dot m y=dot m o:=by intro y hy;obtain⟨v,hv,h1⟩:=top hc hp (m:=m) hy;obtain⟨w,hw,h2⟩:=top hc hp (m:=-m) hy;rw[heq v hv]at h1;rw[Bh,Bh,heq w hw,OF.le_def,show -dot m o - -dot m y=dot m y-dot m o from kt (dot m o) (dot m y) (λa b=>-a - -b) (λa b=>b-a) d_]at h2;exact OF.le_antisymm h1 h2
  obtain⟨x,hx⟩:=hf;obtain⟨t,ht,⟨q,hq,_,vB⟩,cx⟩:=vj hx.inside (hc.bounds hp hm);have vE:t≠0:=by
   rintro rfl
   rw[smul_zero,V3.add_zero]at vB;have:=hx q hq;rw[show dot q.n x=q.d from vB]at this;exact OF.lt_irrefl _ this
  have h1:=all _ cx;rw[k7,iT,all x hx.inside]at h1;have:dot m m*t=0:=CR.add_left_cancel (a:=dot m o) (by rw[h1,CR.add_zero]);exact mul_ne_zero (Bi hm) vE this
theorem Cl.more{ps qs:List (HS F)}(hc:Cl ps)(hp:j6 ps)(h:∀ p∈ps,p∈qs):Cl qs:=by obtain⟨p,iJ,q,k9,hd⟩:=hc.1;refine⟨⟨p,h p iJ,q,h q k9,hd⟩,λa _ b _ bW=>?_⟩;obtain⟨r,hr,nS⟩:=hc.bounds hp bW;exact⟨r,h r hr,nS⟩
end
end
variable{k:Nat}{p:HS K}{x:m_}{ps:List (HS K)}{y:Int}
section
open CR OF
section
variable{F:Type}[OF F]
def dW(u v:V3 F):Int:=
 if aB (u.x-v.x)≠0 then aB (u.x-v.x)else if aB (u.y-v.y)≠0 then aB (u.y-v.y)else aB (u.z-v.z)
theorem aLo(u v:V3 F):(u-v).x=u.x-v.x:=rfl
theorem aLp(u v:V3 F):(u-v).y=u.y-v.y:=rfl
theorem aLq(u v:V3 F):(u-v).z=u.z-v.z:=rfl
theorem aBI{u v:V3 F}:dW u v=1↔zf (u-v):=by
 unfold dW zf;rw[aLo,aLp,aLq,iz,iz,iz];have e:∀ a:F,a=0↔aB a=0:=λa=>(e7 a).symm;rw[e (u.x-v.x),e (u.y-v.y)];rcases iH (u.x-v.x)with h|h|h<;>rw[h]<;>simp
 rcases iH (u.y-v.y)with h|h|h<;>rw[h]<;>simp
theorem aBJ(u v:V3 F):dW v u=- dW u v:=by
 unfold dW;rw[ES v.x u.x,ES v.y u.y,ES v.z u.z];rcases iH (u.x-v.x)with h|h|h<;>rw[h]<;>simp
 rcases iH (u.y-v.y)with h|h|h<;>rw[h]<;>simp
theorem Kq{u v:V3 F}:dW u v=-1↔zf (v-u):=by rw[<-aBI,aBJ u v];omega
theorem Kr{u v:V3 F}:dW u v=0↔u=v:=by
 constructor
 ·intro h;apply jo;intro bd;rcases aLc bd with k|k
  ·rw[Kq.2 k]at h;cases h
  ·rw[aBI.2 k]at h;cases h
 ·rintro rfl
  unfold dW;rw[OF.sub_self,OF.sub_self,OF.sub_self,(e7 (0:F)).2 rfl];simp
theorem HF(u v:V3 F):dW u v=-1\/dW u v=0\/dW u v=1:=by
 unfold dW;split
 ·exact iH _
 ·split
  ·exact iH _
  ·exact iH _
def jH(u v:V3 F):Prop:=dW u v=-1
theorem Ks{u v w:V3 F}(h:jH u v)(k:jH v w):jH u w:=by have h:=Kq.1 h;have k:=Kq.1 k;exact Kq.2 (iK.aBf (H:=aBt) h k)
theorem C7(u:V3 F):¬jH u u:=λh=>by have:dW u u=0:=Kr.2 rfl;rw[show dW u u=-1 from h]at this;cases this
theorem OM{u v:V3 F}(h:jH u v)(k:jH v u):False:=C7 u (Ks h k)
theorem Ku{u v:V3 F}(h:dW u v=1):jH v u:=by unfold jH;rw[aBJ u v,h]
def mf(v:V3 F):List (V3 F)->List (V3 F)
 |[]=>[v]
 |a::l=>if dW a v=0 then a::l else if dW a v=1 then v::a::l else a::mf v l
theorem ON{v x:V3 F}:∀{l:List (V3 F)},x∈mf v l↔x=v\/x∈l
 |[]=>by simp[mf]
 |a::l=>by
  unfold mf;split
  ·rename_i h;have e:=Kr.1 h;subst e;simp
  ·split
   ·simp
   ·rw[b9,ON,b9];constructor
    ·rintro(h|h|h)
     ·exact .inr (.inl h)
     ·exact .inl h
     ·exact .inr (.inr h)
    ·rintro(h|h|h)
     ·exact .inr (.inl h)
     ·exact .inl h
     ·exact .inr (.inr h)
theorem Ux{v:V3 F}:∀{l:List (V3 F)},l.Pairwise jH->(mf v l).Pairwise jH
 |[],_=>aBq ..
 |a::l,h=>by
  unfold mf;have h':=sj.1 h;split
  ·exact h
  ·rename_i h0;split
   ·rename_i h1;refine sj.2 ⟨λb hb=>?_,h⟩;rcases b9.1 hb with rfl|hb
    ·exact Ku h1
    ·exact Ks (Ku h1) (h'.1 b hb)
   ·rename_i h1;refine sj.2 ⟨λb hb=>?_,Ux h'.2⟩;rcases ON.1 hb with rfl|hb
    ·rcases HF a b with k|k|k
     ·exact k
     ·exact absurd k h0
     ·exact absurd k h1
    ·exact h'.1 b hb
theorem Uy:∀{l m:List (V3 F)},l.Pairwise jH->m.Pairwise jH->(∀ x,x∈l↔x∈m)->l=m
 |[],[],_,_,_=>rfl
 |[],b::m,_,_,h=>by have:=(h b).2 (aL ..);cases this
 |a::l,[],_,_,h=>by have:=(h a).1 (aL ..);cases this
 |a::l,b::m,hl,hm,h=>by
  have cZ:=sj.1 hl;have bo:=sj.1 hm;have e:a=b:=by
   rcases b9.1 ((h a).1 (aL ..))with e|ha
   ·exact e
   ·rcases b9.1 ((h b).2 (aL ..))with e|hb
    ·exact e.symm
    ·exact(OM (cZ.1 b hb) (bo.1 a ha)).elim
  subst e
  congr 1
  refine Uy cZ.2 bo.2 λx=>⟨λhx=>?_,λhx=>?_⟩
  ·rcases b9.1 ((h x).1 (bw _ hx))with rfl|th
   ·exact(C7 _ (cZ.1 _ hx)).elim
   ·exact th
  ·rcases b9.1 ((h x).2 (bw _ hx))with rfl|th
   ·exact(C7 _ (bo.1 _ hx)).elim
   ·exact th
def Kv(l:List (V3 F)):List (V3 F):=l.foldl (λs v=>mf v s) []
theorem aBK{x:V3 F}:∀(l s:List (V3 F)),x∈l.foldl (λs v=>mf v s) s↔x∈l\/x∈s
 |[],s=>by simp
 |v::l,s=>by
  rw[vi,aBK l,ON,b9];constructor
  ·rintro(h|h|h)
   ·exact .inl (.inr h)
   ·exact .inl (.inl h)
   ·exact .inr h
  ·rintro((h|h)|h)
   ·exact .inr (.inl h)
   ·exact .inl h
   ·exact .inr (.inr h)
theorem aBL:∀(l s:List (V3 F)),s.Pairwise jH->(l.foldl (λs v=>mf v s) s).Pairwise jH
 |[],_,h=>h
 |v::l,s,h=>by rw[vi];exact aBL l _ (Ux h)
theorem Uz{x:V3 F}{l:List (V3 F)}:x∈Kv l↔x∈l:=by unfold Kv;rw[aBK];simp
theorem UA(l:List (V3 F)):(Kv l).Pairwise jH:=aBL l [] aBM
end
end
section
open V3 (dot aw cI smul)
def cJ(v:V3 K):RV:=⟨dR v.x,dR v.y,dR v.z⟩
def bN(v:V3 K):Value:=(cJ v).v
theorem OO{u v:V3 K}(h:cJ u=cJ v):u=v:=by cases u;cases v;have h1:=J0 (ch RV.x h);have h2:=J0 (ch RV.y h);have h3:=J0 (ch RV.z h);dsimp only[cJ]at h1 h2 h3;rw[h1,h2,h3]
def aG(n:Nat)(v:V3 K):Prop:=Sz n v.x/\Sz n v.y/\Sz n v.z
theorem aG.mono{n:Nat}(h:m<=n){v:V3 K}(hv:aG m v):aG n v:=⟨hv.1.mono h,hv.2.1.mono h,hv.2.2.mono h⟩
theorem aG.sm{n:Nat}{v:V3 K}(h:aG n v)(hn:n<=aA):(cJ v).Sm:=⟨CS h.1 hn,CS h.2.1 hn,CS h.2.2 hn⟩
theorem aG.add{n:Nat}{u v:V3 K}(hu:aG m u)(hv:aG n v):aG (m+n+1) (u+v):=⟨hu.1.add hv.1,hu.2.1.add hv.2.1,hu.2.2.add hv.2.2⟩
theorem aG.sub{n:Nat}{u v:V3 K}(hu:aG m u)(hv:aG n v):aG (m+n+1) (u-v):=⟨hu.1.sub hv.1,hu.2.1.sub hv.2.1,hu.2.2.sub hv.2.2⟩
theorem aG.neg{n:Nat}{v:V3 K}(hv:aG n v):aG n (-v):=⟨hv.1.neg,hv.2.1.neg,hv.2.2.neg⟩
theorem aG.smul{m n:Nat}{v:V3 K}{k:K}(hv:aG m v)(hk:Sz n k):aG (m+n+4) (smul v k):=⟨hv.1.mul hk,hv.2.1.mul hk,hv.2.2.mul hk⟩
theorem aG.dot{m n:Nat}{u v:V3 K}(hu:aG m u)(hv:aG n v):Sz (3*(m+n)+14) (dot u v):=((hu.1.mul hv.1).add (hu.2.1.mul hv.2.1)).add (hu.2.2.mul hv.2.2) |>.mono o_
theorem aG.aw{m n:Nat}{u v:V3 K}(hu:aG m u)(hv:aG n v):aG (2*(m+n)+9) (aw u v):=
 ⟨((hu.2.1.mul hv.2.2).sub (hu.2.2.mul hv.2.1)).mono o_,((hu.2.2.mul hv.1).sub (hu.1.mul hv.2.2)).mono o_,((hu.1.mul hv.2.1).sub (hu.2.1.mul hv.1)).mono o_⟩
theorem jt{v:V3 K}{n:Nat}(h:aG n v)(hn:n<=aA):aD prog 70 [bN v] b_:=HB (r:=cJ v) (kK h.1 hn) (kK h.2.1 hn) (kK h.2.2 hn)
theorem xx{a b c:Int}(ha:a.natAbs<9223372036854775808)(hb:b.natAbs<9223372036854775808)(hc:c.natAbs<9223372036854775808):aD prog 59 [.int .i64 a,.int .i64 b,.int .i64 c] (bN ⟨kI a,kI b,kI c⟩):=
 aZ func59 (λ_=>[(tw ha).at 8,(tw hb).at 10,(tw hc).at 12])
def UB(f:FuncId):Value:=.agg #[.func (.func f) #[] #[]]
theorem aLr{u v:RV}{z:RV}(hu:aD prog 70 [u.v] b_)(hv:aD prog 70 [v.v] b_)
  (hx:aD prog 140 [u.x.v,v.x.v] z.x.v) (hy:aD prog 140 [u.y.v,v.y.v] z.y.v) (hz:aD prog 140 [u.z.v,v.z.v] z.z.v):aD prog 141 [UB 140,u.v,v.v] z.v:=
 aZ func141 (λ_=>[hu.at 8,hv.at 12,hx.at 22,hy.at 29,hz.at 36])
theorem aLs{u v:RV}{z:RV}(hu:aD prog 70 [u.v] b_)(hv:aD prog 70 [v.v] b_)
  (hx:aD prog 174 [u.x.v,v.x.v] z.x.v) (hy:aD prog 174 [u.y.v,v.y.v] z.y.v) (hz:aD prog 174 [u.z.v,v.z.v] z.z.v):aD prog 141 [UB 174,u.v,v.v] z.v:=
 aZ func141 (λ_=>[hu.at 8,hv.at 12,hx.at 22,hy.at 29,hz.at 36])
theorem aBN{u v:RV}{z:RV}(hu:aD prog 70 [u.v] b_)(hv:aD prog 70 [v.v] b_)
  (hx:aD prog 143 [u.x.v,v.x.v] z.x.v) (hy:aD prog 143 [u.y.v,v.y.v] z.y.v) (hz:aD prog 143 [u.z.v,v.z.v] z.z.v):aD prog 141 [UB 143,u.v,v.v] z.v:=
 aZ func141 (λ_=>[hu.at 8,hv.at 12,hx.at 22,hy.at 29,hz.at 36])
theorem Fh{u v:V3 K}{n:Nat}(hu:aG m u)(hv:aG n v)(cU:m+n<aA):aD prog 92 [bN u,bN v] (bN (u+v)):=
 aZ func92 (λ_=>[(aLr (u:=cJ u) (v:=cJ v) (z:=cJ (u+v)) (jt hu o_) (jt hv o_) (uu hu.1 hv.1 cU) (uu hu.2.1 hv.2.1 cU) (uu hu.2.2 hv.2.2 cU)).at 8])
theorem Bp{u v:V3 K}{n:Nat}(hu:aG m u)(hv:aG n v)(cU:m+n<aA):aD prog 134 [bN u,bN v] (bN (u-v)):=
 aZ func134 (λ_=>[(aLs (u:=cJ u) (v:=cJ v) (z:=cJ (u-v)) (jt hu o_) (jt hv o_) (A3 hu.1 hv.1 cU) (A3 hu.2.1 hv.2.1 cU) (A3 hu.2.2 hv.2.2 cU)).at 8])
instance:DecidableEq (V3 K):=λu v=>decidable_of_iff (u.x=v.x/\u.y=v.y/\u.z=v.z) ⟨λh=>V3.ext h.1 h.2.1 h.2.2,λh=>by subst h;exact⟨rfl,rfl,rfl⟩⟩
theorem Kw:aG 1 (⟨kI 0,kI 0,kI 0⟩:V3 K):=⟨qP d_ d_,qP d_ d_,qP d_ d_⟩
theorem HG{v:V3 K}{n:Nat}(hv:aG n v)(hn:n+1<aA):aD prog 87 [bN v] (bN (-v)):=by
 have e:(⟨kI 0,kI 0,kI 0⟩:V3 K)-v=-v:=by cases v;show(⟨kI 0-_,kI 0-_,kI 0-_⟩:V3 K)=⟨-_,-_,-_⟩;rw[aJ0];congr 1<;>(rw[CR.sub_def];exact CR.zero_add _)
 have h:=Bp Kw hv o_;rw[e]at h;exact aZ func87 (λ_=>[(xx (a:=0) (b:=0) (c:=0) d_ d_ d_).at 3,h.at 5])
theorem vF{v:V3 K}{k:K}{n:Nat}(hv:aG m v)(hk:Sz n k)(cU:m+n+8<=aA):aD prog 94 [bN v,cd k] (bN (smul v k)):=
 aZ func94 (λ_=>[(aBN (u:=cJ v) (v:=⟨dR k,dR k,dR k⟩) (z:=cJ (smul v k)) (jt hv o_) (jt (v:=⟨k,k,k⟩) ⟨hk,hk,hk⟩ o_) (oG hv.1 hk cU) (oG hv.2.1 hk cU) (oG hv.2.2 hk cU)).at 11])
theorem uG{u v:V3 K}{n:Nat}(hu:aG m u)(hv:aG n v)(cU:3*(m+n)+16<aA):aD prog 118 [bN u,bN v] (cd (dot u v)):=
 aZ func118 (λ_=>[(aBN (u:=cJ u) (v:=cJ v) (z:=⟨dR (u.x*v.x),dR (u.y*v.y),dR (u.z*v.z)⟩) (jt hu o_) (jt hv o_) (oG hu.1 hv.1 o_) (oG hu.2.1 hv.2.1 o_) (oG hu.2.2 hv.2.2 o_)).at 9,(uu (hu.1.mul hv.1) (hu.2.1.mul hv.2.1) o_).at 14,(uu ((hu.1.mul hv.1).add (hu.2.1.mul hv.2.1)) (hu.2.2.mul hv.2.2) o_).at 17])
theorem Fi{a b c d:K}{n:Nat}(ha:Sz m a)(hb:Sz m b)(hc:Sz n c)(hd:Sz n d)(cU:2*(m+n)+16<aA):aD prog 131 [cd a,cd b,cd c,cd d] (cd (a*d-b*c)):=
 aZ func131 (λ_=>[(oG ha hd o_).at 11,(oG hb hc o_).at 14,(A3 (ha.mul hd) (hb.mul hc) o_).at 15])
theorem vG{u v:V3 K}{n:Nat}(hu:aG m u)(hv:aG n v)(cU:2*(m+n)+16<aA):aD prog 85 [bN u,bN v] (bN (aw u v)):=
 aZ func85 (λ_=>[(jt hu o_).at 6,(jt hv o_).at 10,(Fi hu.2.1 hu.2.2 hv.2.1 hv.2.2 cU).at 22,(Fi hu.2.2 hu.1 hv.2.2 hv.1 cU).at 31,(Fi hu.1 hu.2.1 hv.1 hv.2.1 cU).at 40])
theorem Bq{v:V3 K}{n:Nat}(hv:aG n v)(hn:n<=aA):aD prog 83 [bN v] (.bool (decide (v=0))):=by have hz:(⟨kI 0,kI 0,kI 0⟩:V3 K)=0:=rfl;exact aZ func83 (λ_=>[(xx (a:=0) (b:=0) (c:=0) d_ d_ d_).at 4,.step 5 (ay f83 5) _ _ _ _ (EZ (neg:=true) k_ (cJ v) (cJ ⟨kI 0,kI 0,kI 0⟩) (hv.sm hn) (Kw.sm d_) (b:=decide (v=0)) (by rw[au rfl,qU];exact⟨λh=>by rw[h,hz],λh=>OO h⟩))])
def OP:Int->Int->Int->Int:=λa b c=>if a≠0 then a else if b≠0 then b else c
theorem xy{v:i_}(hf:prog.funcs[f]?=some fn)(N:Nat)(rs:∀ w,bH prog (ae.at w) N)(hN:N=(eM 0 l).length+(fn.ntmps-(eM 0 l).length):=by kernel_rfl)(hl:(l.all aK.ok)=true:=by kernel_rfl)(h:∀ w,ou (gD (P:=prog) fn 100 (eM 0 l) (jr 0 l) (jG 0 l) (rs w)) []=ow (gD fn 100 (eM 0 l) (jr 0 l) (jG 0 l) (rs w)) v []:=by intro _;kernel_rfl)(hv:flat v=true:=by kernel_rfl):cg prog f l v:=gg mixed hf hl 100 hN rs h hv
theorem aLt(a b c:Int):cg prog 139 [.r 3 [.int .i64 a,.int .i64 b,.int .i64 c]] (.int .i64 (OP a b c)):=by
 have bl:∀ z:Int,z≠0->(Value.bool (!(z==0)))=.bool true:=λz h=>by congr 1;simpa using h
 unfold OP;by_cases ha:a=0
 ·rw[al (λh=>h ha)];subst ha;by_cases hb:b=0
  ·rw[al (λh=>h hb)];subst hb;by_cases hc:c=0
   ·subst hc;exact xy func139 18 (λ_=>[])
   ·exact xy func139 18 (λ_=>[.rw 14 (.bool (!((0:Int)==0))) a_ rfl,.rw 14 (.bool (!((0:Int)==0))) a_ rfl,.rw 14 _ _ (bl c hc)])
  ·rw[au hb];exact xy func139 18 (λ_=>[.rw 14 (.bool (!((0:Int)==0))) a_ rfl,.rw 14 _ _ (bl b hb)])
 ·rw[au ha];exact xy func139 18 (λ_=>[.rw 14 _ _ (bl a ha)])
theorem aBO(u v:V3 K):OP (OF.aB (u.x-v.x)) (OF.aB (u.y-v.y)) (OF.aB (u.z-v.z))=dW u v:=rfl
theorem UC{u v:V3 K}{n:Nat}(hu:aG m u)(hv:aG n v)(cU:4*(m+n)+24<=aA):aD prog 90 [bN u,bN v] (.int .i64 (dW u v)):=by rw[<-aBO];refine aZ func90 (λ_=>[(jt hu o_).at 6,(jt hv o_).at 10,(lZ hu.1 hv.1 cU).at 17,(lZ hu.2.1 hv.2.1 cU).at 22,(lZ hu.2.2 hv.2.2 cU).at 27,.bs f90 28 2 3 3 1 [0,1,2] (.int .i64 0) [.int .i64 (OF.aB (u.x-v.x)),.int .i64 (OF.aB (u.y-v.y)),.int .i64 (OF.aB (u.z-v.z))] #[.int .i64 (OF.aB (u.x-v.x)),.int .i64 (OF.aB (u.y-v.y)),.int .i64 (OF.aB (u.z-v.z))] (.row [.int .i64 (OF.aB (u.x-v.x)),.int .i64 (OF.aB (u.y-v.y)),.int .i64 (OF.aB (u.z-v.z))] 3 1) rfl (aY.1 k_) (aY.1 k_) k_ k_ d_ d_ k_,.step 29 (ay f90 29) _ _ _ _ (pg (aLt _ _ _) (.w (k:=2) (cc:=0) (x:=.row [.int .i64 (OF.aB (u.x-v.x)),.int .i64 (OF.aB (u.y-v.y)),.int .i64 (OF.aB (u.z-v.z))] 3 1) k_ k_ n_ .nil) (x:=.func 139) k_ k_ k_)])
def cV(p:HS K):RP:=⟨cJ p.n,dR p.d⟩
def dp(p:HS K):Value:=(cV p).v
theorem OQ{q:HS K}(h:cV p=cV q):p=q:=HS.ext (OO (ch RP.n h)) (J0 (ch RP.d h))
def bB(n:Nat)(p:HS K):Prop:=aG n p.n/\Sz n p.d
theorem bB.mono{n:Nat}(h:m<=n)(hp:bB m p):bB n p:=⟨hp.1.mono h,hp.2.mono h⟩
theorem bB.sm{n:Nat}(h:bB n p)(hn:n<=aA):(cV p).Sm:=⟨h.1.sm hn,CS h.2 hn⟩
instance:DecidableEq (HS K):=λp q=>decidable_of_iff (p.n=q.n/\p.d=q.d) ⟨λh=>HS.ext h.1 h.2,λh=>by subst h;exact⟨rfl,rfl⟩⟩
theorem Br{n:Nat}(hp:bB n p)(hn:n<=aA):aD prog 44 [dp p] (.bool (decide (p.n≠0))):=by
 by_cases h:p.n=0
 ·rw[aO (λe=>e h)];have hz:=Bq hp.1 hn;rw[aC h]at hz;exact aZ func44 (λ_=>[(jt hp.1 hn).at 5,hz.at 9])
 ·rw[aC h];have hz:=Bq hp.1 hn;rw[aO h]at hz;exact aZ func44 (λ_=>[(jt hp.1 hn).at 5,hz.at 9,(kK hp.2 hn).at 15])
theorem Fj{v:V3 K}{n:Nat}(hp:bB m p)(hv:aG n v)(cU:4*(3*(m+n)+14+m)+30<=aA)(h:p.n≠0):aD prog 71 [dp p,bN v] (.int .i64 (OF.aB (dot p.n v-p.d))):=by have h1:=Br hp o_;rw[aC h]at h1;exact aZ func71 (λ_=>[h1.at 6,(jt hv o_).at 10,(uG hp.1 hv o_).at 16,(lZ (hp.1.dot hv) hp.2 o_).at 19])
theorem aLu{x y:K}{n:Nat}(h:y≠0)(hx:Sz m x)(hy:Sz n y)(cU:m+7*n+40<=aA):aD prog 201 [cd x,cd y] (cd (x*y⁻¹)):=
 aZ func201 (λ_=>[(Hs h hx hy cU).at 10])
theorem Sz.iI{x:K}{n:Nat}(h:Sz n x):Sz n (iI x):=by
 unfold _root_.Go.Proofs.YthccllenbnhogaaGreatDoor.iI;split
 ·exact h.neg
 ·exact h
theorem OR{x:K}(h:x≠0):iI x≠0:=by
 unfold iI;split
 ·intro e;apply h;have:=ch (λz:K=>-z) e;rwa[CR.neg_neg,CR.neg_zero]at this
 ·exact h
def mg(x:K):K:=kI 1*(iI x)⁻¹
def C8(p:HS K)(x:K):HS K:=⟨smul p.n (mg x),p.d*mg x⟩
def qc(v:V3 K):K:=if v.x≠0 then v.x else if v.y≠0 then v.y else v.z
def canon(p:HS K):HS K:=C8 p (qc p.n)
theorem OS{v:V3 K}(h:v≠0):qc v≠0:=by
 unfold qc;by_cases hx:v.x=0
 ·rw[al (λe=>e hx)];by_cases hy:v.y=0
  ·rw[al (λe=>e hy)];exact λhz=>h (V3.ext hx hy hz)
  ·rw[au hy];exact hy
 ·rw[au hx];exact hx
theorem Sz.mg{x:K}{n:Nat}(hx:x≠0)(h:Sz n x):Sz (7*n+29) (mg x):=(Sz.div (m:=1) (OR hx) (qP d_ d_) h.iI).mono o_
theorem bB.C8{p:HS K}{n:Nat}(hp:bB n p){x:K}(hx:x≠0)(h:Sz n x):bB (8*n+33) (C8 p x):=⟨(hp.1.smul (h.mg hx)).mono o_,(hp.2.mul (h.mg hx)).mono o_⟩
theorem aLv{v:V3 K}{n:Nat}(h:aG n v):Sz n (qc v):=by
 unfold qc;split
 ·exact h.1
 ·split
  ·exact h.2.1
  ·exact h.2.2
theorem bB.canon{p:HS K}{n:Nat}(hp:bB n p)(h:p.n≠0):bB (8*n+33) (canon p):=hp.C8 (OS h) (aLv hp.1)
theorem aLw(r:RV)(ho:di o.op=some x):cz prog B o (.func (.func 200) #[] #[]::[r.v]) [(k,none)] (.func (.func 227) #[] #[.pointer (some ⟨k,0,some 7⟩)]) [(k,.aI r.cs 42)]:=
 aA4 mixed func200 ho k_ 50 (λ_=>[]) (λ_=>k_) k_ k_
def zI:RI:=⟨false,[]⟩
def zN:RN:=⟨zI,zI,zI,zI,zI⟩
def zV:RV:=⟨zN,zN,zN⟩
def zP:RP:=⟨zV,zN⟩
def vH(r q:RP):aE:=[(0,.aI r.cs 66),(1,.aI q.cs 66),(2,.aI [.int .i64 0] 29),(3,.aI r.n.cs 42)]
def HH:aM:=[(1,bZ 0),(2,bZ 1),(3,bZ 2),(12,.func (.func 227) #[] #[bZ 3])]
theorem aLx(r:RP):af prog B 31 (C0 f144 0) (jZ 0 [r.v]) [] 0 ⟨.normal,[(1,bZ 0),(2,bZ 1),(3,bZ 2)],[(0,.aI r.cs 66),(1,.aI zP.cs 66),(2,.aI [.int .i64 0] 29)],3⟩:=
 fE mixed 10 [] k_
def aLy:Code->Code|.seq _ y=>(match y with|.seq x _=>x|c=>c)|c=>c
def aLz(fn:Func):Code:=match fn.body with|some c=>c|none=>.skip
theorem aLA(r:RP)(hv:aD prog 44 [r.v] b_):af prog B 31 (aLy (aLz f144)) [(1,bZ 0),(2,bZ 1),(3,bZ 2)] [(0,.aI r.cs 66),(1,.aI zP.cs 66),(2,.aI [.int .i64 0] 29)] 3
  ⟨.normal,[(1,bZ 0),(2,bZ 1),(3,bZ 2)],[(0,.aI r.cs 66),(1,.aI zP.cs 66),(2,.aI [.int .i64 0] 29)],3⟩:=
 fE mixed 10 [hv.at 7] k_
theorem aLB(r:RP):af prog B 31 (C0 f144 3) [(1,bZ 0),(2,bZ 1),(3,bZ 2)] [(0,.aI r.cs 66),(1,.aI zP.cs 66),(2,.aI [.int .i64 0] 29)] 3 ⟨.normal,HH,vH r zP,4⟩:=
 fE mixed 10 [.step 12 (ay f144 12) _ _ _ _ (aLw (k:=3) (x:=.func 200) r.n k_)] k_
theorem aLC{n:Nat}(hp:bB n p){x:K}(hx:Sz n x)(hn:16*n+80<=aA):
  Hy prog 4 5 31 #[13] (A9 (pf f144)) (Ba (pf f144)) HH (vH (cV p) zP) [] (vH (cV p) (if x=0 then zP else cV (C8 p x))) [] [cd x] (if x=0 then none else some .ret):=by
 have hs:=nA hx o_;by_cases h:x=0
 ·rw[au h,au h];have e:OF.aB x=0:=(OF.e7 x).2 h;rw[e]at hs
  exact Kc [] (rA:=⟨.normal,(4,bZ 5)::HH,(5,.aI (dR x).cs 40)::vH (cV p) zP,6⟩) (rB:=⟨.normal,[],vH (cV p) zP,6⟩) k_ k_ k_ d_ (T6 k_) (HA k_ []) k_ (Ke k_) k_ rfl k_ (λB=>fE mixed 10 [] k_) rfl k_ rfl
   (λB=>fE mixed 10 [hs.at 15,.rw 16 (.bool (!((0:Int)==0))) a_ rfl] k_) (λk x h=>h) rfl
 ·rw[al h,al h];have e:OF.aB x≠0:=λe=>h ((OF.e7 x).1 e)
  exact Kc [] (rA:=⟨.normal,(4,bZ 5)::HH,(5,.aI (dR x).cs 40)::vH (cV p) zP,6⟩) (rB:=⟨.ret,[],vH (cV p) (cV (C8 p x)),7⟩) k_ k_ k_ d_ (T6 k_) (HA k_ []) k_ (Ke k_) k_ rfl k_ (λB=>fE mixed 10 [] k_) rfl k_ rfl
   (λB=>fE mixed 10 [hs.at 15,.rw 16 (.bool (!(OF.aB x==0))) b_ (by congr 1;simpa using e),(tw (z:=1) d_).at 17,(TK hx o_).at 19,(aLu (OR h) (qP (z:=1) (n:=1) d_ d_) hx.iI o_).at 20,(vF hp.1 (hx.mg h) o_).at 24,(oG hp.2 (hx.mg h) o_).at 28] k_) (λk x h=>h) rfl
theorem aLD{n:Nat}(hp:bB n p)(hn:16*n+80<=aA)(bd:p.n≠0){T:p_}{m:Map}:
  J8 prog 4 31 #[13] (A9 (pf f144)) (Ba (pf f144)) HH (vH (cV p) zP) [] (vH (cV p) (cV (canon p))) m T 227 [bZ 3] (some .ret):=by
 refine Kf mixed func227 rfl 100 (v:=.tuple #[]) λoI cB l D W1 S=>?_;have st:=λ(t:Nat) (o:Oper) (ho:di o.op=some (.tmp t)) (x:K) (hx:Sz n x)=>TV (S:=S) (W1:=W1) (l:=l) (D:=D) (cB:=cB) (x:=.tmp t) (o:=o) (aLC hp hx hn) ho oI
 have s1:=st 3 (ay f227 6) k_ p.n.x hp.1.1;have s2:=st 8 (ay f227 11) k_ p.n.y hp.1.2.1;have s3:=st 14 (ay f227 17) k_ p.n.z hp.1.2.2;have hc:canon p=C8 p (qc p.n):=rfl;unfold qc at hc;by_cases hx:p.n.x=0
 ·rw[al (λe=>e hx)]at hc;rw[au hx,au hx]at s1;by_cases hy:p.n.y=0
  ·rw[al (λe=>e hy)]at hc;rw[au hy,au hy]at s2;have hz:p.n.z≠0:=λhz=>bd (V3.ext hx hy hz);rw[al hz,al hz,<-hc]at s3;exact⟨[.step 6 _ _ _ _ _ s1,.step 11 _ _ _ _ _ s2,.step 17 _ _ _ _ _ s3],k_⟩
  ·rw[au hy]at hc;rw[al hy,al hy,<-hc]at s2;exact⟨[.step 6 _ _ _ _ _ s1,.step 11 _ _ _ _ _ s2],k_⟩
 ·rw[au hx]at hc;rw[al hx,al hx,<-hc]at s1;exact⟨[.step 6 _ _ _ _ _ s1],k_⟩
theorem Kx{n:Nat}(hp:bB n p)(hn:16*n+80<=aA)(bd:p.n≠0):aD prog 144 [dp p] (.tuple #[dp (canon p),.int .i64 0]):=by have hv:=Br hp o_;rw[aC bd]at hv;refine aA3 (N:=31) func144 rfl rfl k_ λw a hf hm=>?_;refine lT (aLx (cV p) none _ _ a w _ hf hm n_ (λ_ _=>rfl) λtg cc0 a0 w0 aA5 Ao jX nj yM Bd _=>?_);refine lT (aLA (cV p) hv none _ _ a0 w0 _ Ao jX nj yM λbJ gk a1 w1 jc gW cS dY dy gN _=>?_);refine lT (lT (aLB (cV p) none _ _ a1 w1 _ gW cS dY dy λdq qC a2 w2 kC jm dx fX eF gi _=>I5 ?_));refine T3 (next:=4) (next':=4) (ns:=[]) (Os:=vH (cV p) zP) (Vs:=[]) (cy:=vH (cV p) (cV (canon p))) (gf:=227) (ca:=[bZ 3]) (j:=some .ret) jm dx fX eF k_ k_ k_ k_ k_ k_ k_ k_ (bh _) k_ (HA k_ []) (aLD hp hn bd) λD κ bX w' CZ hDw _ UD uY A7 T1=>?_;refine wpIn_ret (aA2 (B:=ae.at w) (fr:=HH) (M:=vH (cV p) (cV (canon p))++[]) (v:=.tuple #[dp (canon p),.int .i64 0]) k_ UD uY A7 rfl (λF h=>h) CZ λav cc v' w' hc hG _=>⟨?_,hG.base⟩);rw[hc.fh rfl]
theorem UE{q:HS K}{n:Nat}(hp:bB m p)(hq:bB n q)(hm:16*m+80<=aA)(hn:16*n+80<=aA)(js:p.n≠0)(zj:q.n≠0):aD prog 97 [dp p,dp q] (.bool (decide (canon p=canon q))):=
 aZ func97 (λ_=>[(Kx hp hm js).at 11,(Kx hq hn zj).at 16,.step 28 (ay f97 28) _ _ _ _ (Tv (neg:=true) k_ (cV (canon p)) (cV (canon q)) ((hp.canon js).sm o_) ((hq.canon zj).sm o_) (b:=decide (canon p=canon q)) (by rw[au rfl,qU];exact⟨λh=>by rw[h],λh=>OQ h⟩))])
end
section
variable{P:j_}{B:ae}{w w4:h_}{K:Nat}{S:Nat->Prop}{ι:Map}{c:g_}{ns:l_}
theorem aLE{c:Code}(hf:P.funcs[f]?=some fn)(hb:fn.body=some c)(hN:N=(eM 0 l).length+(fn.ntmps-(eM 0 l).length))(hl:(l.all aK.ok)=true){w:h_}{R:Ending->World->Prop}
  (h:∀ ι cc a,fD (ae.at w) ι (bC (jZ 0 (eM 0 l))) N a->aJ (ae.at w) ι cc w->cX cc (jr 0 l)->eH cc (jG 0 l)->c.wpIn (FW none) 0 P (bodyPostM (FW none) 0 P fn R) a w) {args:ah} (cx:uC w l args):Calls P f args.toArray w R:=by
 obtain⟨ι,cc,h1,h2,h3,h4,h5,h6,h7⟩:=xm cx (aY.1 hl) 0 _ _ (sZ w) n_ (λ_ _=>rfl);refine IW.1 (callsIn_of_wp_marks (F:=FW none) (n:=0) hf hb trivial (h ι cc _ ?_ h2 h4 h3));have:=aA1 (B:=ae.at w) (fn:=fn) (N:=N) h6 hN rfl;simpa using this
def zk(P:j_)(f:FuncId)(K:Nat)(args:ah)(Os Vs:aE)(val:i_)(cy:aE):Prop:=
 ∀ B:ae,B.ds=[]->∀(ι:Map) (c:g_) (w:h_) (args':ah),aJ B ι c w->cX c (Os++Vs)->eH c K->bL (aH ι) args args'->
  Calls P f args'.toArray w λe w'=>∃ v' av c',e=.returned v'/\Map.le ι av/\aH av val v'/\aJ B av c' w'/\cX c' cy/\∀ k,k<K->ai (Os++Vs) k=none->c' k=c k
theorem oK{val:i_}(iq:P.follows .mixedOrders=true)(hf:P.funcs[f]?=some fn)(n:Nat)(hN:N=args.length+(fn.ntmps-args.length))(rs:∀ B,bH P B N)
  (h:∀ B,ou (gD (P:=P) fn n args (Os++Vs) K (rs B)) cy=ow (gD fn n args (Os++Vs) K (rs B)) val cy):zk P f K args Os Vs val cy:=by
 intro B mE ι c w args' hm ha hu dz;exact Rw iq hf hN n (h B) dz hm ha hu (λav bX v' w' hle hc bo dG hk=>⟨v',av,bX,rfl,hle,hc,bo,λk x e=>dG (k,x) (iQ e),hk⟩) mE
theorem aBP{val:i_}(h:zk P f K (args++ca) Os Vs val cy)(ho:di o.op=some x)(eK:fW P f=true)(mI:pW K ns val=true)
  (dz:(args++ca).all (nk K)=true) (du:((Os++Vs).all λp=>Nat.blt p.1 K&&l4 K p)=true) (ax:∀ p∈cy,∀ v∈p.2.cells,pW K ns v=true) (eC:(Os.all λp=>p.2.owns)=true) (uy:∀ p∈cy,p.2.owns=true\/p.2=.dead) (jV:(Vs.all λp=>p.2.soft)=true)
  (kV:∀ k,ai cy k=none↔(ai Os k=none/\ns.contains k=false)) :
  cz P B o (.func (.func f) #[] ca.toArray::args) (((Os++Vs).map λp=>(p.1,some p.2))++ns.map λk=>(k,none)) val cy:=by
 have:=jP (P:=P) (B:=B) (o:=o) (x:=x) (f:=f) (fi:=[]) (args:=args) (ca:=ca) (need:=((Os++Vs).map λp=>(p.1,some p.2))++ns.map λk=>(k,none)) (val:=val) (cP:=cy) ho eK ?_
 ·simpa using this
 ·intro ι c w hm hn args' ha;rw[jy]at ha;have hL:cX c (Os++Vs):=TT λp hp=>hn p (eA.2 (.inl hp));have L7:∀ k,ns.contains k=true->c k=none:=λk hk=>hn (k,none) (eA.2 (.inr (de.2 ⟨k,by simpa using hk,rfl⟩)));have aBQ:∀ k x,ai (Os++Vs) k=some x->k<K/\fH K x:=λk x e=>by have:=A4 du e;simp only[cY,yu]at this;exact⟨this.1,N7 this.2⟩
  obtain⟨S,hS,T0,J6,xg⟩:=aJ7 hm hL aBQ (λk x e=>A4 eC e) (λk x e=>A4 jV e);have bW:bL (aH (xl ι K)) (args++ca) args':=by
   have key:∀{l l':ah},bL (aH ι) l l'->(∀ v∈l,nk K v=true)->bL (aH (xl ι K)) l l':=by
    intro l l' h hl;induction h with
    |nil=>exact .nil
    |cons h t ih=>exact .cons (h.low (λk hk l e=>by rw[Hv hk];exact e) (hl _ (aL ..))) (ih λc hc=>hl c (bw _ hc))
   exact key ha (aY.1 dz)
  refine(h (ae.N9 w S) rfl _ _ w args' T0 J6 xg bW).mono ?_
  rintro e w' ⟨v',av,c',rfl,hle,hc,bo,A5,gU⟩
  have Oe:=aAM hm bo hle (λk hk e=>(gU k hk (Hw J6 e)).trans e) hL;obtain⟨g1,g2⟩:=aAJ (ns:=ns) hm (λk x e=>hL k x (by rw[jz,e])) (λk x e=>A4 eC e) (λk x e=>uy _ (iQ e)) kV L7 hS bo A5 Oe (λk x e=>ax _ (iQ e)) λk x e=>(aBQ k x (by rw[jz,e])).1;exact⟨_,v',rfl,g1,aAH Oe mI hc,g2⟩
theorem OT{val:i_}(h:zk P f K (args++ca) Os Vs val cy)(ho:di o.op=some x)(eK:fW P f=true)(mI:nk K val=true)
  (dz:(args++ca).all (nk K)=true) (du:((Os++Vs).all λp=>Nat.blt p.1 K&&l4 K p)=true) (Kd:(cy.all (l4 K))=true) (eC:(Os.all λp=>p.2.owns)=true) (uy:(cy.all λp=>p.2.owns)=true) (jV:(Vs.all λp=>p.2.soft)=true) (kV:cy.map (·.1)=Os.map (·.1)) :
  cz P B o (.func (.func f) #[] ca.toArray::args) ((Os++Vs).map λp=>(p.1,some p.2)) val cy:=by
 have:=aBP (P:=P) (B:=B) (ns:=[]) (o:=o) (x:=x) h ho eK (by unfold pW;rw[mI];rfl) dz du (HA Kd []) eC (Ke uy) jV (TQ (by rw[kV,gY]));rwa[M8,gY]at this
theorem aLF{val:i_}(h:zk P f K (args++ca) Os Vs val Os)(ho:di o.op=some x)(eK:fW P f=true)(mI:nk K val=true)
  (dz:(args++ca).all (nk K)=true) (du:((Os++Vs).all λp=>Nat.blt p.1 K&&l4 K p)=true) (Kd:(Os.all (l4 K))=true) (eC:(Os.all λp=>p.2.owns)=true) (jV:(Vs.all λp=>p.2.soft)=true) :
  cz P B o (.func (.func f) #[] ca.toArray::args) ((Os++Vs).map λp=>(p.1,some p.2)) val []:=by
 intro R ι c a w hv hm hn Kt Q hK;refine OT h ho eK mI dz du Kd eC eC jV rfl R ι c a w hv hm hn Kt Q λav v' w' h1 h2 h3=>hK av v' w' h1 h2 ?_;have hL:cX c (Os++Vs):=TT hn;refine h3.ext λk=>?_;show c k=lp c Os k;rw[wo];cases e:ai Os k with
 |none=>rfl
 |some y=>exact hL k y (by rw[jz,e])
end
section
variable{α:Type}(enc:α->ah)
def ct(l:List α):ah:=l.flatMap enc
structure qd(s:Nat):Prop where
 len:∀ x,(enc x).length=s
 flat:∀ x,∀ v∈enc x,flat v=true
 one:∀ x,∀ v∈enc x,v.oneCell'=true
variable{enc}{s:Nat}
theorem C9(x:α)(l:List α):ct enc (x::l)=enc x++ct enc l:=rfl
theorem Ky(l m:List α):ct enc (l++m)=ct enc l++ct enc m:=by unfold ct;rw[Kz]
theorem sk(h:qd enc s):∀ l:List α,(ct enc l).length=l.length*s
 |[]=>by simp[ct]
 |x::l=>by rw[C9,jM,h.len,sk h l,nL,ug,mF]
theorem HI(h:qd enc s)(l:List α):∀ v∈ct enc l,Go.Proofs.YthccllenbnhogaaGreatDoor.flat v=true:=λv hv=>by unfold ct at hv;rw[Bt]at hv;obtain⟨x,_,hx⟩:=hv;exact h.flat x v hx
theorem gA(h:qd enc s)(l:List α):(ct enc l).all Go.Proofs.YthccllenbnhogaaGreatDoor.flat=true:=aY.2 (HI h l)
theorem UF(h:qd enc s):∀(l:List α) (m:Nat),(ct enc l).drop (m*s)=ct enc (l.drop m)
 |l,0=>by simp
 |[],m+1=>by simp[ct]
 |x::l,m+1=>by rw[C9,ug,mF,<-MT,QR (h.len x),UF h l m,List.drop_succ_cons]
theorem UG(h:qd enc s):∀(l:List α) (m:Nat),(ct enc l).take (m*s)=ct enc (l.take m)
 |l,0=>by simp[ct]
 |[],m+1=>by simp[ct]
 |x::l,m+1=>by rw[C9,ug,mF,List.take_succ_cons,C9,aBR,h.len,EB,UG h l m,j0 (by rw[h.len];omega)]
theorem OU(h:qd enc s){l:List α}{x:α}(hx:l[i]?=some x):((ct enc l).drop (i*s)).take s=enc x:=by
 rw[UF h];have ao:=(eB.1 hx).1;have e:l.drop i=x::l.drop (i+1):=by
  rw[aBS ao]
  congr 1
  exact(eB.1 hx).2
 rw[e,C9,QQ (h.len x)]
theorem OV:∀(vs a b:ah) (o:Nat),iN (a++b) (a.length+o) vs=a++iN b o vs
 |[],a,b,o=>rfl
 |v::vs,a,b,o=>by unfold iN;rw[UH _ _ o_,EB,tX,OV vs]
theorem UI:∀(vs a b:ah),a.length=vs.length->iN (a++b) 0 vs=vs++b
 |[],a,b,h=>by rw[kA h];rfl
 |v::vs,[],b,h=>by cases h
 |v::vs,u::a,b,h=>by unfold iN;rw[GD,List.set_cons_zero];have:=OV vs [v] (a++b) 0;rw[KA]at this;rw[jL];have e:iN (v::(a++b)) 1 vs=v::iN (a++b) 0 vs:=this;rw[e,UI vs a b (by simpa using h)];rfl
theorem aBT(h:qd enc s):∀{l:List α} {i:Nat} {y:α},i<l.length->iN (ct enc l) (i*s) (enc y)=ct enc (l.set i y)
 |x::l,0,y,_=>by rw[lB,C9,UI _ _ _ (by rw[h.len,h.len])];rfl
 |x::l,i+1,y,hi=>by rw[ug,mF,C9];have:=OV (enc y) (enc x) (ct enc l) (i*s);rw[h.len]at this;rw[this,aBT h (by simpa using hi),List.set_cons_succ,C9]
variable{P:j_}
def HJ(P:j_)(t:TypeId):Option Nat:=match P.underlying t,P.info? t with
 |some d,some i=>if d.isRow then some i.size else none
 |_,_=>none
theorem aBU(h:qd enc s){t:TypeId}(ht:HJ P t=some s){l:List α}{x:α}(hx:l[i]?=some x):dE P t (ct enc l) (i*s)=some (.agg (enc x).toArray):=by
 unfold HJ at ht;split at ht
 ·rename_i d inf h1 h2;split at ht
  ·rename_i hr;injection ht with ht;unfold dE;rw[h1,h2];dsimp only;have ao:=(eB.1 hx).1;have:(i+1)*s<=l.length*s:=eZ s ao;rw[ug]at this;rw[au hr,ht,au (by rw[Nat.ble_eq,sk h];exact this),OU h hx]
  ·cases ht
 ·cases ht
theorem aLG(h:qd enc s){t:TypeId}(ht:HJ P t=some s){l:List α}{y:α}(hi:i<l.length):eT P t (ct enc l) (i*s) (.agg (enc y).toArray)=some (ct enc (l.set i y)):=by
 unfold HJ at ht;split at ht
 ·rename_i d inf h1 h2;split at ht
  ·rename_i hr;injection ht with ht;unfold eT;rw[h2];dsimp only;have hc:(Value.agg (enc y).toArray).cells.toList=enc y:=rfl;have hs:(Value.agg (enc y).toArray).cells.size=s:=by show(enc y).toArray.size=s;rw[L8,h.len]
   have:(i+1)*s<=l.length*s:=eZ s hi;rw[ug]at this;rw[au (by simp only[cY,Nat.ble_eq];refine⟨⟨by rw[hs,ht];simp,by rw[hs,sk h];exact this⟩,aY.2 λv hv=>h.one y v (by rwa[hc]at hv)⟩),hc,aBT h hi]
  ·cases ht
 ·cases ht
end
section
open V3 (dot aw cI smul)
theorem gp:qd RV.cs 30 where
 len r:=rfl
 flat r:=RV.nw r
 one r v hv:=by simp only[RV.cs,RN.cs,eA,b9,fv,fA]at hv;rcases hv with (h|h|h|h|h|h|h|h|h|h)|(h|h|h|h|h|h|h|h|h|h)|(h|h|h|h|h|h|h|h|h|h)<;>subst h<;>rfl
theorem iL:qd RP.cs 40 where
 len r:=rfl
 flat r v hv:=by
  simp only[RP.cs,eA]at hv;rcases hv with h|h
  ·exact RV.nw _ v h
  ·exact RN.nw _ v h
 one r v hv:=by
  simp only[RP.cs,eA]at hv;rcases hv with h|h
  ·exact gp.one _ v h
  ·simp only[RN.cs,b9,fv,fA]at h;rcases h with (h|h|h|h|h|h|h|h|h|h)<;>subst h<;>rfl
abbrev db(l:List RP):ah:=ct RP.cs l
abbrev cO(l:List RV):ah:=ct RV.cs l
theorem vJ{l:List RP}{p:RP}(h:l[i]?=some p):dE prog 66 (db l) (i*40)=some p.v:=aBU iL k_ h
theorem sn{l:List RV}{p:RV}(h:l[i]?=some p):dE prog 42 (cO l) (i*30)=some p.v:=aBU gp k_ h
def Bu{α:Type}(b:α->Bool):List α->Nat->Int
 |[],_=>-1
 |x::l,i=>if b x then(i:Int)else Bu b l (i+1)
theorem OW{α:Type}{b:α->Bool}:∀{l:List α} (i:Nat),(∀ x∈l,b x=false)->Bu b l i=-1
 |[],_,_=>rfl
 |x::l,i,h=>by unfold Bu;rw[h x (aL ..),OW (i+1) λy hy=>h y (bw _ hy)];rfl
theorem OX{α:Type}{b:α->Bool}:∀{l:List α} {e:Nat} {x:α} (i:Nat),l[e]?=some x->b x=true->(∀(j:Nat) (y:α),j<e->l[j]?=some y->b y=false)->Bu b l i=((i+e:Nat):Int)
 |[],e,x,i,h,_,_=>by simp at h
 |y::l,0,x,i,h,hx,_=>by simp at h;subst h;unfold Bu;rw[hx];rfl
 |y::l,e+1,x,i,h,hx,hb=>by unfold Bu;rw[hb 0 y o_ rfl,OX (i+1) (by simpa using h) hx λj z hj hz=>hb (j+1) z o_ (by simpa using hz)];simp;omega
theorem Fk{α:Type}(b:α->Bool):∀(l:List α),(∀ x∈l,b x=false)\/∃(e:Nat) (x:α),l[e]?=some x/\b x=true/\∀(j:Nat) (y:α),j<e->l[j]?=some y->b y=false
 |[]=>.inl n_
 |x::l=>by
  cases hx:b x with
  |true=>exact .inr ⟨0,x,rfl,hx,λj y hj=>by omega⟩
  |false=>
   rcases Fk b l with h|⟨e,y,h1,h2,h3⟩
   ·refine .inl λy hy=>?_;rcases b9.1 hy with rfl|hy
    ·exact hx
    ·exact h y hy
   ·refine .inr ⟨e+1,y,by simpa using h1,h2,λj z hj hz=>?_⟩;cases j with
    |zero=>simp at hz;subst hz;exact hx
    |succ j=>exact h3 j z o_ (by simpa using hz)
theorem aBV{b:α->Bool}{l:List α}:decide (Bu b l 0>=0)=l.any b:=by
 rcases Fk b l with h|⟨e,x,h1,h2,h3⟩
 ·rw[OW 0 h];have:l.any b=false:=by rw[I2];intro x hx;rw[h x hx];simp
  rw[this];rfl
 ·rw[OX 0 h1 h2 h3];have:l.any b=true:=rF.2 ⟨x,cN h1,h2⟩;rw[this,qU];omega
section
variable{Bs:ae}{g:FuncId}{ps:List RP}{caps:ah}{b:RP->Bool}
def UJ(g:FuncId):Value:=.func (.func g) #[] #[bZ 1]
def zn(g:FuncId)(n i:Nat):aM:=[(8,vI i),(6,sl 0 n),(7,vI n),(0,sl 0 n),(1,UJ g)]
def tz(ps:List RP)(caps:ah):aE:=[(0,.view (db ps)),(1,.view caps)]
noncomputable def ifS{p:RP}{b:Bool}(hc:fW prog g=true)(jx:caps.all flat=true)(hi:i<ps.length)(hp:ps[i]?=some p)(h:cg prog g [.p p.v,.q caps] (.bool b))(more:bH prog Bs 19):bH prog Bs 19:=
 .lt 9 i ps.length true (aC hi)::.df f82 14 0 ps.length i 40 hi k_::.ld f82 15 66 0 (i*40) (.view (db ps)) p.v rfl (vJ hp) k_::
  .step 16 (ay f82 16) [UJ g,p.v] [(1,some (.view caps))] (.bool b) [] (aKv (vs:=[p.v]) (ca:=[bZ 1]) (x:=.tmp 11) h (.p rfl (.q (x:=.view caps) rfl jx .nil)) k_ hc rfl)::more
theorem aLH{p:RP}(hc:fW prog g=true)(jx:caps.all flat=true)(hi:i<ps.length)(hp:ps[i]?=some p)(h:cg prog g [.p p.v,.q caps] a_)(h63:ps.length<9223372036854775807):
  af prog Bs 19 (aF (ag f82 0)) (zn g ps.length i) (tz ps caps) 2 ⟨.normal,zn g ps.length (i+1),tz ps caps,2⟩:=
 az (ifS hc jx hi hp h [.sum 18 i 1 (i+1) rfl o_])
theorem aLI{p:RP}(hc:fW prog g=true)(jx:caps.all flat=true)(hi:i<ps.length)(hp:ps[i]?=some p)(h:cg prog g [.p p.v,.q caps] b_):
  af prog Bs 19 (aF (ag f82 0)) (zn g ps.length i) (tz ps caps) 2 ⟨.ret,[(4,vI i)],tz ps caps,2⟩:=
 az (ifS hc jx hi hp h [])
theorem aLJ:af prog Bs 19 (aF (ag f82 0)) (zn g ps.length ps.length) (tz ps caps) 2 ⟨.exit 0,[],tz ps caps,2⟩:=
 az [.lt 9 ps.length ps.length false s_]
theorem dC{v:i_}(hf:prog.funcs[f]?=some fn)(hl:(l.all aK.ok)=true)(N:Nat)(rs:∀ w,bH prog (ae.at w) N)(hN:N=(eM 0 l).length+(fn.ntmps-(eM 0 l).length):=by kernel_rfl)(h:∀ w,ou (gD (P:=prog) fn 100 (eM 0 l) (jr 0 l) (jG 0 l) (rs w)) []=ow (gD fn 100 (eM 0 l) (jr 0 l) (jG 0 l) (rs w)) v []:=by intro _;kernel_rfl)(hv:flat v=true:=by kernel_rfl):cg prog f l v:=gg mixed hf hl 100 hN rs h hv
theorem aLK(hc:fW prog g=true)(jx:caps.all flat=true)(h63:ps.length<9223372036854775807)(h:∀ p∈ps,cg prog g [.p p.v,.q caps] (.bool (b p))):cg prog 82 [.r ps.length (db ps),.f g caps] (.int .i64 (Bu b ps 0)):=by
 have ax:([aK.r ps.length (db ps),.f g caps].all aK.ok)=true:=by simp only[eY,fO,aK.ok,gA iL,jx,zo]
 have qe:∀(B:ae) e,e<=ps.length->(∀ j y,j<e->ps[j]?=some y->b y=false)->∀ i,i<e->af prog B 19 (aF (ag f82 0)) (zn g ps.length i) (tz ps caps) 2 ⟨.normal,zn g ps.length (i+1),tz ps caps,2⟩:=λB e he hb i hi=>by
  have ao:i<ps.length:=by omega
  have hp:ps[i]?=some ps[i]:=aW ao;have hh:=h ps[i] (dK ao);rw[hb i ps[i] hi hp]at hh;exact aLH hc jx ao hp hh h63
 rcases Fk b ps with hn|⟨e,x,h1,h2,h3⟩
 ·rw[OW 0 hn];have lo:∀ B:ae,af prog B 19 (.block 0 (ag f82 0)) (zn g ps.length 0) (tz ps caps) 2 ⟨.normal,[],tz ps caps,2⟩:=λB=>
   bO (id:=0) (ck ps.length (λi=>zn g ps.length i) (λ_=>tz ps caps) (λi k _=>Iff.rfl) (qe B ps.length (bh _) λj y _ hy=>hn y (cN hy)) aLJ n_)
  exact dC func82 ax 19 (λw=>[.code 0 _ _ _ _ _ (lo _)])
 ·have ao:=(eB.1 h1).1;have hh:=h x (cN h1);rw[h2]at hh;rw[OX 0 h1 h2 h3,jL];have lo:∀ B:ae,af prog B 19 (.block 0 (ag f82 0)) (zn g ps.length 0) (tz ps caps) 2 ⟨.ret,[(4,vI e)],tz ps caps,2⟩:=λB=>
   bO (id:=0) (ck e (λi=>zn g ps.length i) (λ_=>tz ps caps) (λi k _=>Iff.rfl) (qe B e o_ h3) (aLI hc jx ao h1 hh) n_)
  exact dC func82 ax 19 (λw=>[.code 0 _ _ _ _ _ (lo _)])
theorem aLL(hc:fW prog g=true)(jx:caps.all flat=true)(h63:ps.length<9223372036854775807)(h:∀ p∈ps,cg prog g [.p p.v,.q caps] (.bool (b p))):cg prog 42 [.r ps.length (db ps),.f g caps] (.bool (ps.any b)):=by
 have ax:([aK.r ps.length (db ps),.f g caps].all aK.ok)=true:=by simp only[eY,fO,aK.ok,gA iL,jx,zo]
 rw[<-aBV];exact dC func42 ax 9 (λw=>[.cR f42 7 [sl 0 ps.length,UJ g] (aLK hc jx h63 h) (.w (x:=.view (db ps)) rfl (gA iL ps) (λh=>by rw[kA h];rfl) (.f (x:=.view caps) rfl jx .nil))])
end
def bf(ps:List (HS K)):ah:=db (ps.map cV)
def fF(ps:List (HS K)):aK:=.r ps.length (bf ps)
theorem dh(ps:List (HS K)):(bf ps).all flat=true:=gA iL _
theorem vK(h:ps[i]?=some p):dE prog 66 (bf ps) (i*40)=some (dp p):=vJ (by rw[u9,h];rfl)
theorem jk(h:ps.length=0):bf ps=[]:=by rw[kA h];rfl
def aX(vs:List (V3 K)):ah:=cO (vs.map cJ)
def uH(vs:List (V3 K)):aK:=.r vs.length (aX vs)
theorem eD(vs:List (V3 K)):(aX vs).all flat=true:=gA gp _
theorem nW{vs:List (V3 K)}{v:V3 K}(h:vs[i]?=some v):dE prog 42 (aX vs) (i*30)=some (bN v):=sn (by rw[u9,h];rfl)
theorem xz{vs:List (V3 K)}(h:vs.length=0):aX vs=[]:=by rw[kA h];rfl
open Classical in
theorem UK{g:FuncId}{caps:ah}{b:HS K->Bool}(hc:fW prog g=true)(jx:caps.all flat=true)(h63:ps.length<9223372036854775807)(h:∀ p∈ps,cg prog g [.p (dp p),.q caps] (.bool (b p))):
  cg prog 42 [fF ps,.f g caps] (.bool (ps.any b)):=by
 have:=aLL (g:=g) (caps:=caps) (ps:=ps.map cV) (b:=λr=>if hr:∃ p∈ps,cV p=r then b hr.choose else false) hc jx (by rw[fk];exact h63) (λr hr=>by obtain⟨p,hp,rfl⟩:=de.1 hr;have hex:∃ q∈ps,cV q=cV p:=⟨p,hp,rfl⟩;rw[dif_pos hex];have e:hex.choose=p:=OQ hex.choose_spec.2;rw[e];exact h p hp)
 rw[fk]at this;have e:(ps.map cV).any (λr=>if hr:∃ p∈ps,cV p=r then b hr.choose else false)=ps.any b:=by
  rw[List.any_map];have:∀ l:List (HS K),(∀ p∈l,p∈ps)->l.any ((λr=>if hr:∃ p∈ps,cV p=r then b hr.choose else false)∘cV)=l.any b:=by
   intro l;induction l with
   |nil=>intro _;rfl
   |cons p l ih=>
    intro hl;rw[List.any_cons,List.any_cons,ih λq hq=>hl q (bw _ hq)];refine ch (·||l.any b) ?_;have hex:∃ q∈ps,cV q=cV p:=⟨p,hl p (aL ..),rfl⟩;show(if hr:∃ q∈ps,cV q=cV p then b hr.choose else false)=b p;rw[dif_pos hex,OQ hex.choose_spec.2]
  exact this ps λp hp=>hp
 rw[e]at this;exact this
theorem aLM{v:V3 K}{n:Nat}(hp:bB m p)(hv:aG n v)(cU:4*(3*(m+n)+14)+20<=aA):cg prog 132 [.p (dp p),.q (cJ v).cs] (.bool (decide (OF.aB (dot p.n v)>0))):=by have h1:=uG hp.1 hv (show 3*(m+n)+16<aA by omega);have h2:=nA (hp.1.dot hv) cU;generalize OF.aB (dot p.n v)=z at *;exact xy func132 10 (λ_=>[h1.at 7,h2.at 8])
theorem aLN{v:V3 K}{n:Nat}(hp:bB m p)(hv:aG n v)(cU:4*(3*(m+n)+14+m)+30<=aA)(h:p.n≠0):cg prog 95 [.p (dp p),.q (cJ v).cs] (.bool (decide (OF.aB (dot p.n v-p.d)>=0))):=
 xy func95 8 (λ_=>[(Fj hp hv cU h).at 6])
theorem aLO{q:HS K}{n:Nat}(hp:bB m p)(hq:bB n q)(hm:16*m+80<=aA)(hn:16*n+80<=aA)(js:p.n≠0)(zj:q.n≠0):cg prog 96 [.p (dp q),.q (cV p).cs] (.bool (decide (canon p=canon q))):=
 xy func96 7 (λ_=>[(UE hp hq hm hn js zj).at 6])
def Da(ps:List (HS K))(v:V3 K):Bool:=!decide (v=0)&&!ps.any λp=>decide (OF.aB (dot p.n v)>0)
theorem aLP{v:V3 K}{n:Nat}(bP:∀ p∈ps,bB m p)(hv:aG n v)(cU:4*(3*(m+n)+14)+20<=aA)(h63:ps.length<9223372036854775807):cg prog 86 [fF ps,.p (bN v)] (.bool (Da ps v)):=by
 have hz:=Bq hv o_;have ax:([fF ps,.p (bN v)].all aK.ok)=true:=by simp only[eY,fO,fF,aK.ok,dh,iM,kX];rfl
 unfold Da;by_cases h:v=0
 ·rw[aC h]at hz ⊢;exact dC func86 ax 14 (λ_=>[hz.at 6])
 ·rw[aO h]at hz ⊢;have hc:=UK (g:=132) (caps:=(cJ v).cs) (ps:=ps) (b:=λp=>decide (OF.aB (dot p.n v)>0)) k_ (aY.2 (RV.nw _)) h63 λp hp=>aLM (bP p hp) hv cU;generalize (ps.any λp=>decide (OF.aB (dot p.n v)>0))=t at *;exact dC func86 ax 14 (λ_=>[hz.at 6,.cR f86 11 [sl 0 ps.length,.func (.func 132) #[] #[bZ 1]] hc (.w (x:=.view (bf ps)) rfl (dh ps) jk (.f (x:=.aI (cJ v).cs 42) rfl (aY.2 (RV.nw _)) .nil))])
def qf(ps:List (HS K))(u:V3 K):Bool:=Da ps u||Da ps (-u)
def qg(p:HS K)(l:List (HS K)):Bool:=l.any λq=>!decide (aw p.n q.n=0)
def tA:List (HS K)->Nat->Bool
 |_,0=>false
 |l,i+1=>match l[i]? with
  |some p=>tA l i||qg p (l.take i)
  |none=>tA l i
section
variable{Bs:ae}{ps:List (HS K)}
def Bv(n i:Nat)(s:Bool)(j:Nat):aM:=[(20,vI j),(18,sl 0 i),(19,vI i),(0,sl 0 n),(5,bZ 1),(3,.bool s)]
def su(ps:List (HS K))(p:HS K):aE:=[(0,.view (bf ps)),(1,.aI (cV p).cs 66)]
theorem aBW(p:HS K)(m:Nat):∀ x∈su ps p,fH m x.2:=λx hx=>by
 simp only[su,b9,fv,fA]at hx;rcases hx with rfl|rfl
 ·exact λv hv=>iF (aY.1 (dh ps) v hv)
 ·exact λv hv=>iF (iL.flat _ v hv)
noncomputable def HK{q:HS K}(hj:j<i)(hq:ps[j]?=some q)(bP:∀ p∈ps,bB m p)(hp:bB m p)(hm:100*m+1000<=aA)(s:Bool)(more:bH prog Bs 47):bH prog Bs 47:=
 .lt 21 j i true (aC hj)::.df f45 22 0 i j 40 hj k_::.ld f45 23 66 0 (j*40) (.view (bf ps)) (dp q) rfl (vK hq) k_::
  (vG hp.1 (bP q (cN hq)).1 o_).at 28::
  (if s then more else(Bq (hp.1.aw (bP q (cN hq)).1) o_).at 32::more)
theorem OY{u:V3 K}{n:Nat}(bP:∀ p∈ps,bB m p)(hu:aG n u)(cU:4*(3*(m+n)+14)+20<=aA)(h63:ps.length<9223372036854775807)(ho:di o.op=some x):
  cz prog Bs o [.func (.func 86) #[] #[],sl 0 ps.length,bN u] [(0,some (.view (bf ps)))] (.bool (Da ps u)) []:=
 pg (aLP bP hu cU h63) (.w (x:=.view (bf ps)) rfl (dh ps) jk (.p k_ .nil)) ho k_ k_
theorem aLQ{q:HS K}(hj:j<i)(hq:ps[j]?=some q)(bP:∀ p∈ps,bB m p)(hp:bB m p)(hm:100*m+1000<=aA)(h63:ps.length<9223372036854775807)(mQ:i<=ps.length)(s:Bool)(hb:qf ps (aw p.n q.n)=false):
  af prog Bs 47 (aF (ag f45 2)) (Bv ps.length i s j) (su ps p) 2 ⟨.normal,Bv ps.length i (s||!decide (aw p.n q.n=0)) (j+1),su ps p,2⟩:=by
 have UL:=bP q (cN hq);have hc:=hp.1.aw UL.1;unfold qf at hb;rw[Mf]at hb;have o1:=λBs=>OY (Bs:=Bs) (x:=.func 86) (o:=ay f45 37) bP hc o_ h63 k_;have o2:=λBs=>OY (Bs:=Bs) (x:=.func 86) (o:=ay f45 42) bP hc.neg o_ h63 k_;rw[hb.1]at o1;rw[hb.2]at o2;have ng:=HG hc o_;have hs:∀ d:Bool,(s||!d)=(if s then true else !d):=λd=>by cases s<;>rfl
 cases s
 ·exact ue mixed 100 (fY:=4) (HK hj hq bP hp hm false [.step 37 _ _ _ _ _ (o1 _),ng.at 41,.step 42 _ _ _ _ _ (o2 _),.sum 44 j 1 (j+1) rfl o_]) k_ rfl k_ (aBW _ 2) k_
 ·exact ue mixed 100 (fY:=4) (HK hj hq bP hp hm true [.step 37 _ _ _ _ _ (o1 _),ng.at 41,.step 42 _ _ _ _ _ (o2 _),.sum 44 j 1 (j+1) rfl o_]) k_ rfl k_ (aBW _ 2) k_
theorem aLR{q:HS K}(hj:j<i)(hq:ps[j]?=some q)(bP:∀ p∈ps,bB m p)(hp:bB m p)(hm:100*m+1000<=aA)(h63:ps.length<9223372036854775807)(s:Bool)(hb:qf ps (aw p.n q.n)=true):
  af prog Bs 47 (aF (ag f45 2)) (Bv ps.length i s j) (su ps p) 2 ⟨.ret,[(2,.bool false)],su ps p,4⟩:=by
 have UL:=bP q (cN hq);have hc:=hp.1.aw UL.1;unfold qf at hb;have o1:=λBs=>OY (Bs:=Bs) (x:=.func 86) (o:=ay f45 37) bP hc o_ h63 k_;have o2:=λBs=>OY (Bs:=Bs) (x:=.func 86) (o:=ay f45 42) bP hc.neg o_ h63 k_;have ng:=HG hc o_;cases h1:Da ps (aw p.n q.n)with
 |true=>
  rw[h1]at o1;cases s
  ·exact az (HK hj hq bP hp hm false [.step 37 _ _ _ _ _ (o1 _)])
  ·exact az (HK hj hq bP hp hm true [.step 37 _ _ _ _ _ (o1 _)])
 |false=>
  rw[h1,wQ]at hb;rw[h1]at o1;rw[hb]at o2;cases s
  ·exact az (HK hj hq bP hp hm false [.step 37 _ _ _ _ _ (o1 _),ng.at 41,.step 42 _ _ _ _ _ (o2 _)])
  ·exact az (HK hj hq bP hp hm true [.step 37 _ _ _ _ _ (o1 _),ng.at 41,.step 42 _ _ _ _ _ (o2 _)])
theorem aLS(s:Bool):af prog Bs 47 (aF (ag f45 2)) (Bv ps.length i s i) (su ps p) 2 ⟨.exit 2,[(3,.bool s)],su ps p,2⟩:=
 az [.lt 21 i i false s_]
theorem aLT{q:HS K}(hq:ps[j]?=some q):qg p (ps.take (j+1))=(qg p (ps.take j)||!decide (aw p.n q.n=0)):=by unfold qg;rw[sA,hq,List.any_append];simp
theorem aBX(mQ:i<=ps.length)(bP:∀ p∈ps,bB m p)(hp:bB m p)(hm:100*m+1000<=aA)(h63:ps.length<9223372036854775807)(s:Bool):
  af prog Bs 47 (.block 2 (ag f45 2)) (Bv ps.length i s 0) (su ps p) 2 (if(ps.take i).any (λq=>qf ps (aw p.n q.n))=true then⟨.ret,[(2,.bool false)],su ps p,4⟩else⟨.normal,[(3,.bool (s||qg p (ps.take i)))],su ps p,2⟩):=by
 have at':∀{j:Nat},j<i->(ps.take i)[j]?=ps[j]?:=λhj=>by rw[tV,au hj]
 have qe:∀ e,e<=i->(∀(j:Nat) y,j<e->(ps.take i)[j]?=some y->qf ps (aw p.n y.n)=false)->∀ j,j<e->
   af prog Bs 47 (aF (ag f45 2)) (Bv ps.length i (s||qg p (ps.take j)) j) (su ps p) 2 ⟨.normal,Bv ps.length i (s||qg p (ps.take (j+1))) (j+1),su ps p,2⟩:=λe he hb j hj=>by
  have hq:ps[j]?=some ps[j]:=aW o_;have:=aLQ (Bs:=Bs) (p:=p) (show j<i by omega) hq bP hp hm h63 mQ (s||qg p (ps.take j)) (hb j _ hj (by rw[at' o_];exact hq));rwa[Bool.or_assoc,<-aLT hq]at this
 have e0:(s||qg p (ps.take 0))=s:=by simp[qg]
 rcases Fk (λq:HS K=>qf ps (aw p.n q.n)) (ps.take i)with hn|⟨e,q,h1,h2,h3⟩
 ·have:¬(ps.take i).any (λq=>qf ps (aw p.n q.n))=true:=by rw[OZ,I2];intro x hx;rw[hn x hx];simp
  rw[al this];have:=ck (P:=prog) (B:=Bs) (N:=47) i (λj=>Bv ps.length i (s||qg p (ps.take j)) j) (λ_=>su ps p) (λi k _=>Iff.rfl) (qe i (bh _) λj y _ hy=>hn y (cN hy)) (aLS _) n_;rw[e0]at this;exact bO (id:=2) this
 ·have ha:(ps.take i).any (λq=>qf ps (aw p.n q.n))=true:=rF.2 ⟨q,cN h1,h2⟩;rw[au ha];have hei:e<i:=by have:=(eB.1 h1).1;rw[jn]at this;omega
  have:=ck (P:=prog) (B:=Bs) (N:=47) e (λj=>Bv ps.length i (s||qg p (ps.take j)) j) (λ_=>su ps p) (λi k _=>Iff.rfl) (qe e o_ h3) (aLR hei (by rw[<-at' hei];exact h1) bP hp hm h63 _ h2) n_;rw[e0]at this;exact bO (id:=2) this
def Fl(ps:List (HS K))(i:Nat):Bool:=match ps[i]? with
 |some p=>(ps.take i).any λq=>qf ps (aw p.n q.n)
 |none=>false
def O0(ps:List (HS K))(n:Nat):Bool:=(List.range n).any (Fl ps)
theorem O1(h:ps[i]?=some p):Fl ps i=(ps.take i).any λq=>qf ps (aw p.n q.n):=by unfold Fl;rw[h]
theorem aBY(h:ps[i]?=some p):tA ps (i+1)=(tA ps i||qg p (ps.take i)):=by show(match ps[i]? with|some p=>tA ps i||qg p (ps.take i)|none=>tA ps i)=_;rw[h]
def sB(ps:List (HS K)):Bool:=!O0 ps ps.length&&tA ps ps.length
def zp(n i:Nat)(s:Bool):aM:=[(11,vI i),(9,sl 0 n),(10,vI n),(0,sl 0 n),(3,.bool s)]
def qV(ps:List (HS K)):aE:=[(0,.view (bf ps))]
theorem aLU(m:Nat):∀ x∈qV ps,fH m x.2:=λx hx=>by simp only[qV,b9,fv,fA]at hx;subst hx;exact λv hv=>iF (aY.1 (dh ps) v hv)
noncomputable def coS(hi:i<ps.length)(hp:ps[i]?=some p)(more:bH prog Bs 47):bH prog Bs 47:=
 .lt 12 i ps.length true (aC hi)::.df f45 14 0 ps.length i 40 hi k_::.ld f45 15 66 0 (i*40) (.view (bf ps)) (dp p) rfl (vK hp) k_::.upto f45 18 0 ps.length i 40 o_ k_::more
theorem aLV(hi:i<ps.length)(hp:ps[i]?=some p)(bP:∀ p∈ps,bB m p)(hm:100*m+1000<=aA)(h63:ps.length<9223372036854775807)(s:Bool)(hb:(ps.take i).any (λq=>qf ps (aw p.n q.n))=false):
  af prog Bs 47 (aF (ag f45 0)) (zp ps.length i s) (qV ps) 1 ⟨.normal,zp ps.length (i+1) (s||qg p (ps.take i)),qV ps,1⟩:=by
 have lo:=aBX (Bs:=Bs) (show i<=ps.length by omega) bP (bP p (cN hp)) hm h63 s;rw[hb,al s_]at lo;generalize qg p (ps.take i)=t at *;exact ue mixed 100 (fY:=2) (coS hi hp [.code 2 _ _ _ _ _ lo,.sum 45 i 1 (i+1) rfl o_]) k_ rfl k_ (aLU 1) k_
theorem aLW(hi:i<ps.length)(hp:ps[i]?=some p)(bP:∀ p∈ps,bB m p)(hm:100*m+1000<=aA)(h63:ps.length<9223372036854775807)(s:Bool)(hb:(ps.take i).any (λq=>qf ps (aw p.n q.n))=true):
  af prog Bs 47 (aF (ag f45 0)) (zp ps.length i s) (qV ps) 1 ⟨.ret,[(2,.bool false)],qV ps,4⟩:=by
 have lo:=aBX (Bs:=Bs) (show i<=ps.length by omega) bP (bP p (cN hp)) hm h63 s;rw[au hb]at lo;exact az (coS hi hp [.code 2 _ _ _ _ _ lo])
theorem aLX(s:Bool):af prog Bs 47 (aF (ag f45 0)) (zp ps.length ps.length s) (qV ps) 1 ⟨.exit 0,[(3,.bool s)],qV ps,1⟩:=
 az [.lt 12 ps.length ps.length false s_]
theorem aLY(bP:∀ p∈ps,bB m p)(hm:100*m+1000<=aA)(h63:ps.length<9223372036854775807):cg prog 45 [fF ps] (.bool (sB ps)):=by
 have ax:([fF ps].all aK.ok)=true:=by simp only[eY,fO,fF,aK.ok,dh,iM]
 have qe:∀(B:ae) e,e<=ps.length->(∀(j:Nat) y,j<e->(List.range ps.length)[j]?=some y->Fl ps y=false)->∀ i,i<e->
   af prog B 47 (aF (ag f45 0)) (zp ps.length i (tA ps i)) (qV ps) 1 ⟨.normal,zp ps.length (i+1) (tA ps (i+1)),qV ps,1⟩:=λB e he hb i hi=>by
  have ao:i<ps.length:=by omega
  have hp:ps[i]?=some ps[i]:=aW ao;rw[aBY hp];exact aLV ao hp bP hm h63 _ (by rw[<-O1 hp];exact hb i i hi (KB ao))
 unfold sB O0;rcases Fk (Fl ps) (List.range ps.length)with hn|⟨e,y,h1,h2,h3⟩
 ·have ha:(List.range ps.length).any (Fl ps)=false:=by rw[I2];intro x hx;rw[hn x hx];simp
  rw[ha];have lo:∀ B:ae,af prog B 47 (.block 0 (ag f45 0)) (zp ps.length 0 false) (qV ps) 1 ⟨.normal,[(3,.bool (tA ps ps.length))],qV ps,1⟩:=λB=>
   bO (id:=0) (ck ps.length (λi=>zp ps.length i (tA ps i)) (λ_=>qV ps) (λi k _=>Iff.rfl) (qe B ps.length (bh _) λj y _ hy=>hn y (cN hy)) (aLX _) n_)
  generalize tA ps ps.length=t at *;exact dC func45 ax 47 (λw=>[.code 0 _ _ _ _ _ (lo _)])
 ·have ha:(List.range ps.length).any (Fl ps)=true:=rF.2 ⟨y,cN h1,h2⟩;rw[ha];have ao:e<ps.length:=by have:=(eB.1 h1).1;rwa[Ar]at this
  have hy:y=e:=by rw[KB ao]at h1;injection h1 with h1;exact h1.symm
  subst hy;have hp:ps[y]?=some ps[y]:=aW ao;have lo:∀ B:ae,af prog B 47 (.block 0 (ag f45 0)) (zp ps.length 0 false) (qV ps) 1 ⟨.ret,[(2,.bool false)],qV ps,4⟩:=λB=>
   bO (id:=0) (ck y (λi=>zp ps.length i (tA ps i)) (λ_=>qV ps) (λi k _=>Iff.rfl) (qe B y o_ h3) (aLW ao hp bP hm h63 _ (by rw[<-O1 hp];exact h2)) n_)
  exact dC func45 ax 47 (λw=>[.code 0 _ _ _ _ _ (lo _)])
end
end
section
variable{P:j_}{B:ae}{N:Nat}
def UM(o:Oper):Bool:=match o.op with|.nilCheck _=>true|_=>false
theorem aLZ(ho:UM o=true)(k off:Nat):cz P B o [.pointer (some ⟨k,off,some 7⟩)] [] (.pointer (some ⟨k,off,some 7⟩)) []:=by
 unfold UM at ho;split at ho
 ·rename_i x bM;refine gT.step λι c ρ w aN hm hn=>?_;rw[bM]at aN;obtain⟨u,hu,hc⟩:=mz aN;have hu:ρ x=u:=by simpa[Op.operands]using hu
  obtain⟨b,oo,cap,hb,he⟩:=hc.uX rfl;refine⟨ι,.pointer (some ⟨b,oo+off,none⟩),w,Map.le.refl _,.ptr hb,hm,.inl ?_⟩;simp only[execOp,bM,hu,he];simp[go_sem]
 ·cases ho
def aQ.cq(fn:Func)(key k off:Nat)(ho:UM (ay fn key)=true):aQ P B N:=.step key (ay fn key) [.pointer (some ⟨k,off,some 7⟩)] [] (.pointer (some ⟨k,off,some 7⟩)) [] (aLZ ho k off)
end
section
open V3 (dot aw cI smul)
def UN:Option K->ah
 |some x=>(dR x).cs
 |none=>zN.cs
def qW(s:eP K)(b d:V3 K):ah:=UN s.lo++(UN s.hi++(.bool s.lo.isSome::.bool s.hi.isSome::((cJ b).cs++(cJ d).cs)))
def qX(s:eP K)(a b:K):eP K:=
 if OF.aB a=0 then s
 else if OF.aB a>0 then(match s.hi with|some h=>if OF.aB (b*a⁻¹-h)<0 then⟨s.lo,some (b*a⁻¹)⟩else s|none=>⟨s.lo,some (b*a⁻¹)⟩)
 else(match s.lo with|some l=>if OF.aB (b*a⁻¹-l)>0 then⟨some (b*a⁻¹),s.hi⟩else s|none=>⟨some (b*a⁻¹),s.hi⟩)
def aBZ(s:eP K):Bool:=match s.lo,s.hi with
 |some l,some h=>decide (OF.aB (l-h)<0)
 |_,_=>true
def sC(s:eP K)(a b:K):Bool:=if OF.aB a=0 then decide (OF.aB b>=0)else aBZ (qX s a b)
def nB(n:Nat)(x:Option K):Prop:=∀ y,x=some y->Sz n y
theorem aL0{s:eP K}{b d:V3 K}{z:Nat}(hp:bB m p)(hb:aG q b)(hd:aG q d)(eG:nB z s.lo)(ik:nB z s.hi)(hn:1000*(m+q)+100*z+10000<=aA):
  zk prog 136 20 [bZ 6,dp p] [(6,.aI (qW s b d) 142)] [] (.bool (sC s (dot p.n d) (p.d-dot p.n b))) [(6,.aI (qW (qX s (dot p.n d) (p.d-dot p.n b)) b d) 142)]:=by
 have gV:Sz (3*(m+q)+14) (dot p.n d):=hp.1.dot hd;have kD:Sz (m+(3*(m+q)+14)+1) (p.d-dot p.n b):=hp.2.sub (hp.1.dot hb);have d1:=uG hp.1 hd o_;have d2:=uG hp.1 hb o_;have sb:=A3 hp.2 (hp.1.dot hb) o_;have nX:=nA gV o_;have sgb:=nA kD o_;unfold sC qX;generalize p.d-dot p.n b=y at *;generalize dot p.n d=a at *;obtain⟨lo,hi⟩:=s;dsimp only at eG ik ⊢;by_cases nj:a=0
 ·have e:OF.aB a=0:=(OF.e7 a).2 nj;rw[au e,au e];have dv:=aJ1 kD o_;rw[<-nj]at dv;cases lo<;>cases hi<;>exact oK mixed func136 100 (N:=116) k_ (λ_=>[.cq f136 12 6 0 k_,d1.at 15,.cq f136 21 6 0 k_,d2.at 24,sb.at 25,dv.at 29,sgb.at 36]) (λ_=>k_)
 ·have e:OF.aB a≠0:=λh=>nj ((OF.e7 a).1 h);rw[al e,al e];have dv:=Hs nj kD gV o_;have ht:=Sz.div nj kD gV;generalize y*a⁻¹=t at *;by_cases h:OF.aB a>0
  ·rw[au h];rcases lo with _|lo
   ·rcases hi with _|hi
    ·exact oK mixed func136 100 (N:=116) k_ (λ_=>[.cq f136 12 6 0 k_,d1.at 15,.cq f136 21 6 0 k_,d2.at 24,sb.at 25,dv.at 29,nX.at 40,.rw 41 (.bool (decide (OF.aB a>0))) b_ (by rw[aC h]),.cq f136 44 6 0 k_,.cq f136 61 6 0 k_,.cq f136 63 6 0 k_,.cq f136 93 6 0 k_]) (λ_=>k_)
    ·dsimp only;by_cases hc:OF.aB (t-hi)<0
     ·rw[au hc];exact oK mixed func136 100 (N:=116) k_ (λ_=>[.cq f136 12 6 0 k_,d1.at 15,.cq f136 21 6 0 k_,d2.at 24,sb.at 25,dv.at 29,nX.at 40,.rw 41 (.bool (decide (OF.aB a>0))) b_ (by rw[aC h]),.cq f136 44 6 0 k_,.cq f136 51 6 0 k_,(lZ ht (ik _ rfl) o_).at 54,.rw 55 (.bool (decide (OF.aB (t-hi)<0))) b_ (by rw[aC hc]),.cq f136 61 6 0 k_,.cq f136 63 6 0 k_,.cq f136 93 6 0 k_]) (λ_=>k_)
     ·rw[al hc];exact oK mixed func136 100 (N:=116) k_ (λ_=>[.cq f136 12 6 0 k_,d1.at 15,.cq f136 21 6 0 k_,d2.at 24,sb.at 25,dv.at 29,nX.at 40,.rw 41 (.bool (decide (OF.aB a>0))) b_ (by rw[aC h]),.cq f136 44 6 0 k_,.cq f136 51 6 0 k_,(lZ ht (ik _ rfl) o_).at 54,.rw 55 (.bool (decide (OF.aB (t-hi)<0))) a_ (by rw[aO hc]),nX.at 67,.rw 68 (.bool (decide (OF.aB a<0))) a_ (by rw[aO o_]),.cq f136 93 6 0 k_]) (λ_=>k_)
   ·rcases hi with _|hi
    ·exact oK mixed func136 100 (N:=116) k_ (λ_=>[.cq f136 12 6 0 k_,d1.at 15,.cq f136 21 6 0 k_,d2.at 24,sb.at 25,dv.at 29,nX.at 40,.rw 41 (.bool (decide (OF.aB a>0))) b_ (by rw[aC h]),.cq f136 44 6 0 k_,.cq f136 61 6 0 k_,.cq f136 63 6 0 k_,.cq f136 93 6 0 k_,.cq f136 99 6 0 k_,.cq f136 106 6 0 k_,.cq f136 110 6 0 k_,(lZ (eG _ rfl) ht o_).at 113]) (λ_=>k_)
    ·dsimp only;by_cases hc:OF.aB (t-hi)<0
     ·rw[au hc];exact oK mixed func136 100 (N:=116) k_ (λ_=>[.cq f136 12 6 0 k_,d1.at 15,.cq f136 21 6 0 k_,d2.at 24,sb.at 25,dv.at 29,nX.at 40,.rw 41 (.bool (decide (OF.aB a>0))) b_ (by rw[aC h]),.cq f136 44 6 0 k_,.cq f136 51 6 0 k_,(lZ ht (ik _ rfl) o_).at 54,.rw 55 (.bool (decide (OF.aB (t-hi)<0))) b_ (by rw[aC hc]),.cq f136 61 6 0 k_,.cq f136 63 6 0 k_,.cq f136 93 6 0 k_,.cq f136 99 6 0 k_,.cq f136 106 6 0 k_,.cq f136 110 6 0 k_,(lZ (eG _ rfl) ht o_).at 113]) (λ_=>k_)
     ·rw[al hc];exact oK mixed func136 100 (N:=116) k_ (λ_=>[.cq f136 12 6 0 k_,d1.at 15,.cq f136 21 6 0 k_,d2.at 24,sb.at 25,dv.at 29,nX.at 40,.rw 41 (.bool (decide (OF.aB a>0))) b_ (by rw[aC h]),.cq f136 44 6 0 k_,.cq f136 51 6 0 k_,(lZ ht (ik _ rfl) o_).at 54,.rw 55 (.bool (decide (OF.aB (t-hi)<0))) a_ (by rw[aO hc]),nX.at 67,.rw 68 (.bool (decide (OF.aB a<0))) a_ (by rw[aO o_]),.cq f136 93 6 0 k_,.cq f136 99 6 0 k_,.cq f136 106 6 0 k_,.cq f136 110 6 0 k_,(lZ (eG _ rfl) (ik _ rfl) o_).at 113]) (λ_=>k_)
  ·rw[al h];rcases lo with _|lo
   ·rcases hi with _|hi
    ·exact oK mixed func136 100 (N:=116) k_ (λ_=>[.cq f136 12 6 0 k_,d1.at 15,.cq f136 21 6 0 k_,d2.at 24,sb.at 25,dv.at 29,nX.at 40,.rw 41 (.bool (decide (OF.aB a>0))) a_ (by rw[aO h]),nX.at 67,.rw 68 (.bool (decide (OF.aB a<0))) b_ (by rw[aC o_]),.cq f136 71 6 0 k_,.cq f136 88 6 0 k_,.cq f136 90 6 0 k_,.cq f136 93 6 0 k_,.cq f136 99 6 0 k_]) (λ_=>k_)
    ·exact oK mixed func136 100 (N:=116) k_ (λ_=>[.cq f136 12 6 0 k_,d1.at 15,.cq f136 21 6 0 k_,d2.at 24,sb.at 25,dv.at 29,nX.at 40,.rw 41 (.bool (decide (OF.aB a>0))) a_ (by rw[aO h]),nX.at 67,.rw 68 (.bool (decide (OF.aB a<0))) b_ (by rw[aC o_]),.cq f136 71 6 0 k_,.cq f136 88 6 0 k_,.cq f136 90 6 0 k_,.cq f136 93 6 0 k_,.cq f136 99 6 0 k_,.cq f136 106 6 0 k_,.cq f136 110 6 0 k_,(lZ ht (ik _ rfl) o_).at 113]) (λ_=>k_)
   ·rcases hi with _|hi
    ·dsimp only;by_cases hc:OF.aB (t-lo)>0
     ·rw[au hc];exact oK mixed func136 100 (N:=116) k_ (λ_=>[.cq f136 12 6 0 k_,d1.at 15,.cq f136 21 6 0 k_,d2.at 24,sb.at 25,dv.at 29,nX.at 40,.rw 41 (.bool (decide (OF.aB a>0))) a_ (by rw[aO h]),nX.at 67,.rw 68 (.bool (decide (OF.aB a<0))) b_ (by rw[aC o_]),.cq f136 71 6 0 k_,.cq f136 78 6 0 k_,(lZ ht (eG _ rfl) o_).at 81,.rw 82 (.bool (decide (OF.aB (t-lo)>0))) b_ (by rw[aC hc]),.cq f136 88 6 0 k_,.cq f136 90 6 0 k_,.cq f136 93 6 0 k_,.cq f136 99 6 0 k_]) (λ_=>k_)
     ·rw[al hc];exact oK mixed func136 100 (N:=116) k_ (λ_=>[.cq f136 12 6 0 k_,d1.at 15,.cq f136 21 6 0 k_,d2.at 24,sb.at 25,dv.at 29,nX.at 40,.rw 41 (.bool (decide (OF.aB a>0))) a_ (by rw[aO h]),nX.at 67,.rw 68 (.bool (decide (OF.aB a<0))) b_ (by rw[aC o_]),.cq f136 71 6 0 k_,.cq f136 78 6 0 k_,(lZ ht (eG _ rfl) o_).at 81,.rw 82 (.bool (decide (OF.aB (t-lo)>0))) a_ (by rw[aO hc]),.cq f136 93 6 0 k_,.cq f136 99 6 0 k_]) (λ_=>k_)
    ·dsimp only;by_cases hc:OF.aB (t-lo)>0
     ·rw[au hc];exact oK mixed func136 100 (N:=116) k_ (λ_=>[.cq f136 12 6 0 k_,d1.at 15,.cq f136 21 6 0 k_,d2.at 24,sb.at 25,dv.at 29,nX.at 40,.rw 41 (.bool (decide (OF.aB a>0))) a_ (by rw[aO h]),nX.at 67,.rw 68 (.bool (decide (OF.aB a<0))) b_ (by rw[aC o_]),.cq f136 71 6 0 k_,.cq f136 78 6 0 k_,(lZ ht (eG _ rfl) o_).at 81,.rw 82 (.bool (decide (OF.aB (t-lo)>0))) b_ (by rw[aC hc]),.cq f136 88 6 0 k_,.cq f136 90 6 0 k_,.cq f136 93 6 0 k_,.cq f136 99 6 0 k_,.cq f136 106 6 0 k_,.cq f136 110 6 0 k_,(lZ ht (ik _ rfl) o_).at 113]) (λ_=>k_)
     ·rw[al hc];exact oK mixed func136 100 (N:=116) k_ (λ_=>[.cq f136 12 6 0 k_,d1.at 15,.cq f136 21 6 0 k_,d2.at 24,sb.at 25,dv.at 29,nX.at 40,.rw 41 (.bool (decide (OF.aB a>0))) a_ (by rw[aO h]),nX.at 67,.rw 68 (.bool (decide (OF.aB a<0))) b_ (by rw[aC o_]),.cq f136 71 6 0 k_,.cq f136 78 6 0 k_,(lZ ht (eG _ rfl) o_).at 81,.rw 82 (.bool (decide (OF.aB (t-lo)>0))) a_ (by rw[aO hc]),.cq f136 93 6 0 k_,.cq f136 99 6 0 k_,.cq f136 106 6 0 k_,.cq f136 110 6 0 k_,(lZ (eG _ rfl) (ik _ rfl) o_).at 113]) (λ_=>k_)
end
def HL(P:j_)(f:FuncId)(l:List aK)(ty:TypeId)(size n:Nat)(xs:ah)(u:i_):Prop:=
 ∀ w vs,uC w l vs->Calls P f vs.toArray w λe w'=>∃ v,e=.returned (.tuple #[v,u])/\w'.ownsRow w.heap.size ty size v n xs/\Below w.heap.size w w'
section
variable{P:j_}{B:ae}{N:Nat}
theorem aL1(iq:P.follows .mixedOrders=true)(hf:P.funcs[f]?=some fn)(hl:(l.all aK.ok)=true)(n:Nat){N:Nat}(hN:N=(eM 0 l).length+(fn.ntmps-(eM 0 l).length))
  (rs:∀ w,bH P (ae.at w) N) (h:∀ w,ou (gD (P:=P) fn n (eM 0 l) (jr 0 l) (jG 0 l) (rs w)) [(k,.row xs ty size)]=ow (gD fn n (eM 0 l) (jr 0 l) (jG 0 l) (rs w)) (.tuple #[.slice (some ⟨k,0,some 7⟩) m 0,u]) [(k,.row xs ty size)])
  (hx:(xs.all flat)=true) (hlen:xs.length=m*size) (hu:flat u=true):HL P f l ty size m xs u:=by
 intro w vs cx;obtain⟨ι,c,h1,h2,h3,h4,h5,h6,h7⟩:=xm cx (aY.1 hl) 0 _ _ (sZ w) n_ (λ_ _=>rfl);refine uc iq hf hN n (h w) h6 h2 h4 h3 λav bX v' w' hle hc hm dG=>?_;obtain⟨cL,rfl,ht⟩:=hc.tS;have ht:bL (aH av) [.slice (some ⟨k,0,some 7⟩) m 0,u] cL.toList:=ht;cases aN:cL.toList with
 |nil=>rw[aN]at ht;cases ht
 |cons a t=>
  rw[aN]at ht;cases ht with
  |cons q1 q2=>
   cases q2 with
   |cons q3 q4=>
    cases q4;refine⟨a,?_,?_,hm.base⟩
    ·rw[q3.fh hu]at aN
     congr 2
     apply D2;rw[aN]
    ·have:=vk hm (dG (k,_) (aL ..)) q1 o_ (aY.1 hx);rwa[<-hlen,mN]at this
theorem UO{n:Nat}{nd:q_}(h:HL P f l ty size n xs u)(hs:gh B l vs nd)(ho:di o.op=some x)(eK:fW P f=true)(hx:(xs.all flat)=true)(hu:flat u=true)(k:Nat):
  cz P B o (.func (.func f) #[] #[]::vs) ((k,none)::nd) (.tuple #[.slice (some ⟨k,0,some 7⟩) n 0,u]) [(k,.row xs ty size)]:=by
 have:=jP (P:=P) (B:=B) (o:=o) (x:=x) (f:=f) (fi:=[]) (args:=vs) (ca:=[]) (need:=(k,none)::nd) (val:=.tuple #[.slice (some ⟨k,0,some 7⟩) n 0,u]) (cP:=[(k,.row xs ty size)]) ho eK ?_
 ·simpa using this
 ·intro ι c w hm hn args' ha;rw[jy,gY]at ha;refine(h w args' (Bg hs hm (λp hp=>hn p (bw _ hp)) ha)).mono ?_
  rintro e w' ⟨v,rfl,h1,h2⟩
  obtain⟨av,q1,q2,q3⟩:=En hm h2 (k:=k) (hn (k,none) (aL ..)) h1 (aY.1 hx);exact⟨av,_,rfl,q1,.tup (.cons q3 (.cons (.same hu) .nil)),q2⟩
end
section
open V3 (dot aw cI smul)
def dX(p q:HS K):V3 K:=aw p.n q.n
def vL(p q:HS K):V3 K:=smul (smul (aw q.n (dX p q)) p.d+smul (aw (dX p q) p.n) q.d) (kI 1*(dot (dX p q) (dX p q))⁻¹)
def nY(s:eP K)(b d:V3 K):List (HS K)->eP K
 |[]=>s
 |p::l=>nY (qX s (dot p.n d) (p.d-dot p.n b)) b d l
def vM(s:eP K)(b d:V3 K):List (HS K)->Bool
 |[]=>true
 |p::l=>sC s (dot p.n d) (p.d-dot p.n b)&&vM (qX s (dot p.n d) (p.d-dot p.n b)) b d l
theorem aB0{b d:V3 K}{p:HS K}:∀(l:List (HS K)) (s:eP K),nY s b d (l++[p])=qX (nY s b d l) (dot p.n d) (p.d-dot p.n b)
 |[],s=>rfl
 |q::l,s=>aB0 l _
def KC(ps:List (HS K))(p q:HS K):eP K:=nY ⟨none,none⟩ (vL p q) (dX p q) ps
def Fm(ps:List (HS K))(p q:HS K):Option (V3 K×V3 K):=
 if dX p q=0 then none
 else if vM ⟨none,none⟩ (vL p q) (dX p q) ps then(match (KC ps p q).lo,(KC ps p q).hi with
  |some l,some h=>some (vL p q+smul (dX p q) l,vL p q+smul (dX p q) h)
  |_,_=>none)
 else none
theorem UP{q:HS K}(hp:bB m p)(hq:bB m q):aG (4*m+9) (dX p q):=(hp.1.aw hq.1).mono o_
theorem aB1{q:HS K}(hp:bB m p)(hq:bB m q)(h:dX p q≠0)(hd:dot (dX p q) (dX p q)≠0):aG (300*m+1000) (vL p q):=by have hc:=UP hp hq;have h1:=(hq.1.aw hc).smul hp.2;have h2:=(hc.aw hp.1).smul hq.2;have h3:=Sz.div (m:=1) hd (qP (z:=1) d_ d_) (hc.dot hc);exact((h1.add h2).smul h3).mono o_
theorem aL2{s:eP K}{a b:K}{z C:Nat}(eG:nB z s.lo)(ik:nB z s.hi)(ha:Sz A a)(hb:Sz C b)(hz:C+7*A+28<=z):nB z (qX s a b).lo/\nB z (qX s a b).hi:=by
 unfold qX;by_cases h0:OF.aB a=0
 ·rw[au h0];exact⟨eG,ik⟩
 ·rw[al h0];have nj:a≠0:=λe=>h0 ((OF.e7 a).2 e);have ht:Sz z (b*a⁻¹):=(Sz.div nj hb ha).mono hz;have O2:nB z (some (b*a⁻¹)):=λy e=>by injection e with e;subst e;exact ht
  obtain⟨lo,hi⟩:=s;dsimp only at eG ik ⊢;split
  ·split
   ·split
    ·exact⟨eG,O2⟩
    ·exact⟨eG,ik⟩
   ·exact⟨eG,O2⟩
  ·split
   ·split
    ·exact⟨O2,ik⟩
    ·exact⟨eG,ik⟩
   ·exact⟨O2,ik⟩
theorem O3{b d:V3 K}{m q z:Nat}(hb:aG q b)(hd:aG q d)(hz:m+(3*(m+q)+14)+1+7*(3*(m+q)+14)+28<=z):∀(l:List (HS K)) (s:eP K),(∀ p∈l,bB m p)->nB z s.lo->nB z s.hi->nB z (nY s b d l).lo/\nB z (nY s b d l).hi
 |[],s,_,h1,h2=>⟨h1,h2⟩
 |p::l,s,hl,h1,h2=>by have hp:=hl p (aL ..);obtain⟨q1,q2⟩:=aL2 h1 h2 (hp.1.dot hd) (hp.2.sub (hp.1.dot hb)) hz;exact O3 hb hd hz l _ (λr hr=>hl r (bw _ hr)) q1 q2
theorem aL3{s:eP K}{b d:V3 K}{t:K}{z:Nat}(hb:aG q b)(hd:aG q d)(ht:Sz z t)(hn:10*q+10*z+100<=aA):
  zk prog 137 20 ([cd t]++[bZ 7,bZ 3]) [(6,.aI (qW s b d) 142),(7,.aI [bZ 6] 140),(3,.aI (cJ d).cs 42)] [] (bN (b+smul d t)) [(6,.aI (qW s b d) 142),(7,.aI [bZ 6] 140),(3,.aI (cJ d).cs 42)]:=by
 have h1:=vF hd ht o_;have h2:=Fh hb (hd.smul ht) o_;obtain⟨lo,hi⟩:=s;cases lo<;>cases hi<;>exact oK mixed func137 100 (N:=13) k_ (λ_=>[.cq f137 6 6 0 k_,h1.at 11,h2.at 12]) (λ_=>k_)
theorem aB2(x:Option K):∀ v∈UN x,flat v=true:=by
 cases x with
 |none=>exact RN.nw zN
 |some y=>exact RN.nw _
theorem O4(s:eP K)(b d:V3 K):∀ v∈qW s b d,flat v=true:=λv hv=>by
 simp only[qW,eA,b9]at hv;rcases hv with h|h|rfl|rfl|h|h
 ·exact aB2 _ v h
 ·exact aB2 _ v h
 ·rfl
 ·rfl
 ·exact RV.nw _ v h
 ·exact RV.nw _ v h
theorem zq{x:Obj}(h:∀ v∈x.cells,flat v=true):l4 m (k,x)=true:=aY.2 λv hv=>iF (h v hv)
section
variable{Bs:ae}{ps:List (HS K)}
theorem UQ{b d:V3 K}:∀(l:List (HS K)) (s:eP K),vM s b d l=true↔∀(i:Nat) (p:HS K),l[i]?=some p->sC (nY s b d (l.take i)) (dot p.n d) (p.d-dot p.n b)=true
 |[],s=>by simp[vM]
 |q::l,s=>by
  unfold vM;rw[cY,UQ l];constructor
  ·rintro⟨h1,h2⟩ i p hp
   cases i with
   |zero=>simp at hp;subst hp;exact h1
   |succ i=>exact h2 i p (by simpa using hp)
  ·intro h;exact⟨h 0 q rfl,λi p hp=>h (i+1) p (by simpa using hp)⟩
def eI(n i:Nat):aM:=[(54,vI i),(52,sl 0 n),(53,vI n),(0,sl 0 n),(12,bZ 7),(8,bZ 3)]
def eJ(ps:List (HS K))(s:eP K)(b d:V3 K):aE:=[(0,.view (bf ps)),(6,.aI (qW s b d) 142),(7,.aI [bZ 6] 140)]
theorem aL4{s:eP K}{b d:V3 K}:∀ x∈eJ ps s b d,fH 8 x.2:=λx hx=>by
 simp only[eJ,b9,fv,fA]at hx;rcases hx with rfl|rfl|rfl
 ·exact λv hv=>iF (aY.1 (dh ps) v hv)
 ·exact λv hv=>iF (O4 _ _ _ v hv)
 ·exact N7 (p:=(7,.aI [bZ 6] 140)) k_
theorem aL5{s:eP K}{b d:V3 K}{z:Nat}(hp:bB m p)(hb:aG q b)(hd:aG q d)(eG:nB z s.lo)(ik:nB z s.hi)(hn:1000*(m+q)+100*z+10000<=aA)(ho:di o.op=some x):
  cz prog Bs o [.func (.func 136) #[] #[],bZ 6,dp p] [(6,some (.aI (qW s b d) 142))] (.bool (sC s (dot p.n d) (p.d-dot p.n b))) [(6,.aI (qW (qX s (dot p.n d) (p.d-dot p.n b)) b d) 142)]:=
 OT (K:=20) (args:=[bZ 6,dp p]) (ca:=[]) (Os:=[(6,.aI (qW s b d) 142)]) (Vs:=[]) (aL0 hp hb hd eG ik hn) ho k_ k_ k_ (by simp only[gY,eY,fO,iM];rw[zq (x:=.aI (qW s b d) 142) (O4 _ _ _)];rfl)
  (by simp only[eY,fO,iM];exact zq (x:=.aI (qW (qX s (dot p.n d) (p.d-dot p.n b)) b d) 142) (O4 _ _ _)) rfl rfl rfl rfl
noncomputable def eS{s:eP K}{b d:V3 K}{z:Nat}(hi:i<ps.length)(iU:ps[i]?=some p)(hp:bB m p)(hb:aG q b)(hd:aG q d)(eG:nB z s.lo)(ik:nB z s.hi)(hn:1000*(m+q)+100*z+10000<=aA)(ht:sC s (dot p.n d) (p.d-dot p.n b)=t)(more:bH prog Bs 89):bH prog Bs 89:=
 .lt 55 i ps.length true (aC hi)::.df f88 56 0 ps.length i 40 hi k_::.ld f88 57 66 0 (i*40) (.view (bf ps)) (dp p) rfl (vK iU) k_::
  .step 60 (ay f88 60) _ _ (.bool t) _ (ht▸aL5 (x:=.func 136) hp hb hd eG ik hn k_)::more
theorem aL6{s:eP K}{b d:V3 K}{z:Nat}(hi:i<ps.length)(iU:ps[i]?=some p)(hp:bB m p)(hb:aG q b)(hd:aG q d)(eG:nB z s.lo)(ik:nB z s.hi)(hn:1000*(m+q)+100*z+10000<=aA)(h63:ps.length<9223372036854775807)
  (ht:sC s (dot p.n d) (p.d-dot p.n b)=true):af prog Bs 89 (aF (ag f88 0)) (eI ps.length i) (eJ ps s b d) 8 ⟨.normal,eI ps.length (i+1),eJ ps (qX s (dot p.n d) (p.d-dot p.n b)) b d,8⟩:=
 ue mixed 100 (fY:=9) (eS hi iU hp hb hd eG ik hn ht [.sum 62 i 1 (i+1) rfl o_]) k_ rfl k_ aL4 k_
theorem aL7{s:eP K}{b d:V3 K}{z:Nat}(hi:i<ps.length)(iU:ps[i]?=some p)(hp:bB m p)(hb:aG q b)(hd:aG q d)(eG:nB z s.lo)(ik:nB z s.hi)(hn:1000*(m+q)+100*z+10000<=aA)
  (ht:sC s (dot p.n d) (p.d-dot p.n b)=false):af prog Bs 89 (aF (ag f88 0)) (eI ps.length i) (eJ ps s b d) 8 ⟨.ret,[(6,.slice none 0 0),(7,.bool false)],eJ ps (qX s (dot p.n d) (p.d-dot p.n b)) b d,9⟩:=
 az (eS hi iU hp hb hd eG ik hn ht [])
theorem aL8{s:eP K}{b d:V3 K}:af prog Bs 89 (aF (ag f88 0)) (eI ps.length ps.length) (eJ ps s b d) 8 ⟨.exit 0,[(12,bZ 7),(8,bZ 3)],eJ ps s b d,8⟩:=
 az [.lt 55 ps.length ps.length false s_]
theorem aB3{b d:V3 K}(s s':eP K)(k:Nat):ai (eJ ps s b d) k=none↔ai (eJ ps s' b d) k=none:=aAE (L':=eJ ps s b d) (L:=eJ ps s' b d) rfl k
theorem aL9{b d:V3 K}{z:Nat}(bP:∀ p∈ps,bB m p)(hb:aG q b)(hd:aG q d)(hz:m+(3*(m+q)+14)+1+7*(3*(m+q)+14)+28<=z)(hn:1000*(m+q)+100*z+10000<=aA)(h63:ps.length<9223372036854775807):
  (vM ⟨none,none⟩ b d ps=true->af prog Bs 89 (.block 0 (ag f88 0)) (eI ps.length 0) (eJ ps ⟨none,none⟩ b d) 8 ⟨.normal,[(12,bZ 7),(8,bZ 3)],eJ ps (nY ⟨none,none⟩ b d ps) b d,8⟩)/\
  (vM ⟨none,none⟩ b d ps=false->∃ s,af prog Bs 89 (.block 0 (ag f88 0)) (eI ps.length 0) (eJ ps ⟨none,none⟩ b d) 8 ⟨.ret,[(6,.slice none 0 0),(7,.bool false)],eJ ps s b d,9⟩):=by
 have O5:∀ i,nB z (nY ⟨none,none⟩ b d (ps.take i)).lo/\nB z (nY ⟨none,none⟩ b d (ps.take i)).hi:=λi=>O3 hb hd hz (ps.take i) _ (λp hp=>bP p (Fo hp)) n_ n_;have tk:∀{i:Nat} {p:HS K},ps[i]?=some p->ps.take (i+1)=ps.take i++[p]:=λh=>by rw[sA,h];rfl
 let KD:Nat->Bool:=λi=>match ps[i]? with|some p=>sC (nY ⟨none,none⟩ b d (ps.take i)) (dot p.n d) (p.d-dot p.n b)|none=>true
 have O6:∀{i:Nat} {p:HS K},ps[i]?=some p->KD i=sC (nY ⟨none,none⟩ b d (ps.take i)) (dot p.n d) (p.d-dot p.n b):=λh=>by simp only[KD,h]
 have qe:∀ e,e<=ps.length->(∀ i,i<e->KD i=true)->∀ i,i<e->
   af prog Bs 89 (aF (ag f88 0)) (eI ps.length i) (eJ ps (nY ⟨none,none⟩ b d (ps.take i)) b d) 8 ⟨.normal,eI ps.length (i+1),eJ ps (nY ⟨none,none⟩ b d (ps.take (i+1))) b d,8⟩:=λe he ax i hi=>by
  have ao:i<ps.length:=by omega
  have hp:ps[i]?=some ps[i]:=aW ao;have h:=ax i hi;rw[O6 hp]at h;rw[tk hp,aB0];exact aL6 ao hp (bP _ (dK ao)) hb hd (O5 i).1 (O5 i).2 hn h63 h
 refine⟨λaU=>?_,λfJ=>?_⟩
 ·have ax:∀ i,i<ps.length->KD i=true:=λi hi=>by have hp:ps[i]?=some ps[i]:=aW hi;rw[O6 hp];exact(UQ ps _).1 aU i _ hp
  have:=ck (P:=prog) (B:=Bs) (N:=89) ps.length (λi=>eI ps.length i) (λi=>eJ ps (nY ⟨none,none⟩ b d (ps.take i)) b d) (λi k _=>aB3 _ _ k) (qe ps.length (bh _) ax) aL8 n_;rw[mN]at this;exact bO (id:=0) this
 ·rcases Fk (λi=>!KD i) (List.range ps.length)with B9|⟨e,y,h1,h2,h3⟩
  ·exfalso;have:vM ⟨none,none⟩ b d ps=true:=(UQ ps _).2 λi p hp=>by have ao:=(eB.1 hp).1;have:=B9 i (kk.2 ao);rw[O6 hp]at this;simpa using this
   rw[this]at fJ;cases fJ
  ·have ao:e<ps.length:=by have:=(eB.1 h1).1;rwa[Ar]at this
   have hy:y=e:=by rw[KB ao]at h1;injection h1 with h1;exact h1.symm
   subst hy;have hp:ps[y]?=some ps[y]:=aW ao;rw[O6 hp]at h2
   have:=ck (P:=prog) (B:=Bs) (N:=89) y (λi=>eI ps.length i) (λi=>eJ ps (nY ⟨none,none⟩ b d (ps.take i)) b d) (λi k _=>aB3 _ _ k)
    (qe y o_ λi hi=>by have:=h3 i i hi (KB o_);simpa using this) (aL7 ao hp (bP _ (dK ao)) hb hd (O5 y).1 (O5 y).2 hn (by simpa using h2)) n_
   exact⟨_,bO (id:=0) this⟩
end
theorem aB4{s:eP K}{b d:V3 K}{t:K}{z:Nat}(hb:aG q b)(hd:aG q d)(ht:Sz z t)(hn:10*q+10*z+100<=aA)(ho:di o.op=some x):
  cz prog Bs o [.func (.func 137) #[] #[bZ 7,bZ 3],cd t] [(6,some (.aI (qW s b d) 142)),(7,some (.aI [bZ 6] 140)),(3,some (.aI (cJ d).cs 42))] (bN (b+smul d t)) []:=by
 have l6:l4 20 (6,.aI (qW s b d) 142)=true:=zq (x:=.aI (qW s b d) 142) (O4 _ _ _);have l7:l4 20 (7,.aI [bZ 6] 140)=true:=k_;have l3:l4 20 (3,.aI (cJ d).cs 42)=true:=k_
 exact aLF (K:=20) (args:=[cd t]) (ca:=[bZ 7,bZ 3]) (Os:=[(6,.aI (qW s b d) 142),(7,.aI [bZ 6] 140),(3,.aI (cJ d).cs 42)]) (Vs:=[]) (aL3 hb hd ht hn) ho k_ k_ k_
  (by simp only[gY,eY,fO,iM,l6,l7,l3];rfl) (by simp only[eY,fO,iM,l6,l7,l3]) rfl rfl
set_option maxRecDepth 8000 in
theorem aMa{q:HS K}(bP:∀ p∈ps,bB m p)(hp:bB m p)(hq:bB m q)(hm:10000000*(m+10)<=aA)(h63:ps.length<9223372036854775807)(lG:dX p q≠0->dot (dX p q) (dX p q)≠0):
  match Fm ps p q with
  |some (u,v)=>HL prog 88 [fF ps,.p (dp p),.p (dp q)] 42 30 2 (aX [u,v]) b_
  |none=>cg prog 88 [fF ps,.p (dp p),.p (dp q)] (.tuple #[.slice none 0 0,.bool false]):=by
 have ax:([fF ps,.p (dp p),.p (dp q)].all aK.ok)=true:=by simp only[eY,fO,fF,aK.ok,dh,iM,kX];rfl
 have c1:aD prog 85 [bN p.n,bN q.n] (bN (dX p q)):=vG hp.1 hq.1 o_;have hD:=UP hp hq;have z1:=Bq hD o_;unfold Fm;by_cases h0:dX p q=0
 ·rw[au h0];rw[aC h0]at z1;exact dC func88 ax 89 (λ_=>[c1.at 20,z1.at 22])
 ·rw[al h0];rw[aO h0]at z1;have ki:=lG h0;obtain⟨r,hr⟩:∃ r,r=300*m+1000:=⟨_,rfl⟩;obtain⟨z,hz⟩:∃ z,z=30*(m+r)+500:=⟨_,rfl⟩;have hB:aG r (vL p q):=hr▸aB1 hp hq h0 ki;have Fp:aG r (dX p q):=hD.mono o_;have c2:=vG hq.1 hD o_;have s2:=vF (hq.1.aw hD) hp.2 o_;have c3:=vG hD hp.1 o_;have s3:=vF (hD.aw hp.1) hq.2 o_;have a1:=Fh ((hq.1.aw hD).smul hp.2) ((hD.aw hp.1).smul hq.2) o_;have o1:=tw (z:=1) d_;have dd:=uG hD hD o_;have one:Sz 1 (kI 1):=qP d_ d_;have hDD:=hD.dot hD;have dv:=Hs ki one hDD o_;have o5:=Sz.div ki one hDD;have s4:=vF (((hq.1.aw hD).smul hp.2).add ((hD.aw hp.1).smul hq.2)) o5 o_;have lo:=λBs=>aL9 (Bs:=Bs) (ps:=ps) (m:=m) (q:=r) (z:=z) bP hB Fp o_ o_ h63;have zs:=O3 (m:=m) (q:=r) (z:=z) hB Fp o_ ps ⟨none,none⟩ bP n_ n_;unfold KC;have e1:smul (smul (aw q.n (dX p q)) p.d+smul (aw (dX p q) p.n) q.d) (kI 1*(dot (dX p q) (dX p q))⁻¹)=vL p q:=rfl;rw[e1]at s4;generalize vL p q=eb at *;generalize dX p q=ed at *;by_cases hs:vM ⟨none,none⟩ eb ed ps=true
  ·rw[au hs];have Cc:=λBs=>(lo Bs).1 hs;clear lo;obtain⟨zl,zh⟩:=zs;generalize nY ⟨none,none⟩ eb ed ps=sg at *;obtain⟨l,h⟩:=sg;rcases l with _|l
   ·cases h<;>exact dC func88 ax 89 (λw=>[c1.at 20,z1.at 22,c2.at 26,s2.at 29,c3.at 33,s3.at 36,a1.at 37,o1.at 39,dd.at 42,dv.at 43,s4.at 48,.code 0 _ _ _ _ _ (Cc _),.cq f88 64 6 0 k_])
   ·rcases h with _|h
    ·exact dC func88 ax 89 (λw=>[c1.at 20,z1.at 22,c2.at 26,s2.at 29,c3.at 33,s3.at 36,a1.at 37,o1.at 39,dd.at 42,dv.at 43,s4.at 48,.code 0 _ _ _ _ _ (Cc _),.cq f88 64 6 0 k_,.cq f88 70 6 0 k_])
    ·exact aL1 (k:=8) mixed func88 ax 100 (N:=89) k_ (λw=>[c1.at 20,z1.at 22,c2.at 26,s2.at 29,c3.at 33,s3.at 36,a1.at 37,o1.at 39,dd.at 42,dv.at 43,s4.at 48,.code 0 _ _ _ _ _ (Cc _),.cq f88 64 6 0 k_,.cq f88 70 6 0 k_,.cq f88 78 6 0 k_,.step 81 (ay f88 81) _ _ _ _ (aB4 (s:=⟨some l,some h⟩) (x:=.tmp 76) hB Fp (zl l rfl) o_ k_),.cq f88 84 6 0 k_,.step 87 (ay f88 87) _ _ _ _ (aB4 (s:=⟨some l,some h⟩) (x:=.tmp 82) hB Fp (zh h rfl) o_ k_),.bs f88 88 8 2 42 30 [0,1] zV.v [bN (eb+smul ed l),bN (eb+smul ed h)] (aX [eb+smul ed l,eb+smul ed h]).toArray (.row (aX [eb+smul ed l,eb+smul ed h]) 42 30) rfl (aY.1 k_) (aY.1 (eD _)) k_ k_ d_ d_ k_]) (λ_=>k_) (eD _) k_ k_
  ·rw[al hs];have Cc:=λBs=>(lo Bs).2 (by simpa using hs);exact dC func88 ax 89 (λw=>[c1.at 20,z1.at 22,c2.at 26,s2.at 29,c3.at 33,s3.at 36,a1.at 37,o1.at 39,dd.at 42,dv.at 43,s4.at 48,.code 0 _ _ _ _ _ (Cc _).choose_spec])
def zr(p q:Int):K:=(Fr.mk p 0 0 0 q).val
theorem aMb{p q:Int}(hq:q≠0):cd (zr p q)=gZ (Fr.mk p 0 0 0 q).low:=by show(qO (bF (Fr.mk p 0 0 0 q).val)).v=(qO _).v;rw[EV (x:=Fr.mk p 0 0 0 q) hq]
theorem aMc{p q:Int}{n:Nat}(hq:q≠0)(h1:p.natAbs<2^n)(h2:q.natAbs<2^n):Sz n (zr p q):=by unfold Sz zr;rw[EV (x:=Fr.mk p 0 0 0 q) hq];have hp:0<2^n:=cF d_;exact dH.low ⟨h1,hp,hp,hp,h2⟩ hq
def Bw(l:List (V3 K)):V3 K:=l.foldl (·+·) ⟨kI 0,kI 0,kI 0⟩
def Bx(l:List (V3 K)):V3 K:=smul (Bw l) (zr 1 l.length)
theorem aMd(l:List (V3 K))(v:V3 K):Bw (l++[v])=Bw l+v:=by unfold Bw;rw[O7];rfl
theorem aB5(l:List (V3 K))(hl:∀ v∈l,aG m v):aG (1+l.length*(m+1)) (Bw l):=by
 have key:∀(l:List (V3 K)) (u:V3 K) (n:Nat),(∀ v∈l,aG m v)->aG n u->aG (n+l.length*(m+1)) (l.foldl (·+·) u):=by
  intro l;induction l with
  |nil=>intro u n _ h;exact h.mono o_
  |cons v l ih=>
   intro u n hl h;have:=ih (u+v) (n+m+1) (λx hx=>hl x (bw _ hx)) (h.add (hl v (aL ..)));refine this.mono ?_;rw[nL,ug];omega
 exact key l _ 1 hl Kw
def vN(ps:List (HS K))(vs:List (V3 K)):Bool:=!decide (vs.length=0)&&!ps.any λp=>decide (OF.aB (dot p.n (Bx vs)-p.d)>=0)
section
variable{Bs:ae}{ps:List (HS K)}{vs:List (V3 K)}
def KE(n i:Nat):aM:=[(17,vI i),(15,sl 1 n),(16,vI n),(5,bZ 2)]
def tB(vs:List (V3 K))(s:V3 K):aE:=[(1,.view (aX vs)),(2,.aI (cJ s).cs 42)]
theorem aMe{s:V3 K}:∀ x∈tB vs s,fH 3 x.2:=λx hx=>by
 simp only[tB,b9,fv,fA]at hx;rcases hx with rfl|rfl
 ·exact λv hv=>iF (aY.1 (eD vs) v hv)
 ·exact λv hv=>iF (RV.nw _ v hv)
theorem aMf{v s:V3 K}{n:Nat}(hi:i<vs.length)(hv:vs[i]?=some v)(hs:aG n s)(hm:aG m v)(cU:m+n<aA)(h63:vs.length<9223372036854775807):
  af prog Bs 38 (aF (ag Tryz.f47 0)) (KE vs.length i) (tB vs s) 3 ⟨.normal,KE vs.length (i+1),tB vs (s+v),3⟩:=
 ue mixed 100 (fY:=4) [.lt 18 i vs.length true (aC hi),.df Tryz.f47 19 1 vs.length i 30 hi k_,.ld Tryz.f47 20 42 1 (i*30) (.view (aX vs)) (bN v) rfl (nW hv) k_,(Fh hs hm o_).at 23,.sum 24 i 1 (i+1) rfl o_] k_ rfl k_ aMe k_
theorem aMg{s:V3 K}:af prog Bs 38 (aF (ag Tryz.f47 0)) (KE vs.length vs.length) (tB vs s) 3 ⟨.exit 0,[(5,bZ 2)],tB vs s,3⟩:=
 az [.lt 18 vs.length vs.length false s_]
theorem aMh(s s':V3 K)(k:Nat):ai (tB vs s) k=none↔ai (tB vs s') k=none:=aAE (L':=tB vs s) (L:=tB vs s') rfl k
theorem aMi(aN:∀ v∈vs,aG m v)(hm:m+(1+vs.length*(m+1))<aA)(h63:vs.length<9223372036854775807):
  af prog Bs 38 (.block 0 (ag Tryz.f47 0)) (KE vs.length 0) (tB vs ⟨kI 0,kI 0,kI 0⟩) 3 ⟨.normal,[(5,bZ 2)],tB vs (Bw vs),3⟩:=by
 have:=ck (P:=prog) (B:=Bs) (N:=38) vs.length (λi=>KE vs.length i) (λi=>tB vs (Bw (vs.take i))) (λi k _=>aMh _ _ k) (λi hi=>by have hv:vs[i]?=some vs[i]:=aW hi;have hs:=aB5 (m:=m) (vs.take i) λv hv=>aN v (Fo hv);have hle:(vs.take i).length*(m+1)<=vs.length*(m+1):=eZ _ (by rw[jn];omega);rw[sA,hv];show af _ _ _ _ _ _ _ ⟨_,_,tB vs (Bw (vs.take i++[vs[i]])),_⟩;rw[aMd];exact aMf hi hv hs (aN _ (dK hi)) o_ h63) (by rw[mN];exact aMg) n_
 exact bO (id:=0) this
theorem aMj(bP:∀ p∈ps,bB m p/\p.n≠0)(aN:∀ v∈vs,aG q v)(hm:100*(m+vs.length*(q+1))+10000<=aA)(h63:vs.length<2^40)(aMk:ps.length<9223372036854775807):cg prog 47 [fF ps,uH vs] (.bool (vN ps vs)):=by
 have ax:([fF ps,uH vs].all aK.ok)=true:=by simp only[eY,fO,fF,uH,aK.ok,dh,eD,iM]
 unfold vN;by_cases h0:vs.length=0
 ·rw[aC h0];exact dC func47 ax 38 (λw=>[.gm 13 vs.length 0 true (by simp[h0])])
 ·rw[aO h0];have AQ:q+1<=vs.length*(q+1):=UR _ o_;have lo:=λBs=>aMi (Bs:=Bs) aN o_ o_;have bd:(vs.length:Int)≠0:=by omega
  have rt:=aJR (p:=1) (q:=(vs.length:Int)) (n:=40) bd d_ (by simpa using h63) d_;rw[<-aMb bd]at rt;have hr:=aMc (p:=1) (q:=(vs.length:Int)) (n:=40) bd d_ (by simpa using h63);have hs:=aB5 vs aN;have sc:=vF hs hr o_;have Db:aG (1+vs.length*(q+1)+40+4) (Bx vs):=hs.smul hr;have hc:=UK (g:=95) (caps:=(cJ (Bx vs)).cs) (ps:=ps) (b:=λp=>decide (OF.aB (dot p.n (Bx vs)-p.d)>=0)) k_ (aY.2 (RV.nw _)) aMk λp hp=>aLN (bP p hp).1 Db o_ (bP p hp).2;have e:smul (Bw vs) (zr 1 (vs.length:Int))=Bx vs:=rfl;rw[e]at sc;generalize (ps.any λp=>decide (OF.aB (dot p.n (Bx vs)-p.d)>=0))=t at *;generalize Bx vs=mv at *;exact dC func47 ax 38 (λw=>[.gm 13 vs.length 0 false (by simp[h0]),(xx (a:=0) (b:=0) (c:=0) d_ d_ d_).at 14,.code 0 _ _ _ _ _ (lo _),rt.at 28,sc.at 33,.cR Tryz.f47 36 [sl 0 ps.length,.func (.func 95) #[] #[bZ 4]] hc (.w (x:=.view (bf ps)) rfl (dh ps) jk (.f (x:=.aI (cJ mv).cs 42) rfl (aY.2 (RV.nw _)) .nil))])
end
def qY(ps:List (HS K))(p q:HS K):List (V3 K):=match Fm ps p q with|some (u,v)=>[u,v]|none=>[]
def lf(ps:List (HS K))(p:HS K)(l:List (HS K)):List (V3 K):=l.flatMap (qY ps p)
theorem aMl{q:HS K}(l:List (HS K)):lf ps p (l++[q])=lf ps p l++qY ps p q:=by unfold lf;rw[Kz];simp
theorem aMm(ps:List (HS K))(p q:HS K):(qY ps p q).length<=2:=by
 unfold qY;split
 ·exact bh _
 ·exact kB _
theorem US(ps:List (HS K))(p:HS K):∀ l:List (HS K),(lf ps p l).length<=2*l.length
 |[]=>kB _
 |q::l=>by have h1:=US ps p l;have h2:=aMm ps p q;show(qY ps p q++lf ps p l).length<=_;rw[jM,nL];omega
theorem tC(l:List (V3 K)):(aX l).length=l.length*30:=by unfold aX;rw[sk gp,fk]
theorem UT(l m:List (V3 K)):aX l++aX m=aX (l++m):=by unfold aX cO;rw[wj,Ky]
theorem KF(l:List (V3 K)):∀ v∈aX l,v.oneCell'=true:=λv hv=>by unfold aX cO ct at hv;rw[Bt]at hv;obtain⟨x,_,hx⟩:=hv;exact gp.one x v hx
section
variable{Bs:ae}{ps:List (HS K)}
def KG(n i j L:Nat):aM:=[(21,vI j),(19,sl 0 i),(20,vI i),(0,sl 0 n),(5,bZ 2),(3,sl 3 L)]
def zt(ps:List (HS K))(p:HS K):aE:=[(0,.view (bf ps)),(2,.aI (cV p).cs 66)]
def qZ(acc:List (V3 K)):List Obj:=[.row (aX acc) 42 30]
theorem aMn{q:HS K}(hj:j<i)(mQ:i<=ps.length)(hq:ps[j]?=some q)(bP:∀ p∈ps,bB m p)(hp:bB m p)(hm:10000000*(m+10)<=aA)(h63:ps.length<1000)(UU:acc.length<=1000000)(lG:dX p q≠0->dot (dX p q) (dX p q)≠0):
  ∃ σ fY,(∀ Bz:List (V3 K),vp (zt ps p++dj [some 1] (qZ Bz)) 3 σ (KG ps.length i (j+1) (acc++qY ps p q).length) (zt ps p) (qZ (acc++qY ps p q))=true)/\
   af prog Bs 42 (aF (ag Tryz.f46 2)) (KG ps.length i j acc.length) (zt ps p++marks 3 (qZ acc)) 4 ⟨.normal,fm 3 σ (KG ps.length i (j+1) (acc++qY ps p q).length),zt ps p++dj σ (qZ (acc++qY ps p q)),fY⟩:=by
 have he:=aMa bP hp (bP q (cN hq)) hm o_ lG;unfold qY;cases hk:Fm ps p q with
 |none=>
  rw[hk]at he;dsimp only at he ⊢;rw[gY];refine⟨[some 3],5,λBz=>k_,?_⟩;exact az [.lt 22 j i true (aC hj),.df Tryz.f46 23 0 i j 40 hj k_,.ld Tryz.f46 24 66 0 (j*40) (.view (bf ps)) (dp q) rfl (vK hq) k_,.cR Tryz.f46 29 [sl 0 ps.length,dp p,dp q] he (.w (x:=.view (bf ps)) rfl (dh ps) jk (.p k_ (.p k_ .nil))),.sum 36 j 1 (j+1) rfl o_]
 |some uv=>
  obtain⟨u,v⟩:=uv;rw[hk]at he;dsimp only at he ⊢;have hl:(acc++[u,v]).length=acc.length+2:=by simp
  rw[hl];refine⟨[some 6],7,λBz=>k_,?_⟩;exact az [.lt 22 j i true (aC hj),.df Tryz.f46 23 0 i j 40 hj k_,.ld Tryz.f46 24 66 0 (j*40) (.view (bf ps)) (dp q) rfl (vK hq) k_,.step 29 (ay Tryz.f46 29) [.func (.func 88) #[] #[],sl 0 ps.length,dp p,dp q] [(5,none),(0,some (.view (bf ps)))] (.tuple #[sl 5 2,.bool true]) [(5,.row (aX [u,v]) 42 30)]
    (UO he (.w (x:=.view (bf ps)) rfl (dh ps) jk (.p k_ (.p k_ .nil))) (x:=.func 88) k_ k_ (eD _) k_ 5),
   .pP Tryz.f46 35 6 3 acc.length 2 (acc.length+2) 42 30 360 (aX acc) 5 (.row (aX [u,v]) 42 30) (aX (acc++[u,v])) rfl rfl (tC _) (tC _) (UT _ _) (KF _) d_ (by simp[maxLen];omega) o_ k_,
   .sum 36 j 1 (j+1) rfl o_]
theorem aMo:∀ x∈zt ps p,fH 3 x.2:=λx hx=>by
 simp only[zt,b9,fv,fA]at hx;rcases hx with rfl|rfl
 ·exact λv hv=>iF (aY.1 (dh ps) v hv)
 ·exact λv hv=>iF (iL.flat _ v hv)
theorem aB6:∀ x∈qZ acc,fH m x:=λx hx=>by simp only[qZ,b9,fv,fA]at hx;subst hx;exact λv hv=>iF (aY.1 (eD acc) v hv)
theorem aMp(mQ:i<=ps.length)(bP:∀ p∈ps,bB m p)(hp:bB m p)(hm:10000000*(m+10)<=aA)(h63:ps.length<=500)(UU:acc.length+2*i<=1000000)
  (lG:∀ p q:HS K,dX p q≠0->dot (dX p q) (dX p q)≠0) :
  af prog Bs 42 (.block 2 (ag Tryz.f46 2)) (fm 3 [some 1] (KG ps.length i 0 acc.length)) (zt ps p++dj [some 1] (qZ acc)) 3
   ⟨.normal,[(3,sl 3 (acc++lf ps p (ps.take i)).length)],zt ps p++marks 3 (qZ (acc++lf ps p (ps.take i))),4⟩:=by
 have hlen:∀ j,j<=i->(acc++lf ps p (ps.take j)).length<=1000000:=λj hj=>by have:=US ps p (ps.take j);rw[jn]at this;rw[jM];omega
 have:=rT (P:=prog) (B:=Bs) (N:=42) (b:=aF (ag Tryz.f46 2)) (next:=3) (p:=1) (r:=⟨.exit 2,[(3,sl 3 (acc++lf ps p (ps.take i)).length)],zt ps p++marks 3 (qZ (acc++lf ps p (ps.take i))),4⟩) i
  (λj=>KG ps.length i j (acc++lf ps p (ps.take j)).length) (λ_=>zt ps p) (λj=>qZ (acc++lf ps p (ps.take j))) [some 1] (λ_ _=>rfl) (λj _=>⟨aMo,aB6⟩) k_ k_
  (λj hj=>by
   have hq:ps[j]?=some ps[j]:=aW o_;have e:acc++lf ps p (ps.take (j+1))=(acc++lf ps p (ps.take j))++qY ps p ps[j]:=by
    rw[sA,hq,B8]
    congr 1
    exact aMl _
   obtain⟨σ,fY,h1,h2⟩:=aMn (Bs:=Bs) (acc:=acc++lf ps p (ps.take j)) hj mQ hq bP hp hm o_ (hlen j o_) (lG p ps[j]);rw[e];exact⟨σ,fY,h1 _,h2⟩)
  (by generalize acc++lf ps p (ps.take i)=a;exact az [.lt 22 i i false s_]) n_
 have e0:acc++lf ps p (ps.take 0)=acc:=by simp[lf]
 rw[e0]at this;exact bO (id:=2) this
def KH(ps:List (HS K))(i:Nat):List (V3 K):=match ps[i]? with|some p=>lf ps p (ps.take i)|none=>[]
def mR(ps:List (HS K))(n:Nat):List (V3 K):=(List.range n).flatMap (KH ps)
theorem O8(h:ps[i]?=some p):KH ps i=lf ps p (ps.take i):=by unfold KH;rw[h]
theorem aB7(n:Nat):mR ps (n+1)=mR ps n++KH ps n:=by unfold mR;rw[JZ,Kz];simp
theorem O9:∀ n,n<=ps.length->(mR ps n).length<=n*(2*ps.length)
 |0,_=>by simp[mR]
 |n+1,h=>by have h1:=O9 n o_;have hp:ps[n]?=some ps[n]:=aW o_;have h2:=US ps ps[n] (ps.take n);rw[jn]at h2;rw[aB7,O8 hp,jM,ug];omega
def Pa(n i L:Nat):aM:=[(12,vI i),(10,sl 0 n),(11,vI n),(0,sl 0 n),(3,sl 1 L)]
def Dc(ps:List (HS K)):aE:=[(0,.view (bf ps))]
theorem aMq:∀ x∈Dc ps,fH m x.2:=λx hx=>by simp only[Dc,b9,fv,fA]at hx;subst hx;exact λv hv=>iF (aY.1 (dh ps) v hv)
theorem aMr(hi:i<ps.length)(iU:ps[i]?=some p)(bP:∀ p∈ps,bB m p)(hm:10000000*(m+10)<=aA)(h63:ps.length<=500)(UU:acc.length+2*i<=1000000)
  (lG:∀ p q:HS K,dX p q≠0->dot (dX p q) (dX p q)≠0) :
  af prog Bs 42 (aF (ag Tryz.f46 0)) (Pa ps.length i acc.length) (Dc ps++marks 1 (qZ acc)) 2
   ⟨.normal,fm 1 [some 3] (Pa ps.length (i+1) (acc++lf ps p (ps.take i)).length),Dc ps++dj [some 3] (qZ (acc++lf ps p (ps.take i))),4⟩:=by
 have lo:=aMp (Bs:=Bs) (acc:=acc) (p:=p) (show i<=ps.length by omega) bP (bP p (cN iU)) hm h63 UU lG;generalize acc++lf ps p (ps.take i)=a at *;exact az [.lt 13 i ps.length true (aC hi),.df Tryz.f46 15 0 ps.length i 40 hi k_,.ld Tryz.f46 16 66 0 (i*40) (.view (bf ps)) (dp p) rfl (vK iU) k_,.upto Tryz.f46 19 0 ps.length i 40 o_ k_,.code 2 _ _ _ _ _ lo,.sum 37 i 1 (i+1) rfl o_]
theorem aMs(bP:∀ p∈ps,bB m p)(hm:10000000*(m+10)<=aA)(h63:ps.length<=500)(lG:∀ p q:HS K,dX p q≠0->dot (dX p q) (dX p q)≠0):
  af prog Bs 42 (.block 0 (ag Tryz.f46 0)) (fm 1 [none] (Pa ps.length 0 0)) (Dc ps++dj [none] (qZ [])) 1 ⟨.normal,[(3,sl 1 (mR ps ps.length).length)],Dc ps++marks 1 (qZ (mR ps ps.length)),2⟩:=by
 have:=rT (P:=prog) (B:=Bs) (N:=42) (b:=aF (ag Tryz.f46 0)) (next:=1) (p:=1) (r:=⟨.exit 0,[(3,sl 1 (mR ps ps.length).length)],Dc ps++marks 1 (qZ (mR ps ps.length)),2⟩) ps.length
  (λi=>Pa ps.length i (mR ps i).length) (λ_=>Dc ps) (λi=>qZ (mR ps i)) [none] (λ_ _=>rfl) (λj _=>⟨aMq,aB6⟩) k_ k_
  (λi hi=>by have hp:ps[i]?=some ps[i]:=aW hi;have hl:=O9 i (by omega:i<=ps.length);have ll:i*(2*ps.length)<=500*1000:=Cr o_ o_;refine⟨[some 3],4,k_,?_⟩;rw[aB7,O8 hp];exact aMr hi hp bP hm h63 o_ lG)
  (by generalize mR ps ps.length=a;exact az [.lt 13 ps.length ps.length false s_]) n_
 exact bO (id:=0) this
end
end
section
open Go Go.RowKit
deriving instance DecidableEq for RI
deriving instance DecidableEq for RN
deriving instance DecidableEq for RV
deriving instance DecidableEq for RP
theorem Dd{α:Type}[DecidableEq α]:∀(a b:List α),a.length=b.length->a=b\/∃(e:Nat) (x y:α),a[e]?=some x/\b[e]?=some y/\x≠y/\∀(j:Nat) (u v:α),j<e->a[j]?=some u->b[j]?=some v->u=v
 |[],[],_=>.inl rfl
 |[],_::_,h=>by cases h
 |_::_,[],h=>by cases h
 |x::a,y::b,h=>by
  by_cases km:x=y
  ·subst km;rcases Dd a b (by simpa using h)with h|⟨e,u,v,h1,h2,h3,h4⟩
   ·exact .inl (by rw[h])
   ·refine .inr ⟨e+1,u,v,by simpa using h1,by simpa using h2,h3,λj p q hj hp hq=>?_⟩;cases j with
    |zero=>simp at hp hq;rw[<-hp,<-hq]
    |succ j=>exact h4 j p q o_ (by simpa using hp) (by simpa using hq)
  ·exact .inr ⟨0,x,y,rfl,rfl,km,λj u v hj=>by omega⟩
section
variable{Bs:ae}{a b:List RV}
def De(n i:Nat):aM:=[(13,vI i),(11,sl 0 n),(12,vI n),(0,sl 0 n),(1,sl 1 n)]
def vO(a b:List RV):aE:=[(0,.view (cO a)),(1,.view (cO b))]
noncomputable def aB8{n:Nat}{x y:RV}(hi:i<n)(hx:a[i]?=some x)(hy:b[i]?=some y)(nC:x.Sm)(xA:y.Sm)(ht:(!t)=true↔x=y)(more:bH prog Bs 26):bH prog Bs 26:=
 .lt 14 i n true (aC hi)::.df Tryz.f57 18 0 n i 30 hi k_::.ld Tryz.f57 19 42 0 (i*30) (.view (cO a)) x.v rfl (sn hx) k_::.df Tryz.f57 22 1 n i 30 hi k_::.ld Tryz.f57 23 42 1 (i*30) (.view (cO b)) y.v rfl (sn hy) k_::
  .step 24 (ay Tryz.f57 24) [x.v,y.v] [] (.bool t) [] (EZ (neg:=false) k_ x y nC xA ht)::more
theorem aB9{n:Nat}{x:RV}(hi:i<n)(hx:a[i]?=some x)(hy:b[i]?=some x)(nC:x.Sm)(h63:n<9223372036854775807):
  af prog Bs 26 (aF (ag Tryz.f57 0)) (De n i) (vO a b) 2 ⟨.normal,De n (i+1),vO a b,2⟩:=
 az (aB8 (t:=false) hi hx hy nC nC s_ [.sum 25 i 1 (i+1) rfl o_])
theorem aMt{n:Nat}{x y:RV}(hi:i<n)(hx:a[i]?=some x)(hy:b[i]?=some y)(nC:x.Sm)(xA:y.Sm)(bd:x≠y):
  af prog Bs 26 (aF (ag Tryz.f57 0)) (De n i) (vO a b) 2 ⟨.ret,[(4,.bool false)],vO a b,2⟩:=
 az (aB8 (t:=true) hi hx hy nC xA (by simp[bd]) [])
theorem aMu{n:Nat}:af prog Bs 26 (aF (ag Tryz.f57 0)) (De n n) (vO a b) 2 ⟨.exit 0,[],vO a b,2⟩:=
 az [.lt 14 n n false s_]
theorem aMv(ha:∀ x∈a,x.Sm)(hb:∀ x∈b,x.Sm)(h63:a.length<9223372036854775807):cg prog 57 [.r a.length (cO a),.r b.length (cO b)] (.bool (decide (a=b))):=by
 have ax:([aK.r a.length (cO a),.r b.length (cO b)].all aK.ok)=true:=by simp only[eY,fO,aK.ok,gA gp,iM]
 by_cases hl:a.length=b.length
 ·have bd:(Value.bool (!((a.length:Int)==(b.length:Int))))=.bool false:=by rw[hl];simp
  rcases Dd a b hl with h|⟨e,x,y,h1,h2,h3,h4⟩
  ·rw[aC h];subst h;have lo:∀ B:ae,af prog B 26 (.block 0 (ag Tryz.f57 0)) (De a.length 0) (vO a a) 2 ⟨.normal,[],vO a a,2⟩:=λB=>
    bO (id:=0) (ck a.length (λi=>De a.length i) (λ_=>vO a a) (λi k _=>Iff.rfl) (λi hi=>by have hx:a[i]?=some a[i]:=aW hi;exact aB9 hi hx hx (ha _ (dK hi)) h63) aMu n_)
   exact dC func57 ax 26 (λw=>[.rw 10 _ _ bd,.code 0 _ _ _ _ _ (lo _)])
  ·have bW:a≠b:=λh=>by subst h;rw[h1]at h2;injection h2 with h2;exact h3 h2
   rw[aO bW];have ao:=(eB.1 h1).1;have lo:∀ B:ae,af prog B 26 (.block 0 (ag Tryz.f57 0)) (De a.length 0) (vO a b) 2 ⟨.ret,[(4,.bool false)],vO a b,2⟩:=λB=>
    bO (id:=0) (ck e (λi=>De a.length i) (λ_=>vO a b) (λi k _=>Iff.rfl) (λi hi=>by have hx:a[i]?=some a[i]:=aW o_;have hy:b[i]?=some b[i]:=aW o_;have:=h4 i _ _ hi hx hy;rw[<-this]at hy;exact aB9 o_ hx hy (ha _ (dK _)) h63) (aMt ao h1 h2 (ha _ (cN h1)) (hb _ (cN h2)) h3) n_)
   have Bf:([aK.r a.length (cO a),.r a.length (cO b)].all aK.ok)=true:=by simp only[eY,fO,aK.ok,gA gp,iM]
   rw[<-hl]at bd ⊢;exact dC func57 Bf 26 (λw=>[.rw 10 _ _ bd,.code 0 _ _ _ _ _ (lo _)])
 ·have bW:a≠b:=λh=>hl (by rw[h]);rw[aO bW];exact dC func57 ax 26 (λw=>[.rw 10 (.bool (!((a.length:Int)==(b.length:Int)))) b_ (by congr 1;simp;omega)])
end
end
section
variable{P:j_}{B:ae}{N:Nat}
theorem aCa{ι:Map}{off:Nat}:∀{l l':ah},bL (aH ι) l l'->∀(k:Nat) {cs bY:p_},bL (aH ι) cs.toList bY.toList->
  bL (aH ι) ((l.zipIdx k).foldl (λ(cs:p_) p=>cs.setIfInBounds (off+p.2) p.1) cs).toList ((l'.zipIdx k).foldl (λ(cs:p_) p=>cs.setIfInBounds (off+p.2) p.1) bY).toList
 |_,_,.nil,k,cs,bY,h=>h
 |_,_,.cons (a:=a) (b:=b) bW ht,k,cs,bY,h=>by simp only[List.zipIdx_cons,vi];refine aCa ht (k+1) ?_;simp only[aGR];exact h.set bW _
theorem Pb{ι:Map}{place:Nat->Option (Nat×Nat)}:∀(idx:l_) {vs cL:ah} {cs bY r:p_},bL (aH ι) vs cL->bL (aH ι) cs.toList bY.toList->Instr.fill place cs (idx.zip vs)=some r->
  ∃ r',Instr.fill place bY (idx.zip cL)=some r'/\bL (aH ι) r.toList r'.toList
 |[],vs,cL,cs,bY,r,_,hc,h=>by simp only[List.zip_nil_left,Instr.fill]at h ⊢;injection h with h;subst h;exact⟨bY,rfl,hc⟩
 |i::idx,_,_,cs,bY,r,.nil,hc,h=>by simp only[List.zip_nil_right,Instr.fill]at h ⊢;injection h with h;subst h;exact⟨bY,rfl,hc⟩
 |i::idx,_,_,cs,bY,r,.cons (a:=v) (b:=v') hv ht,hc,h=>by
  simp only[List.zip_cons_cons,Instr.fill]at h ⊢;split at h
  ·cases h
  ·rename_i off size hp;have jb:=hv.cells;have bE:v'.cells.size=v.cells.size:=by have:=jb.length;simpa using this.symm
   have fo:bY.size=cs.size:=by have:=hc.length;simpa using this.symm
   split at h
   ·cases h
   ·rename_i pD;rw[bE,fo,al pD];refine Pb idx ht ?_ h;have:=aCa (off:=off) jb 0 hc;rw[<-aAO,<-aAO,Array.toList_zipIdx,Array.toList_zipIdx];exact this
def aCb(o:Oper):Option (TypeId×List Nat):=match o.op with
 |.build t parts=>some (t,parts.toList.map (·.1))
 |_=>none
theorem Pc{t:TypeId}{idx:l_}(ho:aCb o=some (t,idx)){cells:p_}(hz:∀ it z,P.info? t=some it->it.zero=some z->∀ v∈z.cells.toList,flat v=true)(h:P.built t (idx.zip vs)=some cells):
  cz P B o vs [] (.agg cells) []:=by
 unfold aCb at ho;split at ho
 ·rename_i t' parts bM;injection ho with ho;injection ho with h1 h2;subst h1;subst h2;refine gT.step λι c ρ w aN hm hn=>?_;rw[bM]at aN;have aN:bL (aH ι) vs ((parts.toList.map (·.2)).map ρ):=by simpa[Op.operands]using aN
  have hex:∃ cells',P.built t' ((parts.toList.map (·.1)).zip ((parts.toList.map (·.2)).map ρ))=some cells'/\bL (aH ι) cells.toList cells'.toList:=by
   unfold Program.built at h ⊢;split at h
   ·rename_i it n e hi hu;split at h
    ·rename_i z ie HM KI;exact Pb _ aN (ky (hz it z hi HM)) h
    ·cases h
   ·rename_i it fields hi hu;split at h
    ·rename_i z places HM KI;exact Pb _ aN (ky (hz it z hi HM)) h
    ·cases h
   ·cases h
  obtain⟨cells',e1,e2⟩:=hex;refine⟨ι,.agg cells',w,Map.le.refl _,?_,hm,.inl ?_⟩
  ·have:=aH.agg (ι:=ι) e2;simpa using this
  ·have bP:(parts.map λ(i,x)=>(i,ρ x)).toList=(parts.toList.map (·.1)).zip ((parts.toList.map (·.2)).map ρ):=by rw[<-MY parts.toList rfl];simp
   have:=run_build (P:=P) w t' (parts.map λ(i,x)=>(i,ρ x)) cells' (by rw[bP];exact e1);simp only[execOp,bM];simp[this]
 ·cases ho
end
def iB:Value->Option Nat
 |.slice (some a) _ _=>some a.block
 |_=>none
def xB(w w':h_)(b:Nat):Prop:=∀ cs ty f,w.heap[b]?=some (Go.Obj.cells cs ty f)->w'.heap[b]?=some (Go.Obj.cells cs ty f)
theorem UW{o:Nat}(h:xB w w' b)(hc:w.cell? ⟨b,o,none⟩=some u):w'.cell? ⟨b,o,none⟩=some u:=by
 unfold World.cell? at hc ⊢;dsimp only at hc ⊢;split at hc
 ·rename_i cs ty f he;rw[h _ _ _ he];exact hc
 ·cases hc
theorem c8.kept{v:i_}{n:Nat}(h:c8 w v n xs)(hs:w.heap.size<=w'.heap.size)(hk:∀ b,iB v=some b->xB w w' b):c8 w' v n xs:=by
 rcases h with h|⟨b,o,c,h1,h2,h3,h4⟩
 ·exact .inl h
 ·exact .inr ⟨b,o,c,h1,h2,cC h3 hs,λj u hj=>UW (hk b (by rw[h1];rfl)) (h4 j u hj)⟩
theorem c8.lt{v:i_}{n:Nat}(h:c8 w v n xs)(hb:iB v=some b):b<w.heap.size:=by
 rcases h with ⟨h,_⟩|⟨b',o,c,h1,h2,h3,h4⟩
 ·rw[h]at hb;cases hb
 ·rw[h1]at hb;injection hb with hb;subst hb;exact h3
def ak(l:l_):ah:=l.map vI
def iV(z:Int):Value:=.int .i64 z
def eQ(l:List Int):ah:=l.map iV
inductive nZ(w:h_):f_->ah->Prop
 |nil:nZ w [] []
 |cons {i:Int} {l:List Int} {u:i_} {fs:f_} {cs:ah}:c8 w u l.length (eQ l)->flat u=true->nZ w fs cs->nZ w ((i,l)::fs) (iV i::u::cs)
theorem nZ.length{cs:ah}(h:nZ w fs cs):cs.length=fs.length*2:=by
 induction h with
 |nil=>rfl
 |cons _ _ _ ih=>simp only[nL,ih];omega
theorem nZ.kept{cs:ah}(h:nZ w fs cs)(hs:w.heap.size<=w'.heap.size)(hk:∀ u∈cs,∀ b,iB u=some b->xB w w' b):nZ w' fs cs:=by
 induction h with
 |nil=>exact .nil
 |cons h1 h2 _ ih=>exact .cons (h1.kept hs (hk _ (bw _ (aL ..)))) h2 (ih λu hu=>hk u (bw _ (bw _ hu)))
theorem nZ.lt{cs:ah}(h:nZ w fs cs):∀ u∈cs,∀ b,iB u=some b->b<w.heap.size:=by
 induction h with
 |nil=>intro u hu;cases hu
 |cons h1 _ _ ih=>
  intro u hu b hb;rcases b9.1 hu with rfl|hu
  ·cases hb
  ·rcases b9.1 hu with rfl|hu
   ·exact h1.lt hb
   ·exact ih u hu b hb
def KJ(w:h_)(v:i_)(fs:f_):Prop:=∃ cs,c8 w v fs.length cs/\nZ w fs cs
def Pd(n:Nat)(v:i_)(w:h_)(k:Nat):Prop:=
 iB v=some k\/∃ b o c j u,v=.slice (some ⟨b,o,none⟩) n c/\j<n*2/\w.cell? ⟨b,o+j,none⟩=some u/\iB u=some k
theorem Pe{v:i_}{cs:ah}(h1:c8 w v fs.length cs)(h2:nZ w fs cs){o c:Nat}(hv:v=.slice (some ⟨b,o,none⟩) fs.length c)(hj:j<fs.length*2)(hu:w.cell? ⟨b,o+j,none⟩=some u):u∈cs:=by
 rcases h1 with ⟨h,_⟩|⟨b',o',c',e,_,_,h4⟩
 ·rw[h]at hv;cases hv
 ·rw[e]at hv;injection hv with hv _ _;injection hv with hv;injection hv with e1 e2 _;subst e1;subst e2;have ao:j<cs.length:=by rw[h2.length];exact hj
  have pd:cs[j]?=some cs[j]:=aW ao;have:=h4 j _ pd;rw[hu]at this;injection this with this;rw[this];exact dK ao
theorem aCc{v:i_}(h:KJ w v fs)(hs:w.heap.size<=w'.heap.size)(hk:∀ k,Pd fs.length v w k->xB w w' k):
  KJ w' v fs/\∀ k,Pd fs.length v w' k->Pd fs.length v w k:=by
 obtain⟨cs,h1,h2⟩:=h;have HN:∀ b,iB v=some b->xB w w' b:=λb hb=>hk b (.inl hb);have Pf:∀ u∈cs,∀ b,iB u=some b->xB w w' b:=λu hu b hb=>by
  rcases h1 with ⟨_,_,h⟩|⟨b',o',c',e,_,_,h4⟩
  ·rw[h]at hu;cases hu
  ·obtain⟨j,hj,rfl⟩:=kN hu;refine hk b (.inr ⟨b',o',c',j,_,e,by rw[<-h2.length];exact hj,h4 j _ (aW hj),hb⟩)
 refine⟨⟨cs,h1.kept hs HN,h2.kept hs Pf⟩,λk hF=>?_⟩;rcases hF with hF|⟨b,o,c,j,u,e,hj,hc,hb⟩
 ·exact .inl hF
 ·have:=Pe (h1.kept hs HN) (h2.kept hs Pf) e hj hc;rcases h1 with ⟨h,_⟩|⟨b',o',c',e',_,_,h4⟩
  ·rw[h]at e;cases e
  ·rw[e']at e;injection e with e1 _ e3;injection e1 with e1;injection e1 with e1 e2 _;subst e1;subst e2;subst e3;have ao:j<cs.length:=by rw[h2.length];exact hj
   have h5:=h4 j _ (aW ao);have h6:=UW (HN b' (by rw[e'];rfl)) h5;rw[hc]at h6;injection h6 with h6;exact .inr ⟨b',o',c',j,u,e',hj,by rw[h6];exact h5,hb⟩
def n9(fs:f_):Fact where
 G v w:=KJ w v fs
 cM v w k:=Pd fs.length v w k
 lt v w k h hF:=by
  obtain⟨cs,h1,h2⟩:=h;rcases hF with hF|⟨b,o,c,j,u,e,hj,hc,hb⟩
  ·exact h1.lt hF
  ·exact h2.lt u (Pe h1 h2 e hj hc) k hb
 dep v w w' h hs hk:=aCc h hs λk hF cs ty f hc=>(hk k hF).trans hc
 soft _ v w w' h hs hk:=aCc h hs hk
theorem aCd(l:List Int):(eQ l).all flat=true:=by rw[aY];intro v hv;obtain⟨z,_,rfl⟩:=de.1 hv;rfl
theorem Fq(cells:ah)(i:Nat):dE prog 3 cells i=cells[i]?:=by kernel_rfl
theorem Pg{l:List Int}(h:l[i]?=some z):dE prog 3 (eQ l) i=some (iV z):=by rw[Fq];show(l.map iV)[i]?=_;rw[u9,h];rfl
section
variable{Bs:ae}{a b:List Int}
def Df(n i:Nat):aM:=[(13,vI i),(11,sl 0 n),(12,vI n),(0,sl 0 n),(1,sl 1 n)]
def vP(a b:List Int):aE:=[(0,.view (eQ a)),(1,.view (eQ b))]
noncomputable def aCe{n:Nat}{x:Int}(hi:i<n)(hx:a[i]?=some x)(hy:b[i]?=some y)(ht:(!(x==y))=t)(more:bH prog Bs 26):bH prog Bs 26:=
 .lt 14 i n true (aC hi)::.ix f56 18 0 n i hi k_::.ld f56 19 3 0 i (.view (eQ a)) (iV x) rfl (Pg hx) k_::.ix f56 22 1 n i hi k_::.ld f56 23 3 1 i (.view (eQ b)) (iV y) rfl (Pg hy) k_::
  .rw 24 (.bool (!(x==y))) (.bool t) (by rw[ht])::more
theorem aCf{n:Nat}{x:Int}(hi:i<n)(hx:a[i]?=some x)(hy:b[i]?=some x)(h63:n<9223372036854775807):
  af prog Bs 26 (aF (ag f56 0)) (Df n i) (vP a b) 2 ⟨.normal,Df n (i+1),vP a b,2⟩:=
 az (aCe (t:=false) hi hx hy s_ [.sum 25 i 1 (i+1) rfl o_])
theorem aMw{n:Nat}{x:Int}(hi:i<n)(hx:a[i]?=some x)(hy:b[i]?=some y)(bd:x≠y):
  af prog Bs 26 (aF (ag f56 0)) (Df n i) (vP a b) 2 ⟨.ret,[(4,.bool false)],vP a b,2⟩:=
 az (aCe (t:=true) hi hx hy (by simp[bd]) [])
theorem aMx{n:Nat}:af prog Bs 26 (aF (ag f56 0)) (Df n n) (vP a b) 2 ⟨.exit 0,[],vP a b,2⟩:=
 az [.lt 14 n n false s_]
theorem aMy(h63:a.length<9223372036854775807):cg prog 56 [.r a.length (eQ a),.r b.length (eQ b)] (.bool (decide (a=b))):=by
 have ax:([aK.r a.length (eQ a),.r b.length (eQ b)].all aK.ok)=true:=by simp only[eY,fO,aK.ok,aCd,iM]
 by_cases hl:a.length=b.length
 ·have bd:(Value.bool (!((a.length:Int)==(b.length:Int))))=.bool false:=by rw[hl];simp
  rcases Dd a b hl with h|⟨e,x,y,h1,h2,h3,h4⟩
  ·rw[aC h];subst h;have lo:∀ B:ae,af prog B 26 (.block 0 (ag f56 0)) (Df a.length 0) (vP a a) 2 ⟨.normal,[],vP a a,2⟩:=λB=>
    bO (id:=0) (ck a.length (λi=>Df a.length i) (λ_=>vP a a) (λi k _=>Iff.rfl) (λi hi=>by have hx:a[i]?=some a[i]:=aW hi;exact aCf hi hx hx h63) aMx n_)
   exact dC func56 ax 26 (λw=>[.rw 10 _ _ bd,.code 0 _ _ _ _ _ (lo _)])
  ·have bW:a≠b:=λh=>by subst h;rw[h1]at h2;injection h2 with h2;exact h3 h2
   rw[aO bW];have ao:=(eB.1 h1).1;have lo:∀ B:ae,af prog B 26 (.block 0 (ag f56 0)) (Df a.length 0) (vP a b) 2 ⟨.ret,[(4,.bool false)],vP a b,2⟩:=λB=>
    bO (id:=0) (ck e (λi=>Df a.length i) (λ_=>vP a b) (λi k _=>Iff.rfl) (λi hi=>by have hx:a[i]?=some a[i]:=aW o_;have hy:b[i]?=some b[i]:=aW o_;have:=h4 i _ _ hi hx hy;rw[<-this]at hy;exact aCf o_ hx hy h63) (aMw ao h1 h2 h3) n_)
   have Bf:([aK.r a.length (eQ a),.r a.length (eQ b)].all aK.ok)=true:=by simp only[eY,fO,aK.ok,aCd,iM]
   rw[<-hl]at bd ⊢;exact dC func56 Bf 26 (λw=>[.rw 10 _ _ bd,.code 0 _ _ _ _ _ (lo _)])
 ·have bW:a≠b:=λh=>hl (by rw[h]);rw[aO bW];exact dC func56 ax 26 (λw=>[.rw 10 (.bool (!((a.length:Int)==(b.length:Int)))) b_ (by congr 1;simp;omega)])
end
section
variable{P:j_}{B:ae}{N:Nat}
def aCg(P:j_)(o:Oper):Bool:=match o.op with
 |.binOp .eql t _ _ _=>(match P.underlying t with|some (.slice _)=>true|_=>false)
 |_=>false
theorem aCh(ho:aCg P o=true){n:Nat}(ki:0<n):cz P B o [.slice (some ⟨k,off,some 7⟩) n cc,.slice none 0 0] [] a_ []:=by
 unfold aCg at ho;split at ho
 ·rename_i t x y ty bM;split at ho
  ·rename_i e ht;refine gT.step λι c ρ w aN hm hn=>?_;rw[bM]at aN;obtain⟨u,v,Ph,hu,hv⟩:=iY aN;have Ph:ρ x=u/\ρ y=v:=by simpa[Op.operands]using Ph
   have qy:=hv.fh rfl;rcases hu.gR rfl with ⟨_,h0,_⟩|⟨b,oo,cap,c',hb,lq,mA,he⟩
   ·omega
   ·refine⟨ι,.bool false,w,Map.le.refl _,.same rfl,hm,.inl ?_⟩;simp only[execOp,bM,Ph.1,Ph.2,he,qy];have h2:=Lib.run_eql_slice_nil (P:=P) w t e (some ⟨b,oo+off,none⟩) n c' 0 0 ht;simp only[Option.isNone_some]at h2;simp[eqGuard,h2]
  ·cases ho
 ·cases ho
end
abbrev bz:Nat:=16777216
theorem mh(l:l_):∀ u∈ak l,flat u=true:=λu hu=>by obtain⟨x,_,rfl⟩:=de.1 hu;rfl
theorem hY(l:l_):(ak l).all flat=true:=aY.2 (mh l)
theorem nD(l:l_):(ak l).length=l.length:=by simp[ak]
theorem dP{l:l_}{x:Nat}(h:l[i]?=some x):dE prog 3 (ak l) i=some (vI x):=by rw[Fq];simp[ak,h]
theorem Pj(cells:ah)(i:Nat)(z:Int)(h:i<cells.length):eT prog 3 cells i (.int .i64 z)=some (cells.set i (.int .i64 z)):=by
 have e:eT prog 3 cells i (.int .i64 z)=if(Nat.ble (i+1) cells.length&&true)then some (iN cells i [.int .i64 z])else none:=by kernel_rfl
 rw[e,Q5 h];rfl
theorem Pk(l:l_)(i d:Nat):(ak l).set i (vI d)=ak (l.set i d):=by simp[ak,List.map_set]
theorem vQ{l:l_}(h:i<l.length):eT prog 3 (ak l) i (vI d)=some (ak (l.set i d)):=by rw[<-Pk];exact Pj _ _ _ (by rw[nD];exact h)
theorem KK(n:Nat):List.replicate n (vI 0)=ak (List.replicate n 0):=by simp[ak]
def cH(a:Nat):ah:=ak (aa bz (nd bz a) a)
def ju(a:Nat):aK:=.r (nd bz a) (cH a)
theorem UX(a:Nat):(cH a).length=nd bz a:=by unfold cH;rw[nD,oy]
theorem sD(a:Nat):(cH a).all flat=true:=hY _
theorem aMz(h:nd bz a=0):cH a=[]:=kA (by rw[UX,h])
theorem aMA{n:Nat}:a/bz^n%bz<bz:=cE _ d_
theorem aMB{n:Nat}(hm:m+1<=n)(ha:a<bz^m)(h63:n<=9223372036854775807):
  af prog Bs 21 (aF (ag f206 0)) [(0,sl 0 (m+1))] [(0,.view (ak (aa bz n a)))] 1 ⟨.normal,[(0,sl 0 m)],[(0,.view (ak (aa bz n a)))],1⟩:=by
 have hd:a/bz^m%bz=0:=(Gn d_ (cC ha (c7 d_ (yq m)))).2 ha;exact az [.gt 5 (m+1) 0 true s_,.eW 10 (m+1) 1 m rfl o_,.ix f206 11 0 (m+1) m o_ k_,.ld f206 12 3 0 m (.view (ak (aa bz n a))) (vI (a/bz^m%bz)) rfl (dP (ee o_)) k_,.gm 13 (a/bz^m%bz) 0 true (by simp[hd]),.eW 18 (m+1) 1 m rfl o_,.upto f206 19 0 (m+1) m 1 o_ k_]
theorem aMC{n:Nat}(hm:m<=n)(ha:a<bz^m)(hl:m=nd bz a)(h63:n<=9223372036854775807):
  af prog Bs 21 (aF (ag f206 0)) [(0,sl 0 m)] [(0,.view (ak (aa bz n a)))] 1 ⟨.exit 0,[(0,sl 0 m)],[(0,.view (ak (aa bz n a)))],1⟩:=by
 cases m with
 |zero=>exact az [.gt 5 0 0 false s_]
 |succ m=>
  have hd:a/bz^m%bz≠0:=λe=>by have:=jd (B:=bz) d_ ((Gn d_ ha).1 e);omega
  exact az [.gt 5 (m+1) 0 true s_,.eW 10 (m+1) 1 m rfl o_,.ix f206 11 0 (m+1) m o_ k_,.ld f206 12 3 0 m (.view (ak (aa bz n a))) (vI (a/bz^m%bz)) rfl (dP (ee o_)) k_,.gm 13 (a/bz^m%bz) 0 false (by simp[hd])]
theorem aMD{n:Nat}(ha:a<bz^n)(h63:n<=9223372036854775807):
  af prog Bs 21 (.block 0 (ag f206 0)) [(0,sl 0 n)] [(0,.view (ak (aa bz n a)))] 1 ⟨.normal,[(0,sl 0 (nd bz a))],[(0,.view (ak (aa bz n a)))],1⟩:=by
 have hle:=jd (B:=bz) d_ ha;have ao:=dQ (B:=bz) d_ a
 have:=ck (P:=prog) (B:=Bs) (N:=21) (b:=aF (ag f206 0)) (next:=1) (n-nd bz a) (λi=>[(0,sl 0 (n-i))]) (λ_=>[(0,.view (ak (aa bz n a)))])
  (r:=⟨.exit 0,[(0,sl 0 (nd bz a))],[(0,.view (ak (aa bz n a)))],1⟩) (λ_ _ _=>Iff.rfl)
  (λi hi=>by
   have e:n-i=(n-(i+1))+1:=by omega
   simp only[e];exact aMB o_ (cC ao (c7 d_ o_)) h63)
  (by
   have e:n-(n-nd bz a)=nd bz a:=by omega
   simp only[e];exact aMC hle ao rfl h63) n_
 exact bO this
theorem aCi{v:i_}{n:Nat}(hv:c8 w v n (ak (aa bz n a)))(ha:a<bz^n)(h63:n<=9223372036854775807):
  Calls prog 206 #[v] w λe w'=>e=.returned (MM v (nd bz a))/\Below w.heap.size w w':=by
 refine lC (Q:=λe w'=>e=.returned (MM v (nd bz a))/\Below w.heap.size w w') mixed func206 [.row v n (ak (aa bz n a))] (λs hs=>by simp at hs;subst hs;exact⟨hv,mh _⟩) 100 (N:=21) k_
  (rs:=[.code 0 _ _ _ _ _ (aMD ha h63)]) (v:=sl 0 (nd bz a)) (ms:=[]) k_ λav bX v' w' hc hm _ dz=>⟨?_,hm.base⟩
 cases dz with
 |cons h1 _=>
 congr 1
 rcases hc.gR rfl with ⟨q1,q2,_,_,q5⟩|⟨b,o,cap,c',q1,q2,q3,q5⟩<;>rcases h1.gR rfl with ⟨p1,p2,_,_,p5⟩|⟨b2,o2,pA,c2,p1,p2,p3,p5⟩
 ·have p5:v=.slice none 0 0:=p5;rw[q5,p5,q2];rfl
 ·rw[q1]at p1;cases p1
 ·rw[q1]at p1;cases p1
 ·rw[q1]at p1;injection p1 with p1;injection p1 with e1 e2 e3;subst e1;subst e2;subst e3;have p5:v=_:=p5;rw[q5,p5,show c'=c2 by omega];rfl
theorem aME{y:m_}(ho:di o.op=some y){n:Nat}{x:Obj}(hx:x.reads=true)(cG:(x.cells.all flat)=true)(hc:(x.cells.drop off).take n=ak (aa bz n a))(ha:a<bz^n)(h63:n<=9223372036854775807)(yo:n=0->off=0\/True):
  cz prog Bs o [.func (.func 206) #[] #[],.slice (some ⟨k,off,some 7⟩) n 0] [(k,some x)] (.slice (some ⟨k,off,some 7⟩) (nd bz a) 0) []:=by
 refine jP (fi:=[]) (ca:=[]) ho k_ λι c w hm hn args' dz=>?_;obtain⟨v,rfl,h1⟩:=mz dz;have hk:c k=some x:=hn _ (aL ..);have hr:=ox (len:=n) hm hk hx (aY.1 cG) (λh=>h) h1;rw[hc]at hr;refine(aCi hr ha h63).mono ?_
 rintro e w' ⟨rfl,hb⟩
 refine⟨ι,_,rfl,Map.le.refl _,?_,hm.call hb⟩;have jR:=jd (B:=bz) d_ ha;rcases h1.gR rfl with ⟨q1,q2,_,q4,q5⟩|⟨b,oo,cap,c',q1,q2,q3,q5⟩
 ·rw[q5];have:nd bz a=0:=by omega
  dsimp only at q4;rw[this,q4];exact .slcN q1
 ·rw[q5];exact .slc q1 o_ q3
def aQ.Dg(fn:Func)(key k n a:Nat)(x:Obj)(hx:x.reads=true)(hc:x.cells=ak (aa bz n a))(ha:a<bz^n)(h63:n<=9223372036854775807)(ho:di (ay fn key).op=some (.func 206)):aQ prog Bs N:=
 .step key (ay fn key) [.func (.func 206) #[] #[],sl k n] [(k,some x)] (sl k (nd bz a)) [] (aME ho hx (by rw[hc];exact hY _) (by rw[hc,lW,j0 (by simp[ak,oy])]) ha h63 (λ_=>.inr trivial))
section
open Go.Sort (flatK putRowK HoldsK putRow putCells Holds mapBlock grow ahead PermIn SortedIn SWO swp)
section
variable{α:Type}[Inhabited α]{enc:α->ah}{s:Nat}
omit [Inhabited α] in
theorem aCj(h:qd enc s){l:List α}{r:Nat}{x:α}(hx:l[i]?=some x)(hr:r<s):(ct enc l)[i*s+r]?=(enc x)[r]?:=by have e:=OU h hx;rw[<-e,tV,au hr,DZ]
theorem aCk(h:qd enc s)(hs:0<s)(d:Array α):(flatK enc s d).toList=ct enc d.toList:=by
 apply Sn;intro t;by_cases ht:t<d.size*s
 ·have hi:t/s<d.size:=(iv hs).2 ht;have hr:t%s<s:=cE _ hs;have hx:d.toList[t/s]?=some d[t/s]:=by simp[hi]
  have e:=aCj h hx hr;rw[cK,jf]at e;rw[e];have hl:t%s<(enc d[t/s]).length:=by rw[h.len];exact hr
  have e2:=Go.Sort.get_flatK enc s d t ht;have bE:t<(flatK enc s d).size:=by rw[UY];exact ht
  rw[BB (flatK enc s d) t bE,BB d (t/s) hi,BB (enc d[t/s]) (t%s) hl]at e2;rw[Array.getElem?_toList,yt bE,e2,aW hl]
 ·rw[yj (by simp;omega),yj (by rw[sk h];simp;omega)]
def UZ(P:j_)(f:FuncId)(g:i_)(enc:α->ah)(s:Nat)(lt:α->α->Bool)(l:List α):Prop:=
 ∀(aI cap:Nat) (w:h_),HoldsK enc s w aI 0 l.toArray->aI<w.heap.size->Calls P f #[.slice (some ⟨aI,0,none⟩) l.length cap,g] w λe w'=>
  e=.returned (.tuple #[])/\∃ d' n os,PermIn 0 l.length l.toArray d'/\SortedIn lt 0 l.length d'/\w'=Go.Proofs.sortWorldK enc s w aI 0 n d' os
theorem aCl{g:FuncId}{cf:α->α->Int}(h:∀ x y:α,aD P g [.agg (enc x).toArray,.agg (enc y).toArray] (.int .i64 (cf x y)))(aI off size:Nat)(w:h_):Go.Proofs.CmpLays P g #[] enc s cf aI off size w:=by
 intro m os dk _ x y;refine(h x y _).mono ?_
 rintro e w' ⟨rfl,hb⟩
 generalize Go.Proofs.sortWorldK enc s w aI off m dk os=W at *;refine⟨rfl,w'.drawn-W.drawn,w'.heap.extract W.heap.size w'.heap.size,?_⟩;obtain⟨heap,tape,drawn,osW,out⟩:=W;obtain⟨aMF,aUq,aUr,os',aUs⟩:=w';obtain⟨⟨h1,h2⟩,h3,h4,h5,h6⟩:=hb;dsimp only at h1 h2 h3 h4 h5 h6;subst h1;subst h3;subst h4;unfold grow World.drewN;dsimp only
 congr 1
 ·apply Array.ext_getElem?;intro k;by_cases hk:k<heap.size
  ·rw[h6 k hk,aCm hk]
  ·rw[Array.getElem?_append_right o_,Array.getElem?_extract];by_cases gi:k<aMF.size
   ·rw[au o_];congr 1;omega
   ·rw[al o_,XZ o_]
 ·omega
theorem aCn{g:i_}{lt:α->α->Bool}{l l':List α}(h:qd enc s)(hs:0<s)(hso:UZ P f g enc s lt l)(hg:flat g=true)(ho:di o.op=some x)(eK:fW P f=true)(k:Nat)
  (aMG:l=[]->aD P f [.slice none 0 0,g] (.tuple #[])) (cZ:∀ d:List α,d.Perm l->(∀ i j,i<j->j<d.length->∀ x y,d[i]?=some x->d[j]?=some y->lt y x=false)->d=l') :
  cz P B o [.func (.func f) #[] #[],.slice (some ⟨k,0,some 7⟩) l.length 0,g] [(k,some (.row (ct enc l) ty s))] (.tuple #[]) [(k,.row (ct enc l') ty s)]:=by
 refine jP (fi:=[]) (ca:=[]) ho eK λι c w hm hn args' dz=>?_;obtain⟨v,u,rfl,h1,h2⟩:=iY (by simpa using dz);have hu:=h2.fh hg;subst hu;have hk:=hn (k,_) (aL ..);rcases h1.gR rfl with ⟨q1,q2,_,_,q5⟩|⟨b,oo,cap,c',q1,q2,q3,q5⟩
 ·have hl:l=[]:=kA q2;subst hl;have e:l'=[]:=(cZ [] (.refl _) λi j _ hj=>by simp at hj).symm;subst e;rw[q5];refine(aMG rfl w).mono ?_
  rintro e w' ⟨rfl,hb⟩
  refine⟨ι,_,rfl,Map.le.refl _,.same rfl,((hm.call hb).ext λj=>?_)⟩;show aV c k _ j=c j;unfold aV;by_cases hj:j=k
  ·rw[au hj,hj];exact hk.symm
  ·rw[al hj]
 ·obtain⟨lo,p1,p2⟩:=hm.born k _ hk;dsimp only at q1;rw[q1]at p1;injection p1 with p1;subst p1;rcases p2 with p2|⟨b',bj,cur,e1,lR,dF,fo,jb⟩
  ·cases p2.1
  injection e1 with e1 e2 e3;subst e1;subst e2;subst e3;have gH:=(hm.own k _ b 0 cap hk rfl q1).1;have aCo:cur.toList.take (ct enc l).length=ct enc l:=mZ jb (HI h l);have hlen:(ct enc l).length=l.length*s:=sk h l;have hle:l.length*s<=cur.size:=by have:=ch List.length aCo;rw[jn,hlen]at this;simp at this;omega
  have mD:(flatK enc s l.toArray).toList=ct enc l:=aCk h hs l.toArray;have hold:HoldsK enc s w b 0 l.toArray:=by
   intro j hj;rw[UY]at hj;simp only[L8]at hj;have Pl:j<cur.size:=by omega
   have bE:j<(flatK enc s l.toArray).size:=by rw[UY];simpa using hj
   have e:cur[j]=(flatK enc s l.toArray)[j]:=by
    have e1:(cur.toList.take (ct enc l).length)[j]?=(ct enc l)[j]?:=by rw[aCo]
    rw[tV,au (by rw[hlen];exact hj),<-mD]at e1;rw[Array.getElem?_toList,Array.getElem?_toList,yt Pl,yt bE]at e1;injection e1
   refine⟨?_,?_⟩
   ·rw[BB _ j bE];simp[World.cell?,lR,Pl,e]
   ·simp[World.frozen?,lR]
  rw[q5];refine(hso b c' w hold gH).mono ?_
  rintro e w' ⟨rfl,d',n,os,hp,U0,rfl⟩
  obtain⟨iD,D4,hp3⟩:=hp;have NS:d'.toList=l':=by
   refine cZ _ ?_ λi j nK hj x y hx hy=>?_
   ·have e1:d'.extract 0 l.length=d':=by rw[<-L8,<-iD];exact Array.extract_size
    have e2:l.toArray.extract 0 l.length=l.toArray:=by rw[<-L8];exact Array.extract_size
    rw[e1,e2]at hp3;simpa using hp3
   ·have gJ:j<d'.size:=by simpa using hj
    have hz:d'.size=l.length:=by rw[iD];simp
    have:=U0 i j (kB _) nK o_;rw[BB d' i o_,BB d' j gJ]at this;rw[Array.getElem?_toList,yt o_]at hx;rw[Array.getElem?_toList,yt gJ]at hy;injection hx with hx;injection hy with hy;rw[hx,hy]at this;exact this
  have hz:d'.size=l.length:=by rw[iD];simp
  have AN:l'.length=l.length:=by rw[<-NS];simpa using hz
  refine⟨ι,_,rfl,Map.le.refl _,.same rfl,?_⟩;have Av:(flatK enc s d').toList=ct enc l':=by rw[aCk h hs,NS]
  have hF:(flatK enc s d').size=l.length*s:=by rw[UY,hz]
  show aJ B ι (aV c k (.row (ct enc l') ty s)) _;have hW:(Go.Proofs.sortWorldK enc s w b 0 n d' os).heap=w.heap.modify b (Go.Sort.onCells (putCells id 0 (flatK enc s d')))++os:=rfl;have aMH:(Go.Proofs.sortWorldK enc s w b 0 n d' os).heap[b]?=some (.cells (putCells id 0 (flatK enc s d') cur) ty (0,0)):=by rw[hW,aCm (by simpa using gH),Xu,au rfl,lR];rfl
  have hcz:(putCells id 0 (flatK enc s d') cur).size=cur.size:=by simp[putCells]
  refine hm.write hk rfl q1 ⟨rfl,Jr _ _⟩ rfl rfl ?_ (λj hj Eu=>?_) (.inr ⟨b,cap,_,rfl,aMH,dF,by rw[hcz,fo],?_⟩) n_ rfl
  ·rw[hW];simp
  ·rw[hW,aCm (by simpa using hj),Xu,al (λe=>Eu e.symm)]
  ·have e:(putCells id 0 (flatK enc s d') cur).toList.take (ct enc l').length=ct enc l':=by
    rw[sk h,AN,<-Av];apply Sn;intro j;rw[tV];by_cases hj:j<l.length*s
    ·rw[au hj];have Pl:j<cur.size:=by omega
     have bE:j<(flatK enc s d').size:=by rw[hF];exact hj
     rw[Array.getElem?_toList,Array.getElem?_toList,yt bE];unfold putCells;rw[Array.getElem?_mapIdx,yt Pl];simp only[QM,Gl,id_eq];rw[au ⟨kB _,by rw[hF];omega⟩,BB _ j bE]
    ·rw[al hj,yj (by simp[hF];omega)]
   rw[e];exact ky (HI h l')
end
end
section
variable{P:j_}{B:ae}{N:Nat}
def Pm(P:j_)(o:Oper):Option (TypeId×Nat×Value):=match o.op with
 |.call c=>match c.callee,c.args.toList,c.argTypes.toList with
  |.builtin .clear,[_],[t]=>(match P.underlying t with
   |some (.slice e)=>(match P.info? e with|some i=>(match i.zero with|some z=>some (e,i.size,z)|none=>none)|none=>none)
   |_=>none)
  |_,_,_=>none
 |_=>none
theorem aMI{s:Nat}{z:i_}(ho:Pm P o=some (e,s,z)):∃ x t i,o.op=.call { callee:=.builtin .clear,args:=#[x],argTypes:=#[t]}/\P.underlying t=some (.slice e)/\P.info? e=some i/\i.zero=some z/\i.size=s:=by
 unfold Pm at ho;split at ho
 ·rename_i c bM;split at ho
  ·rename_i x t h1 h2 h3;split at ho
   ·rename_i e' ht;split at ho
    ·rename_i i hi;split at ho
     ·rename_i z' hz;injection ho with ho;injection ho with q1 ho;injection ho with q2 q3;subst q1;subst q2;subst q3;refine⟨x,t,i,?_,ht,hi,hz,rfl⟩;rw[bM];obtain⟨ce,ar,at'⟩:=c;dsimp only at h1 h2 h3;subst h1;have e1:ar=#[x]:=by rw[<-xn (xs:=ar),h2]
      have e2:at'=#[t]:=by rw[<-xn (xs:=at'),h3]
      rw[e1,e2]
     ·cases ho
    ·cases ho
   ·cases ho
  ·cases ho
 ·cases ho
theorem aMJ{s:Nat}{z:i_}(ho:Pm P o=some (e,s,z))(h1:∀ v∈z.cells.toList,v.oneCell'=true/\flat v=true){n:Nat}{cells new:ah}(hn:0<n)(hlen:off+n*z.cells.size<=cells.length)
  (iP:iN cells off (Builtin.zeroCells z.cells n).toList=new):cz P B o [.slice (some ⟨k,off,some 7⟩) n cc] [(k,some (.row cells e s))] (.tuple #[]) [(k,.row new e s)]:=by
 subst iP;obtain⟨x,t,i,bM,ht,hi,hz,rfl⟩:=aMI ho;refine gT.step λι c ρ w aN hm oq=>?_;have hk:c k=some (.row cells e i.size):=oq _ (aL ..);rw[bM]at aN;obtain⟨u,hu,hc⟩:=mz aN;have hu:ρ x=u:=by simpa[Op.operands,Call.operands]using hu
 rcases hc.gR rfl with ⟨_,q2,_⟩|⟨b,oo,cap,c',hb,lq,mA,he⟩
 ·omega
 dsimp only at hb he;have AN:((Builtin.zeroCells z.cells n).toList).length=n*z.cells.size:=by rw[yi,L4]
 have HO:∀ v∈(Builtin.zeroCells z.cells n).toList,v.oneCell'=true/\flat v=true:=by
  intro v hv;unfold Builtin.zeroCells at hv;rw[Array.toList_map,de]at hv;obtain⟨j,hj,rfl⟩:=hv;have hjs:j<n*z.cells.size:=by simpa using hj
  have h0:0<z.cells.size:=by
   rcases nq z.cells.size with h|h
   ·rw[h]at hjs;omega
   ·exact h
  rw[BB z.cells _ (cE _ h0)];exact h1 _ s_
 obtain⟨h0,bK,bY,ty,lR,tW⟩:=hm.store hk rfl hb (ky λv hv=>(HO v hv).2) (o:=off) (by rw[AN];exact hlen);subst h0;rw[jL]at he;refine⟨ι,.tuple #[],_,Map.le.refl _,.same rfl,bK,.inl ?_⟩
 have run:=run_storeCells_cells (P:=P) b off (Builtin.zeroCells z.cells n).toList 0 w
  (λj hj=>by
   have:j+off<bY.length:=by omega
   simp[World.cell?,lR];omega)
  (λj hj=>by simp[World.frozen?,lR]) λv hv=>(HO v hv).1
 simp only[ja]at run;obtain⟨m,rfl⟩:∃ m,n=m+1:=⟨n-1,by omega⟩;have gS:(Builtin.clear_ #[t] o.type #[.slice (some ⟨b,off,none⟩) (m+1) c']).run P w=.ok (.tuple #[]) (w.setCells b off (Builtin.zeroCells z.cells (m+1)).toList):=by simp[Builtin.clear_,iZ ht,zeroValue,typeInfo,hi,hz,run]
 simp[execOp,bM,resolve,invoke,builtin,hu,he,gS]
theorem aMK{enc:α->ah}{s:Nat}(h:qd enc s){x:α}{z:p_}(hz:z.toList=enc x)(hs:0<s)(n:Nat):(Builtin.zeroCells z n).toList=ct enc (List.replicate n x):=by
 have bE:z.size=s:=by rw[<-yi,hz,h.len]
 apply Sn;intro t;by_cases ht:t<n*s
 ·have hi:t/s<n:=(iv hs).2 ht;have hr:t%s<s:=cE _ hs;have e:=aCj h (l:=List.replicate n x) (i:=t/s) (x:=x) (by simp[hi]) hr;rw[cK,jf]at e;rw[e,<-hz];unfold Builtin.zeroCells;rw[Array.toList_map,u9];have:(Array.range (n*z.size)).toList[t]?=some t:=by rw[bE];simp[ht]
  rw[this,QM,bE,BB z _ o_,Array.getElem?_toList,yt o_]
 ·rw[yj (by rw[yi,L4,bE];omega),yj (by rw[sk h];simp;omega)]
def aQ.ph(fn:Func)(key k a n cc i j s:Nat)(hi:i<n)(hj:a+i=j)(ho:wH P (ay fn key)=some s):aQ P B N:=
 .step key (ay fn key) [.slice (some ⟨k,a*s,some 7⟩) n cc,vI i] [] (.pointer (some ⟨k,j*s,some 7⟩)) [] (by have:=Mz (B:=B) ho (k:=k) (off:=a*s) (cc:=cc) (kd:=.i64) hi;rw[<-fp,hj]at this;exact this)
def aQ.behind(fn:Func)(key k n a m s:Nat)(hm:a+m=n)(h0:0<m)(ho:rN P (ay fn key)=some (true,false,s)):aQ P B N:=
 .step key (ay fn key) [.slice (some ⟨k,0,some 7⟩) n 0,vI a] [] (.slice (some ⟨k,a*s,some 7⟩) m a) [] (by have:=Gm (B:=B) ho (k:=k) (off:=0) (n:=n) (cc:=0) (l:=a) (h:=n) n_ (λ_=>rfl) o_ (bh _) (.inl o_);rw[show n-a=m by omega]at this;simpa using this)
def aQ.clear(fn:Func)(key k off n cc e s:Nat)(z:i_)(cells new:ah)(h1:∀ v∈z.cells.toList,v.oneCell'=true/\flat v=true)(hn:0<n)(hlen:off+n*z.cells.size<=cells.length)(iP:iN cells off (Builtin.zeroCells z.cells n).toList=new)
  (ho:Pm P (ay fn key)=some (e,s,z)):aQ P B N:=
 .step key (ay fn key) [.slice (some ⟨k,off,some 7⟩) n cc] [(k,some (.row cells e s))] (.tuple #[]) [(k,.row new e s)] (aMJ ho h1 hn hlen iP)
end
def ae.jw(B:ae)(ks:List (Value×ah)):ae where
 G w:=B.G w/\∀ p∈ks,c8 w p.1 p.2.length p.2
 cM k:=B.cM k\/∃ p∈ks,iB p.1=some k
 ds:=B.ds
 Fa:=B.Fa
 mp:=B.mp
 lt w k h hk:=by
  rcases hk with hk|⟨p,hp,hb⟩
  ·exact B.lt w k h.1 hk
  ·exact(h.2 p hp).lt hb
 dep w w' h h1 h2 h3 h4 h5:=⟨B.dep w w' h.1 h1 h2 h3 h4 λk hk=>h5 k (.inl hk),λp hp=>(h.2 p hp).kept h4 λb hb _ _ _ e=>(h5 b (.inr ⟨p,hp,hb⟩)).trans e⟩
theorem aCp(h:aJ B ι c w):aJ (B.jw []) ι c w:=
 ⟨⟨h.base,λp hp=>by cases hp⟩,h.dw,h.born,λk x b o cap e hx hl=>⟨(h.own k x b o cap e hx hl).1,λhF=>by
  rcases hF with hF|⟨p,hp,_⟩
  ·exact(h.own k x b o cap e hx hl).2 hF
  ·cases hp⟩,h.inj,h.apart,h.seen,h.fa,h.one,h.rC⟩
theorem Pn(h:aJ (B.jw ks) ι c w)(hm:c m=some (.row xs ty 1))(cG:∀ v∈xs,flat v=true)
  (hu:aH ι (.slice (some ⟨m,0,some 7⟩) xs.length 0) u):aJ (B.jw ((u,xs)::ks)) ι (aV c m .dead) w/\flat u=true/\∀ b,iB u=some b->¬B.cM b:=by
 have iO:=ox (len:=xs.length) h hm rfl cG (λe=>e) hu;have iO:c8 w u xs.length xs:=by
  have e:((Obj.row xs ty 1).cells.drop 0).take xs.length=xs:=by rw[lW];exact mN
  rwa[e]at iO
 have hk:=h.kill m (by rw[hm];exact n_);have hb:∀ b,iB u=some b->∃ o cap,ι m=some (.at b o cap):=by
  intro b hb;rcases hu.gR rfl with ⟨_,_,_,_,q5⟩|⟨b',oo,cap,c',q1,_,_,q5⟩
  ·rw[q5]at hb;cases hb
  ·rw[q5]at hb;injection hb with hb;subst hb;exact⟨oo,cap,q1⟩
 have cT:∀ j z,j≠m->aV c m .dead j=some z->c j=some z:=λj z hj e=>by unfold aV at e;rwa[al hj]at e
 refine⟨⟨⟨h.base.1,λp hp=>?_⟩,hk.dw,hk.born,λk x b o cap e hx hl=>⟨(hk.own k x b o cap e hx hl).1,λhF=>?_⟩,hk.inj,hk.apart,hk.seen,hk.fa,hk.one,hk.rC⟩,?_,λb hbu hF=>?_⟩
 ·rcases b9.1 hp with rfl|hp
  ·exact iO
  ·exact h.base.2 p hp
 ·rcases hF with hF|⟨p,hp,JA⟩
  ·exact(hk.own k x b o cap e hx hl).2 (.inl hF)
  ·rcases b9.1 hp with rfl|hp
   ·obtain⟨o',bj,cZ⟩:=hb b JA;by_cases HP:k=m
    ·subst HP;unfold aV at e;rw[au rfl]at e;injection e with e;subst e;cases hx
    ·exact HP (h.inj k m x _ b o cap o' bj (cT k x HP e) hx hm rfl hl cZ)
   ·exact(hk.own k x b o cap e hx hl).2 (.inr ⟨p,hp,JA⟩)
 ·rcases hu.gR rfl with ⟨_,_,_,_,q5⟩|⟨b',oo,cap,c',q1,_,_,q5⟩
  ·rw[q5];rfl
  ·rw[q5];rfl
 ·obtain⟨o,cap,hl⟩:=hb b hbu;exact(h.own m _ b o cap hm rfl hl).2 (.inl hF)
def kv:List (Nat×Nat)->Nat->Option Nat
 |[],_=>none
 |(j,m)::l,k=>if Nat.beq j k then some m else kv l k
def rf(ι:Map)(r:List (Nat×Nat)):Map:=λj=>(kv r j).bind ι
def KL:List (Nat×Nat)->Bool
 |[]=>true
 |(_,m)::l=>(l.all λp=>!Nat.beq m p.2)&&KL l
theorem U1:∀{r:List (Nat×Nat)} {j m:Nat},kv r j=some m->(j,m)∈r
 |(i,q)::l,j,m,h=>by
  unfold kv at h;split at h
  ·rename_i hb;injection h with h;subst h;rw[jY hb];exact aL ..
  ·exact bw _ (U1 h)
theorem U2:∀{r:List (Nat×Nat)},KL r=true->∀ i j m:Nat,kv r i=some m->kv r j=some m->i=j
 |(a,q)::l,h,i,j,m,h1,h2=>by
  unfold KL at h;rw[cY,aY]at h;have ih:=U2 h.2;have no:∀ k,kv l k=some q->False:=λk hk=>by have:=h.1 _ (U1 hk);simp at this
  unfold kv at h1 h2;split at h1<;>split at h2
  ·rename_i e1 e2;rw[<-jY e1,<-jY e2]
  ·injection h1 with h1;subst h1;exact(no j h2).elim
  ·injection h2 with h2;subst h2;exact(no i h1).elim
  ·exact ih i j m h1 h2
 |[],_,i,j,m,h,_=>by cases h
def HQ(a:Addr):Bool:=match a.spot with|some s=>Nat.beq s 7||Nat.beq s 9|none=>false
def xC(r:List (Nat×Nat)):Value->Value
 |.slice (some ad) n c=>if mr ad then(match kv r ad.block with|some m=>.slice (some ⟨m,ad.off,some 7⟩) n c|none=>.slice (some ad) n c)else .slice (some ad) n c
 |.pointer (some ad)=>if HQ ad then(match kv r ad.block with|some m=>.pointer (some ⟨m,ad.off,ad.spot⟩)|none=>.pointer (some ad))else .pointer (some ad)
 |v=>v
def zu(r:List (Nat×Nat)):Value->Value
 |.func f fi ca=>.func f (fi.toList.map (xC r)).toArray (ca.toList.map (xC r)).toArray
 |v=>xC r v
def Ft(r:List (Nat×Nat)):Value->Bool
 |.slice (some ad) _ _=>if mr ad then(kv r ad.block).isSome else lP ad
 |.pointer (some ad)=>if HQ ad then(kv r ad.block).isSome else lP ad
 |v=>flat v&&!mw v
def zv(r:List (Nat×Nat)):Value->Bool
 |.func _ fi ca=>fi.toList.all (Ft r)&&ca.toList.all (Ft r)
 |v=>Ft r v
theorem aCq{a:Addr}(h:HQ a=true):lP a=false:=by
 unfold HQ at h;unfold lP;cases hs:a.spot with
 |none=>rw[hs]at h;cases h
 |some s=>rfl
theorem aML{r:List (Nat×Nat)}{v:i_}(h:flat v=true):xC r v=v:=by
 unfold xC;split
 ·rename_i ad n c;split
  ·rename_i ho;have:lP ad=true:=h;rw[LV ho]at this;cases this
  ·rfl
 ·rename_i ad;split
  ·rename_i ho;have:lP ad=true:=h;rw[aCq ho]at this;cases this
  ·rfl
 ·rfl
theorem aCr{r:List (Nat×Nat)}{v:i_}(ax:Ft r v=true)(h:aH ι (xC r v) v'):aH (rf ι r) v v':=by
 have fl:∀ v:Value,flat v=true->aH ι (xC r v) v'->aH (rf ι r) v v':=λv hv hc=>by rw[aML hv]at hc;rw[hc.fh hv];exact .same hv
 unfold Ft at ax;split at ax
 ·rename_i ad n c;split at ax
  ·rename_i ho;cases hr:kv r ad.block with
   |none=>rw[hr]at ax;cases ax
   |some m=>
    have U3:xC r (.slice (some ad) n c)=.slice (some ⟨m,ad.off,some 7⟩) n c:=by show(if mr ad=true then(match kv r ad.block with|some m=>Value.slice (some ⟨m,ad.off,some 7⟩) n c|none=>.slice (some ad) n c)else .slice (some ad) n c)=_;rw[au ho,hr]
    rw[U3]at h;have hm:rf ι r ad.block=ι m:=by unfold rf;rw[hr];rfl
    obtain⟨bl,off,sp⟩:=ad;have ux:=Ga ho;dsimp only at ux;subst ux;rcases h.gR rfl with ⟨q1,q2,q3,q4,q5⟩|⟨b,oo,cap,c',q1,q2,q3,q5⟩
    ·dsimp only at q1 q4 hm;rw[q5,q2,q3,q4];exact .slcN (hm.trans q1)
    ·dsimp only at q1 hm q5;rw[q5];exact .slc (hm.trans q1) q2 q3
  ·exact fl _ ax h
 ·rename_i ad;split at ax
  ·rename_i ho;cases hr:kv r ad.block with
   |none=>rw[hr]at ax;cases ax
   |some m=>
    have U3:xC r (.pointer (some ad))=.pointer (some ⟨m,ad.off,ad.spot⟩):=by show(if HQ ad=true then(match kv r ad.block with|some m=>Value.pointer (some ⟨m,ad.off,ad.spot⟩)|none=>.pointer (some ad))else .pointer (some ad))=_;rw[au ho,hr]
    rw[U3]at h;have hm:rf ι r ad.block=ι m:=by unfold rf;rw[hr];rfl
    obtain⟨bl,off,sp⟩:=ad;dsimp only at hm h;generalize hp:Value.pointer (some ⟨m,off,sp⟩)=p at h;cases h with
    |same hf=>subst hp;have:lP ⟨m,off,sp⟩=true:=hf;rw[aCq (a:=⟨m,off,sp⟩) ho]at this;cases this
    |ptr q=>injection hp with hp;injection hp with hp;injection hp with h1 h2 h3;subst h1;subst h2;subst h3;exact .ptr (hm.trans q)
    |slc q=>cases hp
    |slcN q=>cases hp
    |opq q1 q2 q3=>injection hp with hp;injection hp with hp;injection hp with h1 h2 h3;subst h1;subst h2;subst h3;exact .opq (hm.trans q1) q2 q3
    |fn=>cases hp
    |agg=>cases hp
    |tup=>cases hp
  ·exact fl _ ax h
 ·rw[cY]at ax;exact fl _ ax.1 h
theorem U4{ι:Map}{r:List (Nat×Nat)}:∀{l l':ah},(l.all (Ft r))=true->bL (aH ι) (l.map (xC r)) l'->bL (aH (rf ι r)) l l'
 |[],_,_,h=>by cases h;exact .nil
 |v::l,_,ax,h=>by
  rw[eY,cY]at ax;cases h with
  |cons h1 h2=>exact .cons (aCr ax.1 h1) (U4 ax.2 h2)
theorem aCs{r:List (Nat×Nat)}{v:i_}(ax:zv r v=true)(h:aH ι (zu r v) v'):aH (rf ι r) v v':=by
 unfold zv at ax;split at ax
 ·rename_i f fi ca;rw[cY]at ax;obtain⟨jK,gC,rfl,h1,h2⟩:=h.z7;have g1:=U4 ax.1 h1;have g2:=U4 ax.2 h2;have:=aH.fn (f:=f) g1 g2;simpa using this
 ·rename_i hn;have:zu r v=xC r v:=by
   unfold zu;split
   ·exact absurd rfl (hn _ _ _)
   ·rfl
  rw[this]at h;exact aCr ax h
theorem aMM(r:List (Nat×Nat)){v:i_}(h:mw v=false):mw (zu r v)=false:=by
 cases v with
 |slice a n c=>
  cases a with
  |none=>rfl
  |some ad=>
   show mw (if mr ad=true then(match kv r ad.block with|some m=>Value.slice (some ⟨m,ad.off,some 7⟩) n c|none=>.slice (some ad) n c)else .slice (some ad) n c)=false;split
   ·split<;>rfl
   ·rfl
 |pointer a=>
  cases a with
  |none=>rfl
  |some ad=>
   show mw (if HQ ad=true then(match kv r ad.block with|some m=>Value.pointer (some ⟨m,ad.off,ad.spot⟩)|none=>.pointer (some ad))else .pointer (some ad))=false;split
   ·split<;>rfl
   ·rfl
 |func f fi ca=>rfl
 |_=>exact h
theorem aCt{ι:Map}{r:List (Nat×Nat)}:∀{l l':ah},(l.all (zv r))=true->bL (aH ι) (l.map (zu r)) l'->bL (aH (rf ι r)) l l'
 |[],_,_,h=>by cases h;exact .nil
 |v::l,_,ax,h=>by
  rw[eY,cY]at ax;cases h with
  |cons h1 h2=>exact .cons (aCs ax.1 h1) (aCt ax.2 h2)
def Dh(r:List (Nat×Nat)):Obj->Obj
 |.aI cs ty=>.aI (cs.map (zu r)) ty
 |x=>x
def HR(r:List (Nat×Nat)):Obj->Prop
 |.aI cs _=>(cs.all (zv r))=true
 |.fact _=>True
 |.dead=>True
 |x=>∀ v∈x.cells,flat v=true
theorem HT(r:List (Nat×Nat))(x:Obj):(Dh r x).owns=x.owns/\(Dh r x).jv=x.jv:=by cases x<;>exact⟨rfl,rfl⟩
theorem aMN{l:pw}{r:List (Nat×Nat)}{x:Obj}(ax:HR r x)(h:iC ι w l (Dh r x)):iC (rf ι r) w l x:=by
 have fl:∀{cs bY:ah},(∀ v∈cs,flat v=true)->bL (aH ι) cs bY->bL (aH (rf ι r)) cs bY:=λhf h=>by rw[mZ h hf];exact ky hf
 cases x with
 |aI cells ty=>
  obtain⟨b,bY,e1,e2,e3⟩:=h;exact⟨b,bY,e1,aCt ax e2,e3⟩
 |row cells ty size=>
  rcases h with h|⟨b,cap,cur,e1,e2,e3,e4,e5⟩
  ·exact .inl h
  ·exact .inr ⟨b,cap,cur,e1,e2,e3,e4,fl ax e5⟩
 |view cells=>
  rcases h with h|⟨b,o,cap,cs,e1,e2,e3⟩
  ·exact .inl h
  ·exact .inr ⟨b,o,cap,cs,e1,fl ax e2,e3⟩
 |fact F=>exact h
 |dead=>trivial
theorem aMO(h:aJ B ι c w)(qL:∀ k,B.mp k=none){r:List (Nat×Nat)}(jR:KL r=true)(kV:∀ j,ai L j=none↔kv r j=none)
  (hL:∀ j x m,ai L j=some x->kv r j=some m->HR r x/\c m=some (Dh r x)):aJ B (rf ι r) (ai L) w:=by
 have src:∀ j x,ai L j=some x->∃ m,kv r j=some m/\HR r x/\c m=some (Dh r x)/\rf ι r j=ι m:=λj x e=>by
  cases hr:kv r j with
  |none=>rw[(kV j).2 hr]at e;cases e
  |some m=>
   obtain⟨h1,h2⟩:=hL j x m e hr;exact⟨m,rfl,h1,h2,by unfold rf;rw[hr];rfl⟩
 refine⟨h.base,λk e=>?_,λk x e=>?_,λk x b o cap e hx hl=>?_,λk j x y b o cap o' bj e hx e' hy hl cZ=>?_,λk j x F b o cap v e hx hl e' hv=>?_,λk x b o cap e hx hl=>?_,λj F e=>?_,λj k F F' e e' h1 h2=>?_,λk l e=>?_⟩
 ·unfold rf;rw[(kV k).1 e];rfl
 ·obtain⟨m,_,h2,h3,h4⟩:=src k x e;obtain⟨l,q1,q2⟩:=h.born m _ h3;exact⟨l,h4.trans q1,aMN h2 q2⟩
 ·obtain⟨m,_,_,h3,h4⟩:=src k x e;exact h.own m _ b o cap h3 ((HT r x).1.trans hx) (h4▸hl)
 ·obtain⟨m,h1,_,h3,h4⟩:=src k x e;obtain⟨m',oh,_,Fu,KM⟩:=src j y e';have:=h.inj m m' _ _ b o cap o' bj h3 ((HT r x).1.trans hx) Fu ((HT r y).1.trans hy) (h4▸hl) (KM▸cZ);subst this;exact U2 jR k j m h1 oh
 ·obtain⟨m,_,_,h3,h4⟩:=src k x e;obtain⟨m',_,_,Fu,KM⟩:=src j _ e';exact h.apart m m' _ F b o cap v h3 ((HT r x).1.trans hx) (h4▸hl) Fu (KM▸hv)
 ·obtain⟨m,_,_,h3,h4⟩:=src k x e;obtain⟨p1,p2⟩:=h.seen m _ b o cap h3 ((HT r x).2.trans hx) (h4▸hl);refine⟨p1,λj y o' bj e' hy cZ=>?_⟩;obtain⟨m',_,_,Fu,KM⟩:=src j y e';exact p2 m' _ o' bj Fu ((HT r y).1.trans hy) (KM▸cZ)
 ·obtain⟨m,_,_,h3,_⟩:=src j _ e;exact h.fa m F h3
 ·obtain⟨m,q1,_,h3,_⟩:=src j _ e;obtain⟨m',Ab,_,Fu,_⟩:=src k _ e';have:=h.one m m' F F' h3 Fu h1 h2;subst this;exact U2 jR j k m q1 Ab
 ·rw[qL k]at e;cases e
def St(B:ae)(N:Nat)(fr:aM)(M:aE)(next:Nat)(a:Act)(w:h_):Prop:=∃ ι cc,fD B ι (bC fr) N a/\aJ B ι cc w/\cX cc M/\eH cc next
section
variable{P:j_}{B:ae}{N:Nat}
theorem qh{c:Code}{next:Nat}{r:lv}{a:Act}{Q:Exit->Act->World->Prop}(g:af P B N c fr M next r)(h:St B N fr M next a w)
  (hQ:∀ a' w',St B N r.fr r.M r.next a' w'->Q r.ex.Ai a' w'):c.wpIn (FW none) 0 P Q a w:=by
 obtain⟨ι,cc,h1,h2,h3,h4⟩:=h;exact g none ι cc a w Q h1 h2 h3 h4 λav bX a' w' _ q2 q3 q4 q5 _ _=>hQ a' w' ⟨av,bX,q2,q3,q4,q5⟩
theorem aCu{b:Code}{Q:Exit->Act->World->Prop}{a:Act}(n:Nat)(Inv:Nat->Act->World->Prop)(h0:Inv 0 a w)
  (body:∀ i,i<n->∀ a w,Inv i a w->∀ K:Act->World->Prop,(∀ a' w',Inv (i+1) a' w'->K a' w')->b.wpIn (FW none) 0 P (Exit.then K Q) a w)
  (last:∀ a w,Inv n a w->b.wpIn (FW none) 0 P (Exit.then (λ_ _=>False) Q) a w):(Code.loop b).wpIn (FW none) 0 P Q a w:=by
 refine Rq (n+1) ?_;have key:∀ d i,i+d=n->∀ a w,Inv i a w->Code.roundsIn (FW none) 0 P b Q (d+1) a w:=by
  intro d;induction d with
  |zero=>
   intro i hi a w h;have:i=n:=by omega
   subst this;rw[Ei];exact last a w h
  |succ d ih=>
   intro i hi a w h;rw[Ei];exact body i o_ a w h _ λa' w' h'=>ih (i+1) o_ a' w' h'
 exact key n 0 o_ a w h0
theorem St.KN{sE:aM}{next:Nat}{a:Act}(h:St B N fr M next a w)(qL:∀ k,B.mp k=none)(r:List (Nat×Nat))(jR:KL r=true)(kV:L.map (·.1)=r.map (·.1))
  (ax:∀ p∈L,HR r p.2) (hL:(r.map λp=>ai M p.2)=L.map λp=>some (Dh r p.2)) (Yn:(L.map λp=>ai L p.1)=L.map λp=>some p.2) (mD:(sE.all λp=>zv r p.2)=true) (hs:(sE.map λp=>bC fr p.1)=sE.map λp=>zu r p.2) (hn:(r.all λp=>Nat.blt p.1 A)=true):St B N sE L A a w:=by
 obtain⟨ι,cc,h1,h2,h3,h4⟩:=h;have hk:∀{L:aE} {r:List (Nat×Nat)},L.map (·.1)=r.map (·.1)->∀ j,ai L j=none↔kv r j=none:=by
  intro L;induction L with
  |nil=>intro r e j;cases r with
   |nil=>exact⟨λ_=>rfl,λ_=>rfl⟩
   |cons p r=>cases e
  |cons q L ih=>intro r e j;cases r with
   |nil=>cases e
   |cons p r=>
    injection e with e1 e2;obtain⟨q1,q2⟩:=q;obtain⟨p1,p2⟩:=p;dsimp only at e1;subst e1;unfold ai kv;cases Nat.beq q1 j with
    |true=>simp
    |false=>simpa using ih e2 j
 have aMP:∀{L:aE} {r':List (Nat×Nat)},L.map (·.1)=r'.map (·.1)->(r'.map λp=>ai M p.2)=L.map (λp=>some (Dh r p.2))->∀ j x m,ai L j=some x->kv r' j=some m->ai M m=some (Dh r x):=by
  intro L;induction L with
  |nil=>intro r' _ _ j x m e;cases e
  |cons q L ih=>intro r' e e' j x m hx hm;cases r' with
   |nil=>cases e
   |cons p r'=>
    injection e with e1 e2;injection e' with e3 e4;obtain⟨q1,q2⟩:=q;obtain⟨p1,p2⟩:=p;dsimp only at e1 e3;subst e1;unfold ai at hx;unfold kv at hm;cases hb:Nat.beq q1 j with
    |true=>
     rw[hb]at hx hm;simp only[qx]at hx hm;injection hx with hx;injection hm with hm;subst hx;subst hm;exact e3
    |false=>
     rw[hb]at hx hm;simp only[ui,uj]at hx hm;exact ih e2 e4 j x m hx hm
 refine⟨rf ι r,ai L,⟨h1.defers,h1.size,λt=>?_⟩,aMO h2 qL jR (hk kV) (λj x m e hr=>⟨ax _ (iQ e),h3 m _ (aMP kV hL j x m e hr)⟩),λk x e=>e,λk qD=>?_⟩
 ·have aU:∀{sE:aM},(sE.all λp=>zv r p.2)=true->(sE.map λp=>bC fr p.1)=(sE.map λp=>zu r p.2)->(mw (bC sE t)=true)\/(zv r (bC sE t)=true/\bC fr t=zu r (bC sE t)):=by
   intro sE;induction sE with
   |nil=>exact λ_ _=>.inl rfl
   |cons p l ih=>
    intro ho he;rw[eY,cY]at ho;injection he with e1 e2;obtain⟨p1,p2⟩:=p;rw[show bC ((p1,p2)::l) t=if Nat.beq p1 t=true then p2 else bC l t from rfl];by_cases hb:Nat.beq p1 t=true
    ·have:=jY hb;subst this;rw[au hb];exact .inr ⟨ho.1,e1⟩
    ·rw[al hb];exact ih ho.2 e2
  rcases aU mD hs with h|⟨q1,q2⟩
  ·exact .inl h
  ·have sT:=h1.slot t;rw[q2]at sT;have EJ:mw (zu r (bC sE t))=false:=by
    refine aMM r ?_;generalize bC sE t=v at *;unfold zv at q1;split at q1
    ·rfl
    ·unfold Ft at q1;split at q1
     ·rfl
     ·rfl
     ·rw[cY]at q1;simpa using q1.2
   exact .inr (aCs q1 (sT.z8 EJ))
 ·refine(hk kV k).2 ?_;cases e:kv r k with
  |none=>rfl
  |some m=>
   have:=aY.1 hn _ (U1 e);simp at this;omega
theorem aCw{c:Code}{next:Nat}{cc:g_}
  (hf:P.funcs[f]?=some fn) (hb:fn.body=some c) (hN:N=args.length+(fn.ntmps-args.length)) (dz:bL (aH ι) args args') (hm:aJ B ι cc w) (ha:cX cc M) (hu:eH cc next) (mE:B.ds=[])
  (h:∀ a,St B N (jZ 0 args) M next a w->c.wpIn (FW none) 0 P (bodyPost P fn Q) a w):Calls P f args'.toArray w Q:=by
 refine calls_of_wp hf hb (Yy (h _ ⟨ι,cc,⟨mE.symm,by simp[hN,dz.length],λt=>?_⟩,hm,ha,hu⟩));rcases Mv dz 0 t (List.replicate (fn.ntmps-args'.length) undef)with h|h
 ·simp only[kB,qx,Gl]at h;have e:(args'.toArray++Array.replicate (fn.ntmps-args'.toArray.size) undef).getD t undef=(args'++List.replicate (fn.ntmps-args'.length) undef).getD t undef:=by simp[pF,D7,<-Array.getElem?_toList]
  dsimp only;rw[e];exact h
 ·exact .inl h
theorem aCx{next:Nat}{v:i_}{a:Act}(h:St B N fr M next a w)(mE:B.ds=[])(hv:Aq P fn fr M=some v)
  (hQ:∀ ι cc v',aJ B ι cc w->cX cc M->aH ι v v'->Q (.returned v') w):bodyPost P fn Q .ret a w/\bodyPost P fn Q .normal a w:=by
 obtain⟨ι,cc,h1,h2,h3,_⟩:=h;obtain⟨v',hc,pC⟩:=Mu (fn:=fn) h1 h2 h3 hv;have:=hQ ι cc v' h2 h3 hc;exact⟨⟨h1.defers.trans mE,v',pC,this⟩,⟨h1.defers.trans mE,v',pC,this⟩⟩
end
section
variable{P:j_}{B:ae}{N:Nat}
theorem aMQ{z:i_}(ho:AB P o=some (0,[],e,size,z))(k:Nat):cz P B o [] [(k,none)] (.slice (some ⟨k,0,some 7⟩) 0 0) [(k,.row [] e size)]:=by
 unfold AB at ho;split at ho
 ·rename_i t lE parts bM;split at ho
  ·rename_i e' ht;split at ho
   ·rename_i i hi;split at ho
    ·rename_i z' hz;injection ho with ho;injection ho with h1 ho;injection ho with h2 ho;injection ho with h3 ho;injection ho with h4 h5;subst h1;subst h3;subst h4;subst h5;refine gT.step λι c ρ w aN hm hn=>?_;have hk:c k=none:=hn _ (aL ..);have hp:parts=#[]:=by
      have:parts.toList=[]:=by simpa using h2
      exact Hz.1 this
     subst hp;have tW:Map.le ι _:=gu (l:=.at w.heap.size 0 0) (hm.dw k hk);have iP:=Ge (ty:=e') (size:=i.size) (cap:=0) (rest:=#[]) hm hk (.nil:bL (aH ι) [] []) (kB _) s_;refine⟨_,.slice (some ⟨w.heap.size,0,none⟩) 0 0,_,tW,.slc (o:=0) (off:=0) (fC _ _ _) (bh _) rfl,iP,.inl ?_⟩;simp only[execOp,bM];simp[Instr.buildSlice,iZ ht,sizeOf,typeInfo,hi,newRow,Instr.fill,newObj,Sem.run];have e0:∀ f:Nat->Value,Array.map f (Array.range 0)=#[]:=λf=>Hz.1 (by rw[Array.toList_map,Array.toList_range];rfl);rw[e0]
    ·cases ho
   ·cases ho
  ·cases ho
 ·cases ho
theorem aMR{idx:l_}{z:i_}(ho:AB P o=some (len,idx,e,size,z)){cells:p_}(HO:∀ v∈z.cells.toList,flat v=true)(Ae:0<z.cells.size)
  (Cv:Js size len z (idx.zip vs)=some cells) (bE:cells.size=len*size) (yK:0<len*size) (hle:len*size<=16777216) (k:Nat) :
  cz P B o vs [(k,none)] (.slice (some ⟨k,0,some 7⟩) len 0) [(k,.row cells.toList e size)]:=by
 unfold AB at ho;split at ho
 ·rename_i t lE parts bM;split at ho
  ·rename_i e' ht;split at ho
   ·rename_i i hi;split at ho
    ·rename_i z' hz;injection ho with ho;injection ho with h1 ho;injection ho with h2 ho;injection ho with h3 ho;injection ho with h4 h5;subst h1;subst h2;subst h3;subst h4;subst h5;refine gT.step λι c ρ w aN hm hn=>?_;have hk:c k=none:=hn _ (aL ..);rw[bM]at aN;obtain⟨cL,aCy⟩:∃ cL,List.map ρ (parts.toList.map (·.2))=cL:=⟨_,rfl⟩;have sT:bL (aH ι) vs cL:=by rw[<-aCy];simpa[Op.operands]using aN
     have bP:List.map (λx=>(x.fst,ρ x.snd)) parts.toList=(parts.toList.map (·.1)).zip cL:=MY parts.toList aCy;have h0z:bL (aH ι) ((Array.range (lE*i.size)).map (z'.cells[·%z'.cells.size]!)).toList ((Array.range (lE*i.size)).map (z'.cells[·%z'.cells.size]!)).toList:=ky λv hv=>by rw[Array.toList_map,de]at hv;obtain⟨j,_,rfl⟩:=hv;rw[BB z'.cells _ (cE _ Ae)];exact HO _ s_
     obtain⟨cells',aMS,jb⟩:=Pb (ι:=ι) (place:=λj=>some (j*i.size,i.size)) (parts.toList.map λp:Nat×Operand=>p.1) sT h0z Cv;have aMT:cells'.size=lE*i.size:=by rw[<-yi,<-jb.length,yi,bE]
     have MZ:lE<=maxLen:=by have:lE<=lE*i.size:=Ez _ (Nat.pos_of_mul_pos_left yK);simp[maxLen];omega
     have tW:Map.le ι _:=gu (l:=.at w.heap.size 0 lE) (hm.dw k hk);have iP:=Ge (ty:=e') (size:=i.size) (cap:=lE) (rest:=#[]) hm hk jb MZ (by simpa using aMT);refine⟨_,.slice (some ⟨w.heap.size,0,none⟩) lE lE,_,tW,.slc (o:=0) (off:=0) (fC _ _ _) (bh _) o_,iP,.inl ?_⟩;have h0:¬(lE*i.size=0):=by omega
     have h1:¬(16777216<lE*i.size):=by omega
     simp only[execOp,bM];simp[Instr.buildSlice,iZ ht,sizeOf,typeInfo,hi,zeroValue,hz,h0,h1,newRow];rw[bP,aMS];simp[newObj,Sem.run]
    ·cases ho
   ·cases ho
  ·cases ho
 ·cases ho
def aQ.KO(fn:Func)(key k e size:Nat)(z:i_)(ho:AB P (ay fn key)=some (0,[],e,size,z)):aQ P B N:=
 .step key (ay fn key) [] [(k,none)] (.slice (some ⟨k,0,some 7⟩) 0 0) [(k,.row [] e size)] (aMQ ho k)
def aQ.bsM(fn:Func)(key k len e size:Nat)(idx:l_)(z:i_)(vs:ah)(cells:p_)(x:Obj)(hx:Obj.row cells.toList e size=x)(HO:∀ v∈z.cells.toList,flat v=true)(Ae:0<z.cells.size)
  (Cv:Js size len z (idx.zip vs)=some cells) (bE:cells.size=len*size) (yK:0<len*size) (hle:len*size<=16777216) (ho:AB P (ay fn key)=some (len,idx,e,size,z)):aQ P B N:=
 .step key (ay fn key) vs [(k,none)] (.slice (some ⟨k,0,some 7⟩) len 0) [(k,x)] (by subst hx;exact aMR ho HO Ae Cv bE yK hle k)
def aQ.ap0(fn:Func)(key k m e size bytes q:Nat)(x:Obj)(new:ah)(hx:x.reads=true)(hlen:x.cells.length=m*size)(iP:x.cells=new)
  (bE:0<size) (h63:m<=maxLen) (hb:m*bytes<=140737488355328) (ho:EA P (ay fn key)=some (e,size,bytes,size,true)):aQ P B N:=
 .step key (ay fn key) [.slice none 0 0,.slice (some ⟨q,0,some 7⟩) m 0] [(k,none),(q,some x)] (.slice (some ⟨k,0,some 7⟩) m 0) [(k,.row new e size)] (by
  subst iP;have hs:BW B (.slice (some ⟨q,0,some 7⟩) m 0) m x.cells [(q,some x)]:=by have:=L0 (B:=B) (k:=q) (off:=0) (m:=m) (cc:=0) hx (len:=m*size) (λh=>by rw[h,lB]);rw[lW,j0 (u4 hlen)]at this;exact this
  exact aH7 (B:=B) ho bE hs hlen h63 hb k)
theorem aCz{n:Nat}{nd:q_}(h:kL P f l ty size n xs)(hs:gh B l (vs++ca) nd)(ho:di o.op=some x)(eK:fW P f=true)(hx:(xs.all flat)=true)(k:Nat):
  cz P B o (.func (.func f) #[] ca.toArray::vs) ((k,none)::nd) (.slice (some ⟨k,0,some 7⟩) n 0) [(k,.row xs ty size)]:=by
 have:=jP (P:=P) (B:=B) (o:=o) (x:=x) (f:=f) (fi:=[]) (args:=vs) (ca:=ca) (need:=(k,none)::nd) (val:=.slice (some ⟨k,0,some 7⟩) n 0) (cP:=[(k,.row xs ty size)]) ho eK ?_
 ·simpa using this
 ·intro ι c w hm hn args' ha;rw[jy]at ha;refine(h w args' (Bg hs hm (λp hp=>hn p (bw _ hp)) ha)).mono ?_
  rintro e w' ⟨v,rfl,h1,h2⟩
  obtain⟨av,q1,q2,q3⟩:=En hm h2 (k:=k) (hn (k,none) (aL ..)) h1 (aY.1 hx);exact⟨av,v,rfl,q1,q3,q2⟩
def KP(P:j_)(o:Oper):Bool:=match o.op with
 |.call c=>match c.callee,c.args.toList,c.argTypes.toList with
  |.builtin .len,[_],[t]=>(match P.underlying t with|some (.slice _)=>true|_=>false)
  |_,_,_=>false
 |_=>false
theorem aCA(ho:KP P o=true):∃ x t e,o.op=.call { callee:=.builtin .len,args:=#[x],argTypes:=#[t]}/\P.underlying t=some (.slice e):=by
 unfold KP at ho;split at ho
 ·rename_i c bM;split at ho
  ·rename_i x t h1 h2 h3;split at ho
   ·rename_i e ht;refine⟨x,t,e,?_,ht⟩;rw[bM];obtain⟨ce,ar,at'⟩:=c;dsimp only at h1 h2 h3;subst h1;have e1:ar=#[x]:=by rw[<-xn (xs:=ar),h2]
    have e2:at'=#[t]:=by rw[<-xn (xs:=at'),h3]
    rw[e1,e2]
   ·cases ho
  ·cases ho
 ·cases ho
theorem aJ.less(hm:aJ B ι c w){s:Nat}{cells:ah}(hk:c k=some (.row cells ty s))(m:Nat):aJ B ι (aV c k (.row (cells.take m) ty s)) w:=by
 obtain⟨l,h1,h2⟩:=hm.born k _ hk;rcases h2 with ⟨h2,h3⟩|⟨b,cap,cur,e1,e2,e3,e4,e5⟩
 ·subst h3;refine hm.ext λj=>?_;unfold aV;by_cases hj:j=k
  ·rw[au hj,hj,hk,List.take_nil]
  ·rw[al hj]
 ·subst e1;refine hm.write hk rfl h1 (.refl w) rfl rfl (bh _) (λ_ _ _=>rfl) (.inr ⟨b,cap,cur,rfl,e2,e3,e4,?_⟩) n_ rfl;have:=e5.take m;rw[L6]at this;rw[jn];exact this
theorem aMU{s:Nat}(ho:rN P o=some (false,true,s)){n h sz:Nat}{cells:ah}(hh:h<=n):
  cz P B o [.slice (some ⟨k,0,some 7⟩) n 0,vI h] [(k,some (.row cells ty sz))] (.slice (some ⟨k,0,some 7⟩) h 0) [(k,.row (cells.take m) ty sz)]:=by
 have:=Gm (B:=B) ho (k:=k) (off:=0) (n:=n) (cc:=0) (l:=0) (h:=h) (λ_=>rfl) n_ (kB _) hh (.inr rfl);have h0:cz P B o [.slice (some ⟨k,0,some 7⟩) n 0,vI h] [] (.slice (some ⟨k,0,some 7⟩) h 0) []:=by simpa using this
 intro R ι c a w hv hm hn K Q hK;refine h0 R ι c a w hv hm n_ K Q λav v' w' h1 h2 h3=>hK av v' w' h1 h2 ?_;exact aJ.less h3 (hn (k,_) (aL ..)) m
def aQ.cut(fn:Func)(key k n h m s sz ty:Nat)(cells new:ah)(hh:h<=n)(iP:cells.take m=new)(ho:rN P (ay fn key)=some (false,true,s)):aQ P B N:=
 .step key (ay fn key) [.slice (some ⟨k,0,some 7⟩) n 0,vI h] [(k,some (.row cells ty sz))] (.slice (some ⟨k,0,some 7⟩) h 0) [(k,.row new ty sz)] (by subst iP;exact aMU ho hh)
end
def xD:Code->Code|.seq a _=>a|c=>c
def qi:Code->Code|.seq _ b=>b|c=>c
def dB(fn:Func):Code:=match fn.body with|some c=>c|none=>.skip
theorem aMV(l:l_):ak l=eQ (l.map λx:Nat=>(x:Int)):=by simp[ak,eQ];intro _ _;rfl
theorem nZ.snoc{cs:ah}{i:Int}{l:List Int}(h:nZ w fs cs)(hr:c8 w u l.length (eQ l))(hu:Go.Proofs.YthccllenbnhogaaGreatDoor.flat u=true):nZ w (fs++[(i,l)]) (cs++[iV i,u]):=by
 induction h with
 |nil=>exact .cons hr hu .nil
 |cons h1 h2 _ ih=>exact .cons h1 h2 ih
section
variable{P:j_}{B:ae}{N:Nat}
theorem aJ.aMW(hm:aJ B ι c w){s:Nat}{cells:ah}(hk:c k=some (.row cells ty s))(hl:cells'.length=cells.length)(h:∀ bY,bL (aH ι) cells bY->bL (aH ι) cells' bY):aJ B ι (aV c k (.row cells' ty s)) w:=by
 obtain⟨l,h1,h2⟩:=hm.born k _ hk;rcases h2 with ⟨h2,h3⟩|⟨b,cap,cur,e1,e2,e3,e4,e5⟩
 ·subst h3;have:cells'=[]:=kA hl;subst this;refine hm.ext λj=>?_;unfold aV;by_cases hj:j=k
  ·rw[au hj,hj,hk]
  ·rw[al hj]
 ·subst e1;refine hm.write hk rfl h1 (.refl w) rfl rfl (bh _) (λ_ _ _=>rfl) (.inr ⟨b,cap,cur,rfl,e2,e3,e4,?_⟩) n_ rfl;rw[hl];exact h _ e5
theorem aMX(hm:aJ B ι c w){cells:ah}(hk:c k=some (.row cells ty 1)):∃ u,aH ι (.slice (some ⟨k,0,some 7⟩) cells.length 0) u:=by
 obtain⟨l,h1,h2⟩:=hm.born k _ hk;rcases h2 with ⟨h2,h3⟩|⟨b,cap,cur,e1,e2,e3,e4,e5⟩
 ·subst h2;subst h3;exact⟨_,.slcN h1⟩
 ·subst e1;have hl:=e5.length;simp only[jn,yi,gn]at hl e4;exact⟨_,.slc (c:=0) (c':=cap) h1 o_ o_⟩
theorem St.nil{fr:aM}{M:aE}{next:Nat}{a:Act}{w:h_}(h:St B N fr M next a w)(t:Nat)(ht:bC fr t=.slice none 0 0)(ty:TypeId)(s:Nat):
  St B N ((t,.slice (some ⟨next,0,some 7⟩) 0 0)::fr) ((next,.row [] ty s)::M) (next+1) a w:=by
 obtain⟨ι,cc,h1,h2,h3,h4⟩:=h;have hn:=h4 next (bh _);have hle:Map.le ι (dD ι next .nil):=gu (h2.dw next hn);refine⟨dD ι next .nil,aV cc next (.row [] ty s),⟨h1.defers,h1.size,λt'=>?_⟩,h2.add hn (.inl ⟨rfl,rfl⟩) n_ n_ n_,λk x e=>?_,λk hk=>?_⟩
 ·have h0:=h1.slot t';rw[show bC ((t,Value.slice (some ⟨next,0,some 7⟩) 0 0)::fr) t'=if Nat.beq t t'=true then .slice (some ⟨next,0,some 7⟩) 0 0 else bC fr t' from rfl];by_cases hb:Nat.beq t t'=true
  ·rw[au hb];have:=jY hb;subst this;rw[ht]at h0;rw[(h0.z8 rfl).fh rfl];exact .inr (.slcN (fC _ _ _))
  ·rw[al hb];exact h0.mono hle
 ·unfold ai at e;split at e
  ·rename_i hb;injection e with e;subst e;unfold aV;rw[au (jY hb).symm]
  ·have:=h3 k x e;have bd:k≠next:=λe'=>by subst e';rw[hn]at this;cases this
   unfold aV;rw[al bd];exact this
 ·unfold aV;rw[al o_];exact h4 k o_
theorem St.Pn{next:Nat}{a:Act}{U5:TypeId}{v0:i_}(h:St (B.jw ks) N fr M next a w)
  (hm:ai M m=some (.row xs ty 1)) (cG:(xs.all flat)=true) (hk:ai M k=some (.row (pre++[v0,.slice (some ⟨m,0,some 7⟩) xs.length 0]) U5 2)) (hmk:m≠k) :
  ∃ u,flat u=true/\(∀ b,iB u=some b->¬B.cM b)/\St (B.jw ((u,xs)::ks)) N fr ((k,.row (pre++[v0,u]) U5 2)::(m,.dead)::M) next a w:=by
 obtain⟨ι,cc,h1,h2,h3,h4⟩:=h;obtain⟨u,hu⟩:=aMX h2 (h3 m _ hm);obtain⟨g1,g2,g3⟩:=Go.Proofs.YthccllenbnhogaaGreatDoor.Pn h2 (h3 m _ hm) (aY.1 cG) hu;have Fv:aV cc m .dead k=some (.row (pre++[v0,.slice (some ⟨m,0,some 7⟩) xs.length 0]) U5 2):=by unfold aV;rw[al (λe=>hmk e.symm)];exact h3 k _ hk
 have g4:=g1.aMW (cells':=pre++[v0,u]) Fv s_ λbY hc=>by
  have hl:(pre++[v0,Value.slice (some ⟨m,0,some 7⟩) xs.length 0]).length=bY.length:=hc.length;have c1:=hc.take (pre.length+1);have c2:=hc.drop (pre.length+1);rw[jM]at hl;have e1:(pre++[v0,Value.slice (some ⟨m,0,some 7⟩) xs.length 0]).take (pre.length+1)=pre++[v0]:=by rw[aBR];simp[j0]
  have e2:(pre++[v0,Value.slice (some ⟨m,0,some 7⟩) xs.length 0]).drop (pre.length+1)=[.slice (some ⟨m,0,some 7⟩) xs.length 0]:=by rw[List.drop_append];simp[List.drop_eq_nil_of_le]
  rw[e1]at c1;rw[e2]at c2;obtain⟨x,hx,hxc⟩:=mz c2;have:=I6 hxc hu;subst this;rw[<-KQ (pre.length+1) bY,hx,show pre++[v0,x]=(pre++[v0])++[x]by simp];exact c1.append (.cons (.same g2) .nil)
 refine⟨u,g2,g3,ι,_,⟨h1.defers,h1.size,h1.slot⟩,g4,λj x e=>?_,λj hj=>?_⟩
 ·unfold ai at e;split at e
  ·rename_i hb;injection e with e;subst e;unfold aV;rw[au (jY hb).symm]
  ·rename_i hb;have bT:j≠k:=λe'=>hb (by rw[e'];exact Eh k);unfold ai at e;split at e
   ·rename_i gM;injection e with e;subst e;unfold aV;rw[al bT,au (jY gM).symm]
   ·rename_i gM;have hjm:j≠m:=λe'=>gM (by rw[e'];exact Eh m);unfold aV;rw[al bT,al hjm];exact h3 j x e
 ·have qD:k<next:=by
   rcases eU k next with h|h
   ·exact h
   ·have:=h4 k h;rw[h3 k _ hk]at this;cases this
  have cU:m<next:=by
   rcases eU m next with h|h
   ·exact h
   ·have:=h4 m h;rw[h3 m _ hm]at this;cases this
  unfold aV;rw[al o_,al o_];exact h4 j hj
def aCB(P:j_)(f:FuncId)(l:List aK)(F:Fact):Prop:=
 ∀ w vs,uC w l vs->Calls P f vs.toArray w λe w'=>∃ v,e=.returned v/\Be w' v F/\(∀ b,F.cM v w' b->w.heap.size<=b)/\Below w.heap.size w w'
end
def Fact.j7(F:Fact)(S:Nat):Fact where
 G v w:=F.G v w/\∀ b,F.cM v w b->S<=b
 cM:=F.cM
 lt v w k h hk:=F.lt v w k h.1 hk
 dep v w w' h hs hk:=by obtain⟨h1,h2⟩:=F.dep v w w' h.1 hs hk;exact⟨⟨h1,λb hb=>h.2 b (h2 b hb)⟩,h2⟩
 rc:=F.rc
 soft hr v w w' h hs hk:=by obtain⟨h1,h2⟩:=F.soft hr v w w' h.1 hs hk;exact⟨⟨h1,λb hb=>h.2 b (h2 b hb)⟩,h2⟩
section
variable{P:j_}{B:ae}{N:Nat}
theorem aMY{nd:q_}{S:Nat}(h:aCB P f l F)(hs:gh B l vs nd)(ho:di o.op=some x)(eK:fW P f=true)(wi:F.rc=false)(hS:∀ w,B.G w->S<=w.heap.size)(k:Nat):
  cz P B o (.func (.func f) #[] #[]::vs) ((k,none)::nd) (.pointer (some ⟨k,0,some 9⟩)) [(k,.fact (F.j7 S))]:=by
 have:=jP (P:=P) (B:=B) (o:=o) (x:=x) (f:=f) (fi:=[]) (args:=vs) (ca:=[]) (need:=(k,none)::nd) (val:=.pointer (some ⟨k,0,some 9⟩)) (cP:=[(k,.fact (F.j7 S))]) ho eK ?_
 ·simpa using this
 ·intro ι c w hm hn args' ha;rw[jy,gY]at ha;refine(h w args' (Bg hs hm (λp hp=>hn p (bw _ hp)) ha)).mono ?_
  rintro e w' ⟨v,rfl,⟨h1,h2,h3⟩,h4,h5⟩
  have KR:=hS w hm.base;refine⟨dD ι k (.val v),v,rfl,gu (hm.dw k (hn (k,none) (aL ..))),.opq (fC _ _ _) h2 h3,hm.new h5 (hn (k,none) (aL ..)) ⟨v,rfl,h1,λb hb=>dc KR (h4 b hb)⟩ n_ (λF' v' b e1 e2 hF=>?_) rfl λF' e hr=>?_⟩
  ·injection e1 with e1;subst e1;injection e2 with e2;subst e2;exact .inl (h4 b hF)
  ·injection e with e;subst e;have:F.rc=true:=hr;rw[wi]at this;cases this
structure aMZ(w w':h_)(kO s1 n1:Nat)(iA:ah)(uI s2 n2:Nat)(ji:ah)(F:Fact)(v1 v2 v3:i_):Prop where
 r1:w'.ownsRow w.heap.size kO s1 v1 n1 iA
 r2:w'.ownsRow w.heap.size uI s2 v2 n2 ji
 r3:Be w' v3 F
 f3:∀ b,F.cM v3 w' b->w.heap.size<=b
 a12:∀ b,iB v1=some b->iB v2≠some b
 Po:∀ b,iB v1=some b->¬F.cM v3 w' b
 a23:∀ b,iB v2=some b->¬F.cM v3 w' b
def Di(P:j_)(f:FuncId)(l:List aK)(kO s1 n1:Nat)(iA:ah)(uI s2 n2:Nat)(ji:ah)(F:Fact)(us:ah):Prop:=
 ∀ w vs,uC w l vs->Calls P f vs.toArray w λe w'=>∃ v1 v2 v3,e=.returned (.tuple (.agg #[v1,v2,v3]::us).toArray)/\aMZ w w' kO s1 n1 iA uI s2 n2 ji F v1 v2 v3/\Below w.heap.size w w'
theorem HU(hm:aJ B ι c w){n:Nat}{v:i_}(hc:aH ι (.slice (some ⟨k,0,some 7⟩) n cc) v)(hb:iB v=some b):∃ o cap,ι k=some (.at b o cap):=by
 rcases hc.gR rfl with ⟨_,_,_,_,q5⟩|⟨b',oo,cap,c',q1,_,_,q5⟩
 ·rw[q5]at hb;cases hb
 ·rw[q5]at hb;injection hb with hb;subst hb;exact⟨oo,cap,q1⟩
theorem U6{k3:Nat}{ji us:ah}(iq:P.follows .mixedOrders=true)(hf:P.funcs[f]?=some fn)(hl:(l.all aK.ok)=true)(n:Nat){N:Nat}(hN:N=(eM 0 l).length+(fn.ntmps-(eM 0 l).length))
  (rs:∀ w,bH P (ae.at w) N) (h:∀ w,ou (gD (P:=P) fn n (eM 0 l) (jr 0 l) (jG 0 l) (rs w)) [(k1,.row ew A U),(k2,.row ji a1 m1),(k3,.fact (F.j7 w.heap.size))] =
   ow (gD fn n (eM 0 l) (jr 0 l) (jG 0 l) (rs w)) (.tuple (.agg #[.slice (some ⟨k1,0,some 7⟩) n1 0,.slice (some ⟨k2,0,some 7⟩) n2 0,.pointer (some ⟨k3,0,some 9⟩)]::us).toArray) [(k1,.row ew A U),(k2,.row ji a1 m1),(k3,.fact (F.j7 w.heap.size))])
  (OD:k1≠k2) (um:(ew.all flat)=true) (uZ:ew.length=n1*U) (gK:(ji.all flat)=true) (ll:ji.length=n2*m1) (hu:(us.all flat)=true):Di P f l A U n1 ew a1 m1 n2 ji F us:=by
 intro w vs cx;obtain⟨ι,c,h1,h2,h3,h4,h5,h6,h7⟩:=xm cx (aY.1 hl) 0 _ _ (sZ w) n_ (λ_ _=>rfl);refine uc iq hf hN n (h w) h6 h2 h4 h3 λav bX v' w' hle hc hm dG=>?_;obtain⟨cL,rfl,pE⟩:=hc.tS;have hc:bL (aH av) (.agg #[.slice (some ⟨k1,0,some 7⟩) n1 0,.slice (some ⟨k2,0,some 7⟩) n2 0,.pointer (some ⟨k3,0,some 9⟩)]::us) cL.toList:=pE;cases aN:cL.toList with
 |nil=>rw[aN]at hc;cases hc
 |cons a t=>
  rw[aN]at hc;cases hc with
  |cons ha ht=>
   obtain⟨ags,rfl,fX⟩:=ha.Gb;have A7:bL (aH av) [.slice (some ⟨k1,0,some 7⟩) n1 0,.slice (some ⟨k2,0,some 7⟩) n2 0,.pointer (some ⟨k3,0,some 9⟩)] ags.toList:=fX;obtain⟨v1,v2,v3,e3,c1,c2,c3⟩:=IP A7;have et:=mZ ht (aY.1 hu);have g1:=dG (k1,_) (aL ..);have g2:=dG (k2,_) (bw _ (aL ..));have g3:=dG (k3,_) (bw _ (bw _ (aL ..)));have o1:=vk hm g1 c1 o_ (aY.1 um);have o2:=vk hm g2 c2 o_ (aY.1 gK);rw[<-uZ,mN]at o1;rw[<-ll,mN]at o2;have o3:=yZ hm g3 c3;have aCC:av k3=some (.val v3):=by
    obtain⟨lc,q1,u,q2,q3⟩:=hm.born k3 _ g3;subst q2;generalize hp:Value.pointer (some ⟨k3,0,some 9⟩)=p at c3;cases c3 with
    |same h=>subst hp;cases h
    |ptr h=>injection hp with hp;injection hp with hp;injection hp with _ _ hp;cases hp
    |slc h=>cases hp
    |slcN h=>cases hp
    |opq h4 h5 h6=>injection hp with hp;injection hp with hp;injection hp with iD;subst iD;exact h4
    |fn=>cases hp
    |agg=>cases hp
    |tup=>cases hp
   refine⟨v1,v2,v3,?_,⟨o1,o2,⟨o3.1.1,o3.2⟩,o3.1.2,λb pG gM=>?_,λb hb hF=>?_,λb hb hF=>?_⟩,hm.base⟩
   ·congr 2
    rw[<-xn (xs:=cL),aN,et]
    congr 2
    congr 1
    rw[<-xn (xs:=ags),e3]
   ·obtain⟨o,cap,q1⟩:=HU hm c1 pG;obtain⟨o',bj,q2⟩:=HU hm c2 gM;exact OD (hm.inj k1 k2 _ _ b o cap o' bj g1 rfl g2 rfl q1 q2)
   ·obtain⟨o,cap,q1⟩:=HU hm c1 hb;exact hm.apart k1 k3 _ _ b o cap v3 g1 rfl q1 g3 aCC hF
   ·obtain⟨o,cap,q1⟩:=HU hm c2 hb;exact hm.apart k2 k3 _ _ b o cap v3 g2 rfl q1 g3 aCC hF
theorem U7{S n s:Nat}{v:i_}(hm:aJ B ι c w')(hk:c k=none)(hr:w'.ownsRow S ty s v n xs)(cG:(xs.all flat)=true)(hB:∀ b,B.cM b->b<S)
  (hold:∀ j y b o cap,c j=some y->ι j=some (.at b o cap)->y.owns=true\/y.jv=true->iB v≠some b) (aM0:∀ j F u b,c j=some (.fact F)->ι j=some (.val u)->iB v=some b->¬F.cM u w' b) :
  ∃ av,Map.le ι av/\aJ B av (aV c k (.row xs ty s)) w'/\aH av (.slice (some ⟨k,0,some 7⟩) n 0) v/\∀ b o cap,av k=some (.at b o cap)->iB v=some b:=by
 have hle:∀ l,Map.le ι (dD ι k l):=λl=>gu (hm.dw k hk);rcases hr.2 with ⟨h1,h2⟩|⟨g,cap,cur,h1,h2,h3,h4,h5,h6,h7⟩
 ·have hl:=hr.1;rw[h2,lB]at hl;have hx:xs=[]:=kA hl;subst h1;subst h2;subst hx;exact⟨dD ι k .nil,hle _,hm.add hk (.inl ⟨rfl,rfl⟩) n_ n_ n_,.slcN (fC _ _ _),λb o cap e=>by rw[fC]at e;cases e⟩
 ·subst h1;refine⟨dD ι k (.at g 0 cap),hle _,hm.add hk (.inr ⟨g,cap,cur,rfl,h3,h5,h6,?_⟩) (λb1 o1 kS _ e=>?_) n_ n_,.slc (o:=0) (off:=0) (fC _ _ _) h4 o_,λb1 o1 kS e=>?_⟩
  ·rw[hr.1,h7];exact ky (aY.1 cG)
  ·injection e with e;subst e;refine⟨(wG.1 h3).1,λhF=>by have:=hB _ hF;omega,λj y o' bj hj hy he=>hold j y g o' bj hj he (.inl hy) rfl,λj F u hj hu hF=>aM0 j F u g hj hu rfl hF,λj y o' bj hj hy he=>hold j y g o' bj hj he (.inr hy) rfl⟩
  ·rw[fC]at e;injection e with e;injection e with e;subst e;rfl
theorem KS{s2:Nat}{ji:ah}{us:ah}{nd:q_}{S:Nat}(h:Di P f l A U n1 ew a1 s2 n2 ji F us)(hs:gh B l vs nd)(ho:di o.op=some x)(eK:fW P f=true)(wi:F.rc=false)
  (f1:(ew.all flat)=true) (f2:(ji.all flat)=true) (fu:(us.all flat)=true) (hS:∀ w,B.G w->S<=w.heap.size) (k:Nat) :
  cz P B o (.func (.func f) #[] #[]::vs) ((k,none)::(k+1,none)::(k+2,none)::nd) (.tuple (.agg #[.slice (some ⟨k,0,some 7⟩) n1 0,.slice (some ⟨k+1,0,some 7⟩) n2 0,.pointer (some ⟨k+2,0,some 9⟩)]::us).toArray)
   [(k+2,.fact (F.j7 S)),(k+1,.row ji a1 s2),(k,.row ew A U)]:=by
 have:=jP (P:=P) (B:=B) (o:=o) (x:=x) (f:=f) (fi:=[]) (args:=vs) (ca:=[]) (need:=(k,none)::(k+1,none)::(k+2,none)::nd)
  (val:=.tuple (.agg #[.slice (some ⟨k,0,some 7⟩) n1 0,.slice (some ⟨k+1,0,some 7⟩) n2 0,.pointer (some ⟨k+2,0,some 9⟩)]::us).toArray) (cP:=[(k+2,.fact (F.j7 S)),(k+1,.row ji a1 s2),(k,.row ew A U)]) ho eK ?_
 ·simpa using this
 ·intro ι c w hm hn args' ha;rw[jy,gY]at ha;have k0:c k=none:=hn (k,none) s_;have k1:c (k+1)=none:=hn (k+1,none) s_;have k2:c (k+2)=none:=hn (k+2,none) s_;refine(h w args' (Bg hs hm (λp hp=>hn p (by simp[hp])) ha)).mono ?_
  rintro e w' ⟨v1,v2,v3,rfl,⟨r1,r2,r3,f3,a12,Po,a23⟩,hb⟩
  have KR:=hS w hm.base;have uJ:=hm.call hb
  -- where aUt lie
  have cT:∀ j y b o cap,c j=some y->ι j=some (.at b o cap)->y.owns=true\/y.jv=true->b<w.heap.size:=λj y b o cap hj hl hy=>by
   rcases hy with hy|hy
   ·exact(hm.own j y b o cap hj hy hl).1
   ·exact(hm.seen j y b o cap hj hy hl).1
  have Pp:∀ j F u b,c j=some (.fact F)->ι j=some (.val u)->F.cM u w' b->b<w.heap.size:=λj F u b hj hu hF=>by have hF:=hm.DW hj hu hb.size (λk hk _=>hb.block k hk) hF;obtain⟨l,q1,q2⟩:=hm.born j _ hj;rw[hu]at q1;injection q1 with q1;exact q2.DU q1.symm hF
  have KT:∀ b,iB v1=some b->w.heap.size<=b:=λb hb=>by
   rcases r1.2 with ⟨h1,_⟩|⟨g,cap,cur,h1,h2,_⟩
   ·rw[h1]at hb;cases hb
   ·rw[h1]at hb;injection hb with hb;subst hb;exact h2
  have aCD:∀ b,iB v2=some b->w.heap.size<=b:=λb hb=>by
   rcases r2.2 with ⟨h1,_⟩|⟨g,cap,cur,h1,h2,_⟩
   ·rw[h1]at hb;cases hb
   ·rw[h1]at hb;injection hb with hb;subst hb;exact h2
  have Pq:∀ b,B.cM b->b<w.heap.size:=λb hF=>B.lt w b hm.base hF;obtain⟨bJ,l1,m1,c1,p1⟩:=U7 uJ k0 r1 f1 Pq (λj y b o cap hj hl hy e=>by have a:=cT j y b o cap hj hl hy;have b:=KT b e;omega) (λj F u b hj hu e hF=>by have a:=Pp j F u b hj hu hF;have b:=KT b e;omega);have bn:∀{ι:Map} {c:g_},aJ B ι c w'->∀ j y,c j=some y->∃ l,ι j=some l:=λh j y hj=>by obtain⟨l,q,_⟩:=h.born j y hj;exact⟨l,q⟩
  have back:∀{ι bJ:Map} {c:g_},aJ B ι c w'->Map.le ι bJ->∀ j y l,c j=some y->bJ j=some l->ι j=some l:=λh hle j y l hj hl=>by obtain⟨l',cZ⟩:=bn h j y hj;have:=hle j l' cZ;rw[hl]at this;injection this with this;rw[this];exact cZ
  have Pr:aV c k (.row ew A U) (k+1)=none:=by unfold aV;rw[al o_];exact k1
  have KU:∀ j y,aV c k (.row ew A U) j=some y->(j=k/\y=.row ew A U)\/(j≠k/\c j=some y):=λj y hj=>by
   unfold aV at hj;by_cases bT:j=k
   ·rw[au bT]at hj;injection hj with hj;exact .inl ⟨bT,hj.symm⟩
   ·rw[al bT]at hj;exact .inr ⟨bT,hj⟩
  obtain⟨dq,l2,m2,c2,p2⟩:=U7 m1 Pr r2 f2 Pq (λj y b o cap hj hl hy e=>by
   rcases KU j y hj with ⟨rfl,rfl⟩|⟨_,hj⟩
   ·exact a12 b (p1 b o cap hl) e
   ·have a:=cT j y b o cap hj (back uJ l1 j y _ hj hl) hy;have b:=aCD b e;omega) (λj F u b hj hu e hF=>by
   rcases KU j _ hj with ⟨_,h⟩|⟨_,hj⟩
   ·cases h
   ·have a:=Pp j F u b hj (back uJ l1 j _ _ hj hu) hF;have b:=aCD b e;omega)
  have k2':aV (aV c k (.row ew A U)) (k+1) (.row ji a1 s2) (k+2)=none:=by unfold aV;rw[al o_,al o_];exact k2
  have m3:aJ B (dD dq (k+2) (.val v3)) (aV (aV (aV c k (.row ew A U)) (k+1) (.row ji a1 s2)) (k+2) (.fact (F.j7 S))) w':=
   m2.add k2' ⟨v3,rfl,r3.1,λb hF=>dc KR (f3 b hF)⟩ n_ (λF' v b e1 e2 hF j y o' bj hj hy he=>by
    injection e1 with e1;subst e1;injection e2 with e2;subst e2;have hF:F.cM v3 w' b:=hF;have AG:=hj;unfold aV at hj;by_cases bT:j=k+1
    ·subst bT;exact a23 b (p2 b o' bj he) hF
    ·rw[al bT]at hj;have he1:=back m1 l2 j y _ hj he;rcases KU j y hj with ⟨rfl,rfl⟩|⟨_,hj⟩
     ·exact Po b (p1 b o' bj he1) hF
     ·have h1:=cT j y b o' bj hj (back uJ l1 j y _ hj he1) (.inl hy);have h2:=f3 b hF;omega) n_ λF' e hr=>by
    injection e with e;subst e;have:F.rc=true:=hr;rw[wi]at this;cases this
  have l3:Map.le dq (dD dq (k+2) (.val v3)):=gu (m2.dw _ k2');refine⟨_,_,rfl,l1.trans (l2.trans l3),.tup ?_,m3⟩;refine .cons (.agg (.cons (c1.mono (l2.trans l3)) (.cons (c2.mono l3) (.cons (.opq (fC _ _ _) r3.2.1 r3.2.2) .nil)))) (ky λv hv=>aY.1 fu v hv)
end
section
variable{P:j_}{B:ae}{N:Nat}
def aQ.sF(key i j p:Nat)(h:p=i*j)(hp:p<9223372036854775808):aQ P B N:=
 .rw key (.int .i64 (IntKind.i64.wrap ((i:Int)*(j:Int)))) (vI p) (by
  have e:((i:Int)*(j:Int))=((i*j:Nat):Int):=by simp
  rw[e,<-h];have e:IntKind.i64.wrap (p:Int)=(p:Int):=by rw[dU];omega
  rw[e];rfl)
def aQ.Fw(key a b r:Nat)(h:r=a%b):aQ P B N:=
 .rw key (.int .i64 (Int.tmod (a:Int) (b:Int))) (vI r) (by rw[yJ o_,h];rfl)
def aQ.Fx(key a b q:Nat)(h:q=a/b)(ha:a<9223372036854775808):aQ P B N:=
 .rw key (.int .i64 (IntKind.i64.wrap (Int.tdiv (a:Int) (b:Int)))) (vI q) (by
  rw[Az o_,h];have e:((a:Int)/(b:Int))=((a/b:Nat):Int):=by simp
  have hq:a/b<=a:=tf _ _;rw[e];have e:IntKind.i64.wrap ((a/b:Nat):Int)=((a/b:Nat):Int):=by rw[dU];omega
  rw[e];rfl)
theorem KV{cells:ah}(iq:P.follows .mixedOrders=true)(hf:P.funcs[f]?=some fn)(hl:(l.all aK.ok)=true)(n:Nat){N:Nat}(hN:N=(eM 0 l).length+(fn.ntmps-(eM 0 l).length))
  (rs:∀ w,bH P (ae.at w) N) (h:∀ w,ou (gD (P:=P) fn n (eM 0 l) (jr 0 l) (jG 0 l) (rs w)) [(k,.row cells ty size)]=ow (gD fn n (eM 0 l) (jr 0 l) (jG 0 l) (rs w)) (.slice (some ⟨k,0,some 7⟩) m 0) [(k,.row cells ty size)])
  (hx:(cells.all flat)=true) (hlen:m*size<=cells.length) (nC:cells.take (m*size)=xs):kL P f l ty size m xs:=by
 intro w vs cx;obtain⟨ι,c,h1,h2,h3,h4,h5,h6,h7⟩:=xm cx (aY.1 hl) 0 _ _ (sZ w) n_ (λ_ _=>rfl);refine uc iq hf hN n (h w) h6 h2 h4 h3 λav bX v' w' hle hc hm dG=>⟨v',rfl,?_,hm.base⟩;have:=vk hm (dG (k,_) (aL ..)) hc hlen (aY.1 hx);rwa[nC]at this
end
theorem BC{n:Nat}(h:a<bz^n):(ak (aa bz n a)).take (nd bz a*1)=cH a:=by have hle:=jd (B:=bz) d_ h;unfold cH ak;rw[gn,<-Cd,Jc hle]
theorem Fy{n:Nat}(h:a<bz^n):nd bz a*1<=(ak (aa bz n a)).length:=by have hle:=jd (B:=bz) d_ h;rw[nD,oy];omega
theorem HV(a:Nat):(ju a).ok=true:=sD a
theorem HW:(16777216:Nat)=256^3:=by decide
theorem aM1:(a%256^i/bz^(i/3)%bz)+(a/256^i%256*2^(8*(i%3)))=a%256^(i+1)/bz^(i/3)%bz:=by
 have e1:bz^(i/3)=256^(3*(i/3)):=by rw[show bz=256^3 from HW,<-rQ]
 have e2:(2:Nat)^(8*(i%3))=256^(i%3):=by rw[rQ]
 have e3:256^i=256^(3*(i/3))*256^(i%3):=by rw[<-eh];congr 1;omega
 have hr:256^(i%3)*256<=bz:=by rw[show bz=256^3 from HW,<-dr];exact c7 d_ o_
 rw[e1,e2];have m1:a%256^i/256^(3*(i/3))=a/256^(3*(i/3))%256^(i%3):=by rw[e3,Ay]
 have m2:a%256^(i+1)/256^(3*(i/3))=a/256^(3*(i/3))%(256^(i%3)*256):=by rw[dr,e3,fK,Ay]
 have m3:a/256^i%256=a/256^(3*(i/3))/256^(i%3)%256:=by rw[e3,kE]
 rw[m1,m2,m3];generalize a/256^(3*(i/3))=c;have hp:0<256^(i%3):=cF d_;have h1:=cE c hp;have h3:c%(256^(i%3)*256)=c%256^(i%3)+256^(i%3)*(c/256^(i%3)%256):=MD;have h4:c%(256^(i%3)*256)<256^(i%3)*256:=cE _ o_;rw[dJ (cC h4 hr),h3,dJ (cC h1 (dc (Ez _ d_) hr)),cK (c/256^(i%3)%256)]
theorem aM2(h:j≠i/3):a%256^i/bz^j%bz=a%256^(i+1)/bz^j%bz:=by
 have e1:bz^j=256^(3*j):=by rw[show bz=256^3 from HW,<-rQ]
 rw[e1];rcases Eb h with h1|h1
 ·have k:∀ i,3*j+3<=i->a%256^i/256^(3*j)%bz=a/256^(3*j)%bz:=by
   intro i hi;have e3:256^i=256^(3*j)*(bz*256^(i-3*j-3)):=by rw[show bz=256^3 from HW,<-eh,<-eh];congr 1;omega
   rw[e3,Ay,Jo]
  rw[k i o_,k (i+1) o_]
 ·have hp:∀ i,i<=3*j->a%256^i/256^(3*j)=0:=by intro i hi;exact lV (cC (cE _ (cF d_)) (c7 d_ hi))
  rw[hp i o_,hp (i+1) o_]
theorem aM3{n:Nat}(hi:i/3<n):(aa bz n (a%256^i)).set (i/3) (a%256^(i+1)/bz^(i/3)%bz)=aa bz n (a%256^(i+1)):=by
 apply wK
 ·simp[aa]
 ·intro j h1 h2;simp only[aa,fk,Ar]at h2;rw[Gq];simp only[aa,Ce,Cf];by_cases hj:i/3=j
  ·rw[au hj,hj]
  ·rw[al hj];exact aM2 (mB hj)
section
variable{Bs:ae}{N a:Nat}{s:ByteArray}
def aVD(s:ByteArray)(N i:Nat):aM:=[(4,vI i),(0,.string s),(3,sl 0 N)]
def aU4(N a i:Nat):aE:=[(0,.row (ak (aa bz N (a%256^i))) 3 1)]
theorem aM4(hN:N=(s.size+2)/3)(ha:a=ko s)(hi:i<s.size)(h63:s.size<35184372088832):
  af prog Bs 38 (aF (ag f159 0)) (aVD s N i) (aU4 N a i) 1 ⟨.normal,aVD s N (i+1),aU4 N a (i+1),1⟩:=by
 obtain⟨c,gj,c9⟩:=RT s hi;rw[<-ha]at c9;have wS:i/3<N:=by omega
 have hb:=aM1 (a:=a) (i:=i);have h1:a%256^(i+1)/bz^(i/3)%bz<bz:=aMA;have h3:c.toNat*2^(8*(i%3))<=bz:=by rw[c9];omega
 have bK:=vQ (l:=aa bz N (a%256^i)) (i:=i/3) (d:=a%256^(i+1)/bz^(i/3)%bz) (by rw[oy];exact wS);rw[aM3 wS]at bK;have hg:(aa bz N (a%256^i))[i/3]?=some (a%256^i/bz^(i/3)%bz):=ee wS;have uK:IntKind.i64.wrap ((c.toNat:Int)*2^(min (8*(i%3)) IntKind.i64.bits))=((c.toNat*2^(8*(i%3)):Nat):Int):=by
  have e:(c.toNat:Int)*2^(8*(i%3))=((c.toNat*2^(8*(i%3)):Nat):Int):=by simp
  rw[show min (8*(i%3)) IntKind.i64.bits=8*(i%3)from nh (show 8*(i%3)<=64 by omega),dU,e];unfold bz at h3;omega
 rw[<-c9]at hb;unfold aU4;generalize ak (aa bz N (a%256^(i+1)))=r1 at *;generalize nS:ak (aa bz N (a%256^i))=r0 at *;have iS:=dP hg;rw[nS]at iS;generalize a%256^i/bz^(i/3)%bz=x at *;generalize a%256^(i+1)/bz^(i/3)%bz=y at *;generalize hp:c.toNat*2^(8*(i%3))=p at *;exact az [.rw 13 (.int .i64 (s.size:Int)) (vI s.size) rfl,.lt 14 i s.size true (aC hi),.rw 18 (.int .i64 (s.size:Int)) (vI s.size) rfl,.eW 19 s.size 1 (s.size-1) o_ o_,.eW 21 (s.size-1) i (s.size-1-i) o_ o_,.Fx 24 i 3 (i/3) rfl o_,.ix f159 25 0 N (i/3) wS k_,.ld f159 26 3 0 (i/3) (.row r0 3 1) (vI x) rfl iS k_,.sx f159 29 s (s.size-1-i) c gj k_,.wr 30 .i64 (c.toNat:Int) (c.toNat:Int) (by rw[dU];have:=c.toNat_lt;omega),.Fw 32 i 3 (i%3) rfl,.sF 33 8 (i%3) (8*(i%3)) rfl o_,.shl f159 34 .i64 (c.toNat:Int) (p:Int) (8*(i%3)) uK k_,.sum 35 x p y hb.symm (by unfold bz at h1;omega),.ix f159 36 0 N (i/3) wS k_,.st f159 100036 3 0 (i/3) (.row r0 3 1) (vI y) (.row r1 3 1) rfl bK rfl k_,.sum 16 i 1 (i+1) rfl o_]
theorem aM5(hN:N=(s.size+2)/3)(ha:a=ko s)(h63:s.size<35184372088832):
  af prog Bs 38 (.block 0 (ag f159 0)) (aVD s N 0) (aU4 N a 0) 1 ⟨.normal,[(3,sl 0 N)],aU4 N a s.size,1⟩:=
 bO (id:=0) (ck (b:=aF (ag f159 0)) (r:=⟨.exit 0,[(3,sl 0 N)],aU4 N a s.size,1⟩) s.size (aVD s N) (aU4 N a)
  (λi k _=>jO (l:=aU4 N a i) (m:=aU4 N a 0) rfl k) (λi hi=>aM4 hN ha hi h63) (az [.rw 13 (.int .i64 (s.size:Int)) (vI s.size) rfl,.lt 14 s.size s.size false s_]) n_)
end
theorem aM6{s:ByteArray}(h63:s.size<35184372088832):kL prog 159 [.p (.string s)] 3 1 ((s.size+2)/3) (ak (aa bz ((s.size+2)/3) (ko s))):=by
 have lo:=λBs=>aM5 (Bs:=Bs) (N:=(s.size+2)/3) (a:=ko s) rfl rfl h63;have h0:ak (aa bz ((s.size+2)/3) (ko s%256^0))=List.replicate ((s.size+2)/3) (vI 0):=by
  rw[rP,s9,KK]
  congr 1
  unfold aa;rw[List.eq_replicate_iff];simp
 have h1:ko s%256^s.size=ko s:=dJ (YZ s);unfold aU4 at lo;rw[h0,h1]at lo;have fl:=hY (aa bz ((s.size+2)/3) (ko s));have hl:(ak (aa bz ((s.size+2)/3) (ko s))).length=(s.size+2)/3*1:=by rw[nD,oy];omega
 generalize ak (aa bz ((s.size+2)/3) (ko s))=r1 at *;exact yY (k:=0) mixed func159 k_ 100 (N:=38) k_ (λ_=>[.rw 7 (.int .i64 (s.size:Int)) (vI s.size) rfl,.sum 8 s.size 2 (s.size+2) rfl o_,.Fx 9 (s.size+2) 3 ((s.size+2)/3) rfl o_,.pI f159 10 0 ((s.size+2)/3) 3 8 (vI 0) (List.replicate ((s.size+2)/3) (vI 0)) rfl rfl rfl o_ (by simp[maxLen];omega) k_,.code 0 _ _ _ _ _ (lo _)]) (λ_=>k_) fl hl
end Go.Proofs.YthccllenbnhogaaGreatDoor
