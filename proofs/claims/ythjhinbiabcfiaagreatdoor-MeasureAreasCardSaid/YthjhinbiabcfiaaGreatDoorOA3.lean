/- Ends and areas: the proof of MeasureAreasCardSaid (the law's function answers true at every solid, direction and number; theorem measureAreas_card, last part), part 3 of 7; no condition. -/
import Derived.Test.YthjhinbiabcfiaaGreatDoorOA2
namespace Go.Proofs.YthjhinbiabcfiaaGreatDoor
open Go Go.RowKit Tryz
variable{i m a q b j size e d off N cc len k1 n2 k2 D n1 A U a1 m1:Nat}{w w':h_}{ι κ bP:Map}{o:Oper}{c:g_}{f:FuncId}{B Bs:aa}{t:Bool}{fr:aN}{M L Os Vs cx:aH}{ty:TypeId}{xs args vs ca cells' args' eT pre:ah}{fn:Func}{α:Type}{u v' res:i_}{fs:f_}{P:j_}{z:Int}{Q:Ending->World->Prop}{ks:List (Value×ah)}{ns:l_}{dW:Code}
def FR(D:Nat):Deferred:={ target:=.collected D,args:=#[]}
def aa.held(B:aa)(D:Nat):aa where
 G w:=B.G w/\w.heap[D]?=some (.deferred (some []))
 cS k:=B.cS k\/k=D
 ds:=FR D::B.ds
 Fa:=B.Fa
 mp:=B.mp
 lt w k h hk:=by
  rcases hk with hk|rfl
  ·exact B.lt w k h.1 hk
  ·exact(wY.1 h.2).1
 dep w w' h h1 h2 h3 h4 h5:=⟨B.dep w w' h.1 h1 h2 h3 h4 λk hk=>h5 k (.inl hk),(h5 D (.inr rfl)).trans h.2⟩
section
variable{P:j_}{B:aa}{N next:Nat}
def aK8(P:j_)(Q:Exit->Act->World->Prop)(j:Option Code)(a:Act)(w:h_):Prop:=
 match j with
 |none=>Q .normal a w
 |some c=>c.wpIn (FW none) 0 P Q a w
def KR(P:j_)(next N:Nat)(ps:Array Tmp)(dW dz:Code)(fr:aN)(Os Vs cx:aH)(ι:Map)(T:p_)(gf:FuncId)(ca:ah)(j:Option Code):Prop:=
 BE next N fr ι T->∀(cB l D:Nat) (W1:h_) (S:Nat->Prop) (κ:Map) (c:g_) (W:h_) (gM:ah),aM (pN W1 l S ι) κ c W->
   da c ((next,.fact (fH l (gJ cB T ps dW dz D)))::(Os++Vs))->eU c (next+1)->bW (aK κ) ca gM->
   Calls P gf (.func (.yield l) #[] #[]::gM).toArray W λe W'=>∃ v Dt c',e=.returned v/\Map.le κ Dt/\aM (pN W1 l S ι) Dt c' W'/\da c' ((next,.fact (fH l (u5 (gJ cB T ps dW dz D) j)))::(cx++Vs))/\
    ∀ k,k<next->c k=none->c' k=none
theorem U2{next':Nat}{cc:g_}{a:Act}{g:m_}{gf:FuncId}{ps:Array Tmp}{dz:Code}{j:Option Code}{Q:Exit->Act->World->Prop}
  (hf:fA B ι (bI fr) N a) (hm:aM B ι cc w) (hL:da cc (Os++Vs)) (hu:eU cc next) (eW:(Os.all λp=>p.2.owns)=true) (mK:(Vs.all λp=>p.2.soft)=true)
  (hg:gj (bI fr) g=.func (.func gf) #[] ca.toArray) (aK9:MS g=true) (eY:fN P gf=true)
  (lk:(cx.all λp=>UM Os p.1||ns.contains p.1)=true) (U3:(ns.all (UM cx))=true) (je:(ns.all λk=>Nat.blt next k&&Nat.blt k next')=true) (EE:next<=next') (u4:(cx.all λp=>p.2.owns)=true) (dE:∀ p∈cx++Vs,∀ v∈p.2.cells,sQ next ns v=true)
  (yU:KR P next N ps dW dz fr Os Vs cx ι a.tmps gf ca j)
  (hQ:∀ D κ b9 w',(∀ k,B.cS k->k≠D)->w.heap.size<=D->Map.le ι κ->fA (B.held D) κ (bI fr) N { a with defers:=FR D::a.defers }->aM (B.held D) κ b9 w'->da b9 (cx++Vs)->eU b9 next'->aK8 P Q j { a with defers:=FR D::a.defers } w'):(Code.rangeFunc g ps dW dz).wpIn (FW none) 0 P Q a w:=by
 have hO:da cc Os:=λk x e=>hL k x (by rw[jQ,e]);have eW:∀ k x,ai Os k=some x->x.owns=true:=λk x h=>BC eW h;have mK:∀ k x,ai Vs k=some x->x.soft=true:=λk x h=>BC mK h;have u4:∀ k x,ai cx k=some x->x.owns=true:=λk x h=>BC u4 h;have dE:∀ k x,ai (cx++Vs) k=some x->∀ v∈x.cells,sQ next ns v=true:=λk x h=>dE _ (jf h);have je:∀ k,ns.contains k=true->next<k/\k<next':=λk h=>by have:=bd.1 je k (by simpa using h);simpa[yR]using this
 have U3:∀ k,ns.contains k=true->ai cx k≠none:=λk h=>aBz (bd.1 U3 k (by simpa using h));have lk:∀ k x,ai cx k=some x->ai Os k≠none\/ns.contains k=true:=λk x e=>by have:=bd.1 lk _ (jf e);rw[tE]at this;exact this.imp aBz id
 have aBL:=λk x e hx=>UN (Os:=Os) mK (k:=k) (x:=x) e hx;have aBM:=λk F e=>OX (Os:=Os) eW mK (k:=k) (F:=F) e;have aBN:∀ k lc,ι k=some lc->k<next:=λk lc e=>by
  rcases fm k next with h|h
  ·exact h
  ·rw[hm.dJ k (hu k h)]at e;cases e
 have ES:=YH hf aK9 (by rw[hg];rfl);rw[hg]at ES;obtain⟨j0,gM,he,h1,h2⟩:=ES.AH;have ef:j0=#[]:=by
  cases kv:j0.toList with
  |nil=>exact Il.1 kv
  |cons _ _=>rw[kv]at h1;cases h1
 subst ef;refine wpIn_rangeFunc ?_;intro cB _;obtain⟨W1,KS⟩:∃ W1,(w.alloc (.deferred (some []))).alloc (.loop (gJ cB a.tmps ps dW dz w.heap.size))=W1:=⟨_,rfl⟩;have CY:=run_enterLoop_outer (P:=P) (w:=w) cB a.tmps ps dW dz;rw[show({ state:=.ready,pending:=none,fn:=cB,tmps:=a.tmps,params:=ps,assign:=dW,body:=dz,defers:=w.heap.size }:Loop)=gJ cB a.tmps ps dW dz w.heap.size from rfl,KS]at CY;have qh:Below w.heap.size w W1:=by rw[<-KS];exact((Below.refl _ w).alloc (bA _) _).alloc s_ _
 have aBO:W1.heap.size=w.heap.size+2:=by rw[<-KS];simp
 have hL1:W1.heap[w.heap.size+1]?=some (.loop (gJ cB a.tmps ps dW dz w.heap.size)):=by rw[<-KS];have:=World.alloc_heap_new (w.alloc (.deferred (some []))) (.loop (gJ cB a.tmps ps dW dz w.heap.size));rwa[World.size_alloc]at this
 have hK1:W1.heap[w.heap.size]?=some (.deferred (some [])):=by rw[<-KS];exact(RY _ _ _ s_).trans (World.alloc_heap_new w _)
 obtain⟨S,hS⟩:∃ S:Nat->Prop,∀ b,S b↔∃ k x o cap,ai Os k=some x/\ι k=some (.at b o cap):=⟨_,λb=>Iff.rfl⟩;have O5:∀ b,S b->b<w.heap.size/\¬B.cS b:=λb hb=>by obtain⟨k,x,o,cap,e1,e2⟩:=(hS b).1 hb;exact hm.own k x b o cap (hO k x e1) (eW k x e1) e2
 have aLa:∀ k x,ai (Os++Vs) k=some x->∃ lc,ι k=some lc:=λk x e=>by obtain⟨lc,q,_⟩:=hm.born k x (hL k x e);exact⟨lc,q⟩
 refine⟨w.heap.size+1,[{ target:=.collected w.heap.size,args:=#[]}],W1,{ target:=.fn (.func gf) gM,args:=#[.func (.yield (w.heap.size+1)) #[] #[]]},W1,gf,#[.func (.yield (w.heap.size+1)) #[] #[]]++gM,W1,CY,?_,λ_ _=>trivial,?_,λe=>(by cases e),?_⟩
 ·simp only[resolve,he];simp[go_sem]
 ·have:=MW (P:=P) eY (#[.func (.yield (w.heap.size+1)) #[] #[]]++gM) W1;simpa[invoke,go_sem]using this
 ·have hmW:=hm.call qh
  -- the aVW memory
  have c7:aM (pN W1 (w.heap.size+1) S ι) ι (λk=>match ai (Os++Vs) k with|some x=>some x|none=>(cc k).map λ_=>.dead) W1:=by
   refine OV (L:=Os++Vs) hmW hL (λ_ _ _=>rfl) (λk x lc _ _ h=>h) ⟨.refl _,rfl,rfl,bA _,λ_ _ _ _=>rfl⟩ (λk x b o cap e hx hl hF=>?_) (bA _) (λk e=>?_) (λk x e=>?_) (λk F e hr=>by rw[aBM k F e]at hr;cases hr) (λ_ _ _ _ _ _ h=>h) (Map.le.refl _)
   ·exact hF.2.1 ((hS b).2 ⟨k,x,o,cap,aBL k x e hx,hl⟩)
   ·split at e
    ·cases e
    ·cases hc:cc k with
     |none=>exact hm.dJ k hc
     |some y=>rw[hc]at e;cases e
   ·split at e
    ·rename_i y hy;injection e with e;subst e;exact .inl hy
    ·cases hc:cc k with
     |none=>rw[hc]at e;cases e
     |some y=>
      rw[hc]at e;injection e with e;obtain⟨lc,q,_⟩:=hm.born k y hc;exact .inr ⟨e.symm,lc,q⟩
  generalize gw:(λk=>match ai (Os++Vs) k with|some x=>some x|none=>(cc k).map λ_=>Obj.dead:g_)=c1 at c7;have KT:ai (Os++Vs) next=none:=Ij hL (hu next (bA _));have aBP:∀ k,next<=k->c1 k=none:=λk hk=>by rw[<-gw];simp only[Ij hL (hu k hk),hu k hk,aBQ]
  have aLb:∀ k x,ai (Os++Vs) k=some x->c1 k=some x:=λk x e=>by rw[<-gw];simp only[e]
  have aLc:∀ k F,c1 k=some (.fact F)->F.rc=false:=λk F e=>by
   rw[<-gw]at e;dsimp only at e;split at e
   ·rename_i y hy;injection e with e;subst e;exact aBM k F hy
   ·cases hc:cc k with
    |none=>rw[hc]at e;cases e
    |some y=>rw[hc]at e;cases e
  have dF:=c7.add (k:=next) (x:=.fact (fH (w.heap.size+1) (gJ cB a.tmps ps dW dz w.heap.size))) (l:=.val undef) (aBP next (bA _)) ⟨undef,rfl,hL1⟩ n_
   (λF v b e _ hF jj y o' bE hj hy hl=>by
    injection e with e;subst e;have hF:b=w.heap.size+1:=hF;obtain⟨q1,q2⟩:=c7.own jj y b o' bE hj hy hl;have:∃ lc,ι jj=some lc:=⟨_,hl⟩;have iB:b<w.heap.size:=by
     refine(O5 b ?_).1;have pO:=hj;rw[<-gw]at pO;dsimp only at pO;split at pO
     ·rename_i z hz;injection pO with pO;subst pO;exact(hS b).2 ⟨jj,z,o',bE,aBL jj z hz hy,hl⟩
     ·cases hc:cc jj with
      |none=>rw[hc]at pO;cases pO
      |some z=>rw[hc]at pO;injection pO with pO;subst pO;cases hy
    omega)
   n_ (λF e _=>⟨by injection e with e;exact⟨_,e.symm⟩,λjj F' hj=>aLc jj F' hj⟩)
  have kQ:Map.le ι (dR ι next (.val undef)):=gN (hm.dJ next (hu next (bA _)));have pa:BE next N fr ι a.tmps:=⟨hf.size,hf.slot,aBN⟩
  have ig:=yU pa cB (w.heap.size+1) w.heap.size W1 S (dR ι next (.val undef)) (bh c1 next (.fact (fH (w.heap.size+1) (gJ cB a.tmps ps dW dz w.heap.size)))) W1 gM.toList dF
   (λk x e=>by
    unfold bh;by_cases hk:k=next
    ·subst hk;rw[ax rfl];have:ai ((k,Obj.fact (fH (w.heap.size+1) (gJ cB a.tmps ps dW dz w.heap.size)))::(Os++Vs)) k=some (.fact (fH (w.heap.size+1) (gJ cB a.tmps ps dW dz w.heap.size))):=by show(if Nat.beq k k then _ else _)=_;simp
     rw[this]at e;exact e
    ·rw[ao hk];have:ai ((next,Obj.fact (fH (w.heap.size+1) (gJ cB a.tmps ps dW dz w.heap.size)))::(Os++Vs)) k=ai (Os++Vs) k:=by show(if Nat.beq next k then _ else _)=_;rw[oO (mN hk)];rfl
     rw[this]at e;exact aLb k x e)
   (λk hk=>by unfold bh;rw[ao o_];exact aBP k o_) (by
    have:bW (aK ι) ca gM.toList:=by simpa using h2
    exact nV kQ this)
  have aLd:(.func (.yield (w.heap.size+1)) #[] #[]::gM.toList:ah).toArray=#[.func (.yield (w.heap.size+1)) #[] #[]]++gM:=by apply EF;simp
  rw[aLd]at ig;refine JC.2 (ig.mono ?_)
  rintro e W2 ⟨v,Dt,c',rfl,uH,bF,iO,ij⟩
  have hg':c' next=some (.fact (fH (w.heap.size+1) (u5 (gJ cB a.tmps ps dW dz w.heap.size) j))):=iO next _ (by show(if Nat.beq next next then _ else _)=_;simp);have hO2:ai Os next=none:=by
   rw[jQ]at KT;cases e:ai Os next with
   |none=>rfl
   |some x=>rw[e]at KT;cases KT
  have hV2:ai Vs next=none:=by rw[jQ,hO2]at KT;exact KT
  have aLe:ai cx next=none:=by
   cases e:ai cx next with
   |none=>rfl
   |some x=>
    rcases lk next x e with h|h
    ·exact absurd hO2 h
    ·have:=(je next h).1;omega
  have aLf:ai (cx++Vs) next=none:=by rw[jQ,aLe];exact hV2
  have gk:da c' (cx++Vs):=λk x e=>iO k x (by
   by_cases hk:k=next
   ·subst hk;rw[aLf]at e;cases e
   ·show(if Nat.beq next k then _ else _)=_;rw[oO (mN hk)];exact e)
  have u7:=run_endLoop (P:=P) (FN bF hg') (by cases j<;>simp[u5]);refine⟨j,_,u7,?_⟩
  -- the marks of the list
  have aBR:∀ k x,ai (cx++Vs) k=some x->ns.contains k=true\/∃ y,ai (Os++Vs) k=some y:=λk x e=>by
   rw[jQ]at e;cases e1:ai cx k with
   |some z=>
    rcases lk k z e1 with h|h
    ·cases e2:ai Os k with
     |none=>exact absurd e2 h
     |some y=>exact .inr ⟨y,by rw[jQ,e2]⟩
    ·exact .inl h
   |none=>
    rw[e1]at e;cases e2:ai Os k with
    |some y=>exact .inr ⟨y,by rw[jQ,e2]⟩
    |none=>exact .inr ⟨x,by rw[jQ,e2];exact e⟩
  have aLg:∀ k x,ai (cx++Vs) k=some x->jC ι Dt ns k=Dt k:=λk x e=>by
   unfold jC;by_cases hc:ns.contains k=true
   ·rw[ax hc]
   ·rw[ao hc];rcases aBR k x e with h|⟨y,e1⟩
    ·exact absurd h hc
    ·obtain⟨lc,q⟩:=aLa k y e1;rw[q,uH k lc (kQ k lc q)]
  have O6:Map.le ι (jC ι Dt ns):=λk lc e=>by
   unfold jC;by_cases hc:ns.contains k=true
   ·have:=aBN k lc e;have:=(je k hc).1;omega
   ·rw[ao hc];exact e
  have aLh:∀ k,k<next->∀ lc,Dt k=some lc->ι k=some lc:=λk hk lc e=>by
   cases q:ι k with
   |some Ik=>have:=uH k Ik (kQ k Ik q);rw[e]at this;exact this.symm
   |none=>
    exfalso;have BG:cc k=none:=by
     cases hc:cc k with
     |none=>rfl
     |some y=>obtain⟨Ik,q',_⟩:=hm.born k y hc;rw[q]at q';cases q'
    have CD:ai (Os++Vs) k=none:=by
     cases e1:ai (Os++Vs) k with
     |none=>rfl
     |some y=>rw[hL k y e1]at BG;cases BG
    have:c' k=none:=ij k hk (by unfold bh;rw[ao o_,<-gw];simp only[CD,BG,aBQ])
    rw[bF.dJ k this]at e;cases e
  have sP:=UK (FN bF hg');have hDS:¬S w.heap.size:=λh=>by have:=(O5 _ h).1;omega
  have aBS:∀ b,b<w.heap.size+2->¬S b->b≠w.heap.size+1->W2.heap[b]?=W1.heap[b]?:=λb hb hs hl=>bF.base.2.2.2.2 b (by rw[aBO];exact hb) hs hl;have aVX:w.heap.size+2<=W2.heap.size:=by rw[<-aBO];exact bF.base.2.2.2.1
  have KU:∀(o:Go.Obj) b,b≠w.heap.size+1->(W2.putObj (w.heap.size+1) o).heap[b]?=W2.heap[b]?:=λo b hb=>UL hb;have Du:∀ k,B.cS k->k≠w.heap.size:=λk hk=>by have:=B.lt w k hm.base hk;omega
  have U4:=λk F e=>OX (Os:=cx) u4 mK (k:=k) (F:=F) e;have vA:∀ o:Go.Obj,aM (B.held w.heap.size) (jC ι Dt ns) (λk=>match ai (cx++Vs) k with|some x=>some x|none=>(cc k).map λ_=>.dead) (W2.putObj (w.heap.size+1) o):=λo=>by
   refine OV (L:=cx++Vs) bF gk aLg (λk x lc e q ho=>?_) ⟨?_,?_⟩ (λk x b oo cap e hx hl hF=>?_) (by rw[rC];exact bA _) (λk e=>?_) (λk x e=>?_) (λk F e hr=>by rw[U4 k F e]at hr;cases hr) (λk F v b e q hF=>?_) (hm.rV.trans O6)
   ·exact OU sP (aBC (K:=next) aLh (dE k x e) ho) (λF ef=>U4 k F (ef▸e)) (by rw[rC];exact bA _) (λb _ _ _ _=>(Nat.decEq b (w.heap.size+1)).casesOn (λhb=>.inr (KU o b hb)) λhb=>.inl hb) λF v b _ _ _=>(Nat.decEq b (w.heap.size+1)).casesOn (λhb=>.inr (KU o b hb)) λhb=>.inl hb
   ·refine B.dep w _ hm.base ?_ ?_ ?_ ?_ λk hk=>?_
    ·exact bF.base.1.trans qh.os
    ·exact bF.base.2.1.trans qh.tape
    ·exact bF.base.2.2.1.trans qh.output
    ·rw[rC];omega
    ·have KO:=B.lt w k hm.base hk;rw[KU o k o_,aBS k o_ (λhs=>(O5 k hs).2 hk) o_];exact qh.block k KO
   ·rw[KU o _ o_,aBS _ o_ hDS o_];exact hK1
   ·have q:=(bF.own k x b oo cap (gk k x e) hx hl).2;have iB:b≠w.heap.size+1:=λhb=>by obtain⟨lc,q1,q2⟩:=bF.born k x (gk k x e);rw[hl]at q1;injection q1 with q1;subst q1;obtain⟨cs,ty,q3⟩:=aBx q2 hx;subst hb;exact sP _ _ _ q3
    by_cases hs:S b
    ·obtain⟨p1,p2⟩:=O5 b hs;rcases hF with hF|hF
     ·exact p2 hF
     ·omega
    ·have fR:¬b<W1.heap.size:=λhb=>q ⟨hb,hs,iB⟩;rcases hF with hF|hF
     ·have:=B.lt w b hm.base hF;omega
     ·omega
   ·split at e
    ·cases e
    ·rename_i fT;have aLi:ns.contains k=false:=by
      cases hx:ns.contains k with
      |false=>rfl
      |true=>
       have:=U3 k hx;rw[jQ]at fT;cases e1:ai cx k with
       |none=>exact absurd e1 this
       |some z=>rw[e1]at fT;cases fT
     unfold jC;rw[aLi];cases hc:cc k with
     |none=>exact hm.dJ k hc
     |some y=>rw[hc]at e;cases e
   ·split at e
    ·rename_i y hy;injection e with e;subst e;exact .inl hy
    ·rename_i fT;cases hc:cc k with
     |none=>rw[hc]at e;cases e
     |some y=>
      rw[hc]at e;injection e with e;obtain⟨lc,q,_⟩:=hm.born k y hc;exact .inr ⟨e.symm,lc,O6 k lc q⟩
   ·obtain⟨lc,q1,v',q2,q3⟩:=bF.born k _ (gk k _ e);rw[q]at q1;injection q1 with q1;subst q1;injection q2 with q2;subst q2;refine(F.soft (U4 k F e) v W2 _ q3 (by rw[rC];exact bA _) λk2 gv cs ty f hc=>?_).2 b hF;rw[KU o k2 (λe=>by subst e;exact sP _ _ _ hc)];exact hc
  have fin:=hQ w.heap.size _ _ _ Du (bA _) O6 ⟨by show FR _::a.defers=FR _::B.ds;rw[hf.defers],hf.size,λt=>(hf.slot t).mono O6⟩ (vA (.loop { u5 (gJ cB a.tmps ps dW dz w.heap.size) j with state:=.exhausted })) (λk x e=>by simp only[e]) (λk hk=>by
   have:ai (cx++Vs) k=none:=by
    cases e:ai (cx++Vs) k with
    |none=>rfl
    |some x=>
     rcases aBR k x e with h|⟨y,e1⟩
     ·have:=(je k h).2;omega
     ·have:=hL _ _ e1;rw[hu k o_]at this;cases this
   simp only[this,hu k (di EE hk),aBQ])
  cases j with
  |none=>exact fin
  |some cj=>exact fin
theorem aBT{W:h_}(h:aM (B.held D) ι c W)(qa:∀ F,¬B.Fa F)(hD:∀ k,B.cS k->k≠D):aM B ι c (W.putObj D (.deferred none)):=by
 have sP:=aKZ h.base.2;have ne:∀ b,b≠D->(W.putObj D (.deferred none)).heap[b]?=W.heap[b]?:=λb hb=>UL hb;refine⟨B.dep W _ h.base.1 ⟨rfl,bA _⟩ rfl rfl (by rw[rC];exact bA _) λk hk=>ne k (hD k hk),h.dJ,?_,?_,h.inj,?_,?_,h.fa,h.one,h.rV⟩
 ·intro k x hk;obtain⟨l,q1,q2⟩:=h.born k x hk;refine⟨l,q1,OU sP q2 (λF e=>?_) (by rw[rC];exact bA _) (λb _ _ _ _=>(Nat.decEq b D).casesOn (λhb=>.inr (ne b hb)) λhb=>.inl hb) λF v b _ _ _=>(Nat.decEq b D).casesOn (λhb=>.inr (ne b hb)) λhb=>.inl hb⟩;subst e;cases hr:F.rc with
  |false=>rfl
  |true=>exact absurd (h.fa k F hk hr) (qa F)
 ·intro k x b o cap hk hx hl;rw[rC];exact⟨(h.own k x b o cap hk hx hl).1,λhF=>(h.own k x b o cap hk hx hl).2 (.inl hF)⟩
 ·intro k j x F b o cap v hk hx hl hj hv hF;obtain⟨lc,q1,v',q2,q3⟩:=h.born j _ hj;rw[hv]at q1;injection q1 with q1;subst q1;injection q2 with q2;subst q2;have hr:F.rc=false:=by
   cases hr:F.rc with
   |false=>rfl
   |true=>exact absurd (h.fa j F hj hr) (qa F)
  refine h.apart k j x F b o cap v hk hx hl hj hv ((F.soft hr v W _ q3 (by rw[rC];exact bA _) λk2 gv cs ty f hc=>?_).2 b hF);rw[ne k2 (λe=>by subst e;exact sP _ _ _ hc)];exact hc
 ·intro k x b o cap hk hx hl;rw[rC];exact h.seen k x b o cap hk hx hl
theorem aBU{c:Code}{r:lK}{v:i_}{R:Ending->World->Prop}(HH:∀ B,af P B N c fr M next r)(hex:(match r.ex with|.exit _=>false|_=>true)=true)(hv:A2 P fn r.fr r.M=some v)
  {ι:Map} {cc:g_} {a:Act} {w:h_} (hf:fA (B.held D) ι (bI fr) N a) (hm:aM (B.held D) ι cc w) (ha:da cc M) (hu:eU cc next) (mQ:B.ds=[]) (qa:∀ F,¬B.Fa F) (hD:∀ k,B.cS k->k≠D)
  (hR:∀ ay b9 v' w',aK ay v v'->aM B ay b9 w'->da b9 r.M->R (.returned v') w'):c.wpIn (FW none) 0 P (bodyPostM (FW none) 0 P fn R) a w:=by
 refine HH _ none ι cc a w _ hf hm ha hu λay b9 a' w' hle wW bF iO _ _ _=>?_;have dF:=aBT bF qa hD;obtain⟨v',hc,qd⟩:=Nh (fn:=fn) (B:=B) (N:=N) (a:={ a' with defers:=[]}) ⟨mQ.symm,wW.size,wW.slot⟩ dF iO hv;have hl:LeavesInM (FW none) 0 P fn a'.tmps R a'.defers .returning w':=by rw[wW.defers];show LeavesInM (FW none) 0 P fn a'.tmps R (FR D::B.ds) .returning w';rw[mQ];exact⟨λe=>(by cases e),.inl ⟨D,_,rfl,run_takeDeferred bF.base.2,v',qd,hR ay b9 v' _ hc dF iO⟩⟩
 cases hx:r.ex with
 |normal=>exact hl
 |ret=>exact hl
 |exit id=>rw[hx]at hex;cases hex
end
def zF:Code->Nat->Option Code
 |.region i ops d,k=>if Nat.beq i k then some (.region i ops d)else none
 |.seq x y,k=>match zF x k with|some o=>some o|none=>zF y k
 |.cond _ x y,k=>match zF x k with|some o=>some o|none=>zF y k
 |.block _ b,k=>zF b k
 |.loop b,k=>zF b k
 |.scope b,k=>zF b k
 |.rangeFunc _ _ x y,k=>match zF x k with|some o=>some o|none=>zF y k
 |_,_=>none
def zG(fn:Func)(k:Nat):Code:=match fn.body with|some c=>(match zF c k with|some o=>o|none=>.skip)|none=>.skip
def Dv:Code->Option Code
 |.seq x y=>match Dv x with|some o=>some o|none=>Dv y
 |.cond _ x y=>match Dv x with|some o=>some o|none=>Dv y
 |.block _ b=>Dv b
 |.loop b=>Dv b
 |.scope b=>Dv b
 |.rangeFunc g p x y=>some (.rangeFunc g p x y)
 |_=>none
def sR(fn:Func):Code:=match fn.body with|some c=>(match Dv c with|some o=>o|none=>.skip)|none=>.skip
def FT:Code->Code|.rangeFunc _ _ x _=>x|c=>c
def Dw:Code->Code|.rangeFunc _ _ _ y=>y|c=>c
def aX(k:Nat):Value:=.pointer (some ⟨k,0,some 7⟩)
section
variable{P:j_}{B:aa}{N next:Nat}
theorem O7{g:Nat}{ps:Array Tmp}{dz:Code}(ns:l_){j:Option Code}(cK:eT.all flat=true)(hlen:eT.length=ps.size)(yT:(ps.toList.all λp=>Nat.blt p N)=true)(hg:g<n2)
  (dE:∀ p∈Os++Vs,p.1<n2/\p.1≠g/\ni n2 p=true) (KV:∀ p∈cx,∀ v∈p.2.cells,sQ n2 ns v=true) (eW:(Os.all λp=>p.2.owns)=true) (u4:∀ p∈cx,p.2.owns=true\/p.2=.dead) (mK:(Vs.all λp=>p.2.soft)=true)
  (lk:cx.map (·.1)=Os.map (·.1)++ns) (je:(ns.all λk=>Nat.ble n2 k)=true)
  {rA rB:lK} (hA:∀ B,af P B N dW (O0 (ps.toList.zip eT) fr) (Os++Vs) n2 rA) (UU:rA.ex=.normal) (UW:Nat.ble n2 rA.next=true) (O3:ai rA.M g=none)
  (hB:∀ B,af P B N dz rA.fr rA.M rA.next rB) (UX:∀ k x,ai cx k=some x->ai rB.M k=some x) (UY:UQ rB.ex=j):FP P g n2 N ps dW dz fr Os Vs cx ns eT j where
 flat:=bd.1 cK
 len:=hlen
 jR p hp:=by have:=bd.1 yT p (by simpa using hp);simpa[yR]using this
 FQ:=hg
 low k x h:=by have:=dE _ (jf h);exact⟨this.1,this.2.1,KN this.2.2⟩
 ok' k x h:=KV _ (jf h)
 own k x h:=BC eW h
 US k x h:=u4 _ (jf h)
 view k x h:=BC mK h
 keys:=UO lk
 new k h:=by have:=bd.1 je k (by simpa using h);exact qc this
 run:=⟨rA,rB,hA,UU,qc UW,O3,hB,UX,UY⟩
theorem O8{g:Nat}(h:(L.all λp=>Nat.blt p.1 g&&ni (g+1) p)=true):∀ p∈L,p.1<g+1/\p.1≠g/\ni (g+1) p=true:=λp hp=>by have:=bd.1 h p hp;rw[cZ,yR]at this;exact⟨by omega,by omega,this.2⟩
theorem FU(h:(L.all (ni n2))=true)(ns:l_):∀ p∈L,∀ v∈p.2.cells,sQ n2 ns v=true:=λp hp v hv=>by unfold sQ;rw[bd.1 (bd.1 h p hp) v hv];rfl
theorem KW(h:(L.all λp=>p.2.owns)=true):∀ p∈L,p.2.owns=true\/p.2=.dead:=λp hp=>.inl (bd.1 h p hp)
theorem aBV(dK:bW (aK ι) args args')(hN:N=args.length+(fn.ntmps-args.length))(mQ:B.ds=[]):
  fA B ι (bI (jR 0 args)) N { tmps:=args'.toArray++Array.replicate (fn.ntmps-args'.toArray.size) undef,defers:=[]}:=by
 refine⟨mQ.symm,by simp[hN,dK.length],λt=>?_⟩;rcases Ni dK 0 t (List.replicate (fn.ntmps-args'.length) undef)with h|h
 ·simp only[jH,qS,Hc]at h;have e:(args'.toArray++Array.replicate (fn.ntmps-args'.toArray.size) undef).getD t undef=(args'++List.replicate (fn.ntmps-args'.length) undef).getD t undef:=by simp[qg,EK,<-Array.getElem?_toList]
  dsimp only;rw[e];exact h
 ·exact .inl h
theorem aBW{v:i_}{R:Ending->World->Prop}(hv:A2 P fn fr M=some v)
  {ι:Map} {cc:g_} {a:Act} {w:h_} (hf:fA (B.held D) ι (bI fr) N a) (hm:aM (B.held D) ι cc w) (ha:da cc M) (mQ:B.ds=[]) (qa:∀ F,¬B.Fa F) (hD:∀ k,B.cS k->k≠D)
  (hR:∀ ay b9 v' w',aK ay v v'->aM B ay b9 w'->da b9 M->R (.returned v') w'):LeavesInM (FW none) 0 P fn a.tmps R a.defers .returning w:=by
 have dF:=aBT hm qa hD;obtain⟨v',hc,qd⟩:=Nh (fn:=fn) (B:=B) (N:=N) (a:={ a with defers:=[]}) ⟨mQ.symm,hf.size,hf.slot⟩ dF ha hv;rw[hf.defers];show LeavesInM (FW none) 0 P fn a.tmps R (FR D::B.ds) .returning w;rw[mQ];exact⟨λe=>(by cases e),.inl ⟨D,_,rfl,run_takeDeferred hm.base.2,v',qd,hR ι cc v' _ hc dF ha⟩⟩
theorem aBX{c:Code}{v:i_}(hf:P.funcs[f]?=some fn)(hb:fn.body=some c)(hN:N=args.length+(fn.ntmps-args.length))(dK:args.all flat=true)
  (h:∀ w a,fA (aa.at w) (λ_=>none) (bI (jR 0 args)) N a->aM (aa.at w) (λ_=>none) (λ_=>none) w->c.wpIn (FW none) 0 P (bodyPostM (FW none) 0 P fn λe w'=>e=.returned v/\Below w.heap.size w w') a w):aB P f args v:=by
 intro w;rw[bd]at dK;exact JC.1 (callsIn_of_wp_marks (F:=FW none) (n:=0) hf hb trivial (h w _ (aBV (kM dK) hN rfl) (tH w)))
theorem aBY{gf:FuncId}{cells:ah}{x:m_}{k:Nat}(iE:P.follows .mixedOrders=true)(hf:P.funcs[f]?=some fn)(ho:dC o.op=some x)(eY:fN P f=true)(n:Nat)
  (rs:∀ w,bL P (aa.at w) (args.length+(fn.ntmps-args.length)))
  (h:∀ w,oQ (gO (P:=P) fn n args [] 0 (rs w)) [(0,.aI cells ty)]=oR (gO fn n args [] 0 (rs w)) (.func (.func gf) #[] #[.pointer (some ⟨0,0,some 7⟩)]) [(0,.aI cells ty)]) (dK:args.all flat=true) (cK:cells.all flat=true) :
  cA P B o (.func (.func f) #[] #[]::args) [(k,none)] (.func (.func gf) #[] #[.pointer (some ⟨k,0,some 7⟩)]) [(k,.aI cells ty)]:=by
 have:=j7 (P:=P) (B:=B) (o:=o) (x:=x) (f:=f) (fi:=[]) (args:=args) (ca:=[]) (need:=[(k,none)]) (val:=.func (.func gf) #[] #[.pointer (some ⟨k,0,some 7⟩)]) (cX:=[(k,.aI cells ty)]) ho eY ?_
 ·simpa using this
 ·intro ι c w hm hn args' ha;have hk:c k=none:=hn (k,none) (aP ..);rw[bd]at dK cK;have e:args'=args:=nC (by simpa using ha) dK;subst e;refine uO iE hf rfl n (h w) (kM dK) (tH w) n_ (λ_ _=>rfl) λay b9 v' w' _ hc bF dQ=>?_;obtain⟨j0,gM,rfl,h1,h2⟩:=hc.AH;have h0:b9 0=some (.aI cells ty):=dQ (0,_) (aP ..);obtain⟨l,q1,b,cg,rfl,q2,q3⟩:=bF.born 0 _ h0;obtain⟨q4,q5⟩:=bF.own 0 _ b 0 0 h0 rfl q1;have hbn:w.heap.size<=b:=O9 q5;have ec:cg=cells:=nC q2 cK;subst ec;have ef:j0=#[]:=by
   cases kv:j0.toList with
   |nil=>exact Il.1 kv
   |cons _ _=>rw[kv]at h1;cases h1
  subst ef;have lW:gM.toList=[.pointer (some ⟨b,0,none⟩)]:=by
   have h2:bW (aK ay) [.pointer (some ⟨0,0,some 7⟩)] gM.toList:=h2;generalize gM.toList=l at h2;cases h2 with
   |cons p q=>
    cases q;obtain⟨b',o',bE,e1,e2⟩:=p.wI rfl;rw[q1]at e1;injection e1 with e1;injection e1 with e1 e3 _;subst e1;subst e3;rw[e2];simp
  have dF:=hm.new (k:=k) (x:=.aI cg ty) (l:=.at b 0 0) bF.base hk ⟨b,cg,rfl,kM cK,q3⟩ (λb' o' bE _ e=>by injection e with e _ _;subst e;exact⟨hbn,q4⟩) n_ rfl;refine⟨dR ι k (.at b 0 0),_,rfl,gN (hm.dJ k hk),?_,dF⟩;refine .fn .nil ?_;rw[lW];exact .cons (.ptr (fP _ _ _)) .nil
theorem KX{ps:Array Tmp}{dz:Code}{T:p_}{gf:FuncId}{Pa:Func}{j:Option Code}{v:i_}{Nc:Nat}(iE:P.follows .mixedOrders=true)(hf:P.funcs[gf]?=some Pa)
  (hN:Nc=(ca.length+1)+(Pa.ntmps-(ca.length+1))) (n:Nat)
  (h:BE next N fr ι T->∀(cB l D:Nat) (W1:h_) (S:Nat->Prop),∃ rs:bL P (pN W1 l S ι) Nc,oQ (gO (P:=P) Pa n (.func (.yield l) #[] #[]::ca) ((next,.fact (fH l (gJ cB T ps dW dz D)))::(Os++Vs)) (next+1) rs) ((next,.fact (fH l (u5 (gJ cB T ps dW dz D) j)))::(cx++Vs))=oR (gO Pa n (.func (.yield l) #[] #[]::ca) ((next,.fact (fH l (gJ cB T ps dW dz D)))::(Os++Vs)) (next+1) rs) v ((next,.fact (fH l (u5 (gJ cB T ps dW dz D) j)))::(cx++Vs))) :
  KR P next N ps dW dz fr Os Vs cx ι T gf ca j:=by
 intro pa cB l D W1 S κ c W gM hm ha hu lW;obtain⟨rs,h⟩:=h pa cB l D W1 S;refine SH iE hf (by simpa using hN) n h (.cons (.same rfl) lW) hm ha hu λay b9 v' w' hle hc bF dQ hk=>⟨v',ay,b9,rfl,hle,bF,λk x e=>dQ (k,x) (jf e),λk ij BG=>?_⟩;rw[hk k o_ (Ij ha BG)];exact BG
end
theorem aLj{x:m_}{k:Nat}(r:RV)(ho:dC o.op=some x):cA prog B o (.func (.func 121) #[] #[]::[r.v]) [(k,none)] (.func (.func 164) #[] #[.pointer (some ⟨k,0,some 7⟩)]) [(k,.aI r.cs 38)]:=
 aBY mixed func121 ho k_ 50 (λ_=>[]) (λ_=>k_) k_ k_
def sS(r:RV):aH:=[(0,.aI r.cs 38),(1,.aI [.bool false] 4),(2,.aI r.cs 38)]
def BH:aN:=[(1,aX 0),(2,aX 1),(6,.func (.func 164) #[] #[aX 2])]
theorem aLk(r:RV):af prog B 12 (zG f67 0) (jR 0 [r.v]) [] 0 ⟨.normal,[(1,aX 0),(2,aX 1)],[(0,.aI r.cs 38),(1,.aI [.bool false] 4)],2⟩:=
 fB mixed 10 [] k_
theorem aLl(r:RV):af prog B 12 (zG f67 1) [(1,aX 0),(2,aX 1)] [(0,.aI r.cs 38),(1,.aI [.bool false] 4)] 2 ⟨.normal,BH,sS r,3⟩:=
 fB mixed 10 [.step 6 (aA f67 6) _ _ _ _ (aLj (k:=2) (x:=.func 121) r k_)] k_
theorem aLm(r:RV)(x:RN)(i:Int)(b:Bool)(hx:aB prog 54 [x.v] (.bool b)):
  FP prog 3 4 12 #[7,8] (FT (sR f67)) (Dw (sR f67)) BH (sS r) [] (sS r) [] [.int .i64 i,x.v] (if b then none else some .ret):=by
 have go:∀ ex j,(∀ B,af prog B 12 (Dw (sR f67)) ((4,aX 4)::BH) ((4,.aI x.cs 33)::sS r) 5 ⟨ex,[],sS r,5⟩)->UQ ex=j->FP prog 3 4 12 #[7,8] (FT (sR f67)) (Dw (sR f67)) BH (sS r) [] (sS r) [] [.int .i64 i,x.v] j:=λex j h hj=>
  O7 [] (rA:=⟨.normal,(4,aX 4)::BH,(4,.aI x.cs 33)::sS r,5⟩) (rB:=⟨ex,[],sS r,5⟩) k_ k_ k_ d_ (O8 k_) (FU k_ []) k_ (KW k_) k_ rfl k_ (λB=>fB mixed 10 [] k_) rfl k_ rfl h (λk x h=>h) hj
 cases b
 ·exact go .ret _ (λB=>fB mixed 10 [hx.at 10] k_) rfl
 ·exact go .normal _ (λB=>fB mixed 10 [hx.at 10] k_) rfl
theorem aLn(r:RV):af prog B 12 (.seq (zG f67 5) .ret) BH (sS r) 3 ⟨.ret,[(2,aX 1)],[(1,.aI [.bool true] 4)],3⟩:=fB mixed 10 [] k_
theorem aLo{r:RV}{bx BI bz:Bool}(hx:aB prog 54 [r.x.v] (.bool bx))(hy:aB prog 54 [r.y.v] (.bool BI))(hz:aB prog 54 [r.z.v] (.bool bz)){T:p_}{m:Map}:
  KR prog 3 12 #[7,8] (FT (sR f67)) (Dw (sR f67)) BH (sS r) [] (sS r) m T 164 [aX 2] (if bx&&BI&&bz then none else some .ret):=by
 have st:=λ(hc:BE 3 12 BH m T) (cB l D:Nat) (W1:h_) (S:Nat->Prop) (x:RN) (i:Int) (b:Bool) (h:aB prog 54 [x.v] (.bool b))=>UT (S:=S) (W1:=W1) (l:=l) (D:=D) (cB:=cB) (x:=.tmp 16) (o:=aA f164 19) (aLm r x i b h) k_ hc
 cases bx
 ·exact KX mixed func164 rfl 100 (v:=.tuple #[]) λhc cB l D W1 S=>⟨[.step 19 _ _ _ _ _ (st hc cB l D W1 S r.x 0 _ hx)],k_⟩
 ·cases BI
  ·exact KX mixed func164 rfl 100 (v:=.tuple #[]) λhc cB l D W1 S=>⟨[.step 19 _ _ _ _ _ (st hc cB l D W1 S r.x 0 _ hx),.step 19 _ _ _ _ _ (st hc cB l D W1 S r.y 1 _ hy)],k_⟩
  ·cases bz<;>exact KX mixed func164 rfl 100 (v:=.tuple #[]) λhc cB l D W1 S=>⟨[.step 19 _ _ _ _ _ (st hc cB l D W1 S r.x 0 _ hx),.step 19 _ _ _ _ _ (st hc cB l D W1 S r.y 1 _ hy),.step 19 _ _ _ _ _ (st hc cB l D W1 S r.z 2 _ hz)],k_⟩
theorem FV{r:RV}{bx BI bz:Bool}(hx:aB prog 54 [r.x.v] (.bool bx))(hy:aB prog 54 [r.y.v] (.bool BI))(hz:aB prog 54 [r.z.v] (.bool bz)):
  aB prog 67 [r.v] (.bool (bx&&BI&&bz)):=by
 refine aBX (N:=12) func67 rfl rfl k_ λw a hf hm=>?_;refine l9 (aLk r none _ _ a w _ hf hm n_ (λ_ _=>rfl) λtQ cc0 a0 w0 aBZ A0 kp nE zq BJ _=>?_);refine l9 (l9 (aLl r none _ _ a0 w0 _ A0 kp nE zq λbP gA a1 w1 ju ik c7 eE dS gY _=>JL ?_));refine U2 (next:=3) (next':=3) (ns:=[]) (Os:=sS r) (Vs:=[]) (cx:=sS r) (gf:=164) (ca:=[aX 2]) (j:=if bx&&BI&&bz then none else some .ret) ik c7 eE dS k_ k_ k_ k_ k_ k_ k_ k_ (bA _) k_ (FU k_ []) (aLo hx hy hz) λD κ b9 w' Du hDw _ jD dF gk eX=>?_;by_cases hb:(bx&&BI&&bz)=true
 ·rw[ax hb,hb];exact aBU (B:=aa.at w) (v:=.bool true) (λB=>aLn r) rfl k_ jD dF gk eX rfl (λF h=>h) Du λay cc v' w' hc hG _=>⟨by rw[hc.fk rfl],hG.base⟩
 ·rw[ao hb];refine wpIn_ret (aBW (B:=aa.at w) (fr:=BH) (M:=sS r++[]) (v:=.bool false) k_ jD dF gk rfl (λF h=>h) Du λay cc v' w' hc hG _=>⟨?_,hG.base⟩);rw[hc.fk rfl];cases hc:bx&&BI&&bz
  ·rfl
  ·exact absurd hc hb
inductive aL where
 |p (v:i_)
 |r (n:Nat) (xs:ah)
 |q (xs:ah)
 |f (g:FuncId) (xs:ah)
 |b (n:Nat) (xs:ah)
 |o (F:Fact)
 |s (n1:Nat) (iK:ah) (n2:Nat) (jA:ah) (F:Fact)
 |a (n1:Nat) (iK:ah) (n2:Nat) (jA:ah) (n3:Nat) (FX:ah)
 |c (u:i_) (F:Fact)
variable{l:List aL}
def Pb(w:h_)(v:i_)(xs:ah):Prop:=∃ b o,v=.pointer (some ⟨b,o,none⟩)/\b<w.heap.size/\∀(j:Nat) u,xs[j]?=some u->w.cell? ⟨b,o+j,none⟩=some u
def BK(w:h_)(v:i_)(F:Fact):Prop:=F.G v w/\v.cells=#[v]/\v.oneCell'=true
def aL.In(w:h_):aL->Value->Prop
 |.p u,v=>v=u
 |.r n xs,v=>dp w v n xs
 |.q xs,v=>Pb w v xs
 |.f g xs,v=>∃ u,v=.func (.func g) #[] #[u]/\Pb w u xs
 |.b n xs,v=>∃ b o u,v=.pointer (some ⟨b,o,none⟩)/\b<w.heap.size/\w.cell? ⟨b,o,none⟩=some u/\dp w u n xs
 |.o F,v=>BK w v F
 |.s n1 iK n2 jA F,v=>∃ u1 u2 u3,v=.agg #[u1,u2,u3]/\dp w u1 n1 iK/\dp w u2 n2 jA/\BK w u3 F
 |.a n1 iK n2 jA n3 FX,v=>∃ u1 u2 u3,v=.agg #[u1,u2,u3]/\dp w u1 n1 iK/\dp w u2 n2 jA/\dp w u3 n3 FX
 |.c u F,v=>∃ t,v=.agg #[u,t]/\BK w t F
def aL.ok:aL->Bool
 |.p v=>flat v
 |.r _ xs=>xs.all flat
 |.q xs=>xs.all flat
 |.f _ xs=>xs.all flat
 |.b _ xs=>xs.all flat
 |.o F=>!F.rc
 |.s _ iK _ jA F=>iK.all flat&&(jA.all flat&&!F.rc)
 |.a _ iK _ jA _ FX=>iK.all flat&&(jA.all flat&&FX.all flat)
 |.c u F=>flat u&&!F.rc
inductive u9(w:h_):List aL->ah->Prop
 |nil:u9 w [] []
 |cons {a:aL} {v:i_} {l:List aL} {vs:ah}:a.In w v->u9 w l vs->u9 w (a::l) (v::vs)
def eG:Nat->List aL->ah
 |_,[]=>[]
 |k,.p v::l=>v::eG k l
 |k,.r n _::l=>.slice (some ⟨k,0,some 7⟩) n 0::eG (k+1) l
 |k,.q _::l=>.pointer (some ⟨k,0,some 7⟩)::eG (k+1) l
 |k,.f g _::l=>.func (.func g) #[] #[.pointer (some ⟨k,0,some 7⟩)]::eG (k+1) l
 |k,.b _ _::l=>.pointer (some ⟨k+1,0,some 7⟩)::eG (k+2) l
 |k,.o _::l=>.pointer (some ⟨k,0,some 9⟩)::eG (k+1) l
 |k,.s n1 _ n2 _ _::l=>.agg #[.slice (some ⟨k,0,some 7⟩) n1 0,.slice (some ⟨k+1,0,some 7⟩) n2 0,.pointer (some ⟨k+2,0,some 9⟩)]::eG (k+3) l
 |k,.a n1 _ n2 _ n3 _::l=>.agg #[.slice (some ⟨k,0,some 7⟩) n1 0,.slice (some ⟨k+1,0,some 7⟩) n2 0,.slice (some ⟨k+2,0,some 7⟩) n3 0]::eG (k+3) l
 |k,.c u _::l=>.agg #[u,.pointer (some ⟨k,0,some 9⟩)]::eG (k+1) l
def ji:Nat->List aL->aH
 |_,[]=>[]
 |k,.p _::l=>ji k l
 |k,.r _ xs::l=>(k,.view xs)::ji (k+1) l
 |k,.q xs::l=>(k,.view xs)::ji (k+1) l
 |k,.f _ xs::l=>(k,.view xs)::ji (k+1) l
 |k,.b n xs::l=>(k,.view xs)::(k+1,.view [.slice (some ⟨k,0,some 7⟩) n 0])::ji (k+2) l
 |k,.o F::l=>(k,.fact F)::ji (k+1) l
 |k,.s _ iK _ jA F::l=>(k,.view iK)::(k+1,.view jA)::(k+2,.fact F)::ji (k+3) l
 |k,.a _ iK _ jA _ FX::l=>(k,.view iK)::(k+1,.view jA)::(k+2,.view FX)::ji (k+3) l
 |k,.c _ F::l=>(k,.fact F)::ji (k+1) l
def jB:Nat->List aL->Nat
 |k,[]=>k
 |k,.p _::l=>jB k l
 |k,.r _ _::l=>jB (k+1) l
 |k,.q _::l=>jB (k+1) l
 |k,.f _ _::l=>jB (k+1) l
 |k,.b _ _::l=>jB (k+2) l
 |k,.o _::l=>jB (k+1) l
 |k,.s _ _ _ _ _::l=>jB (k+3) l
 |k,.a _ _ _ _ _ _::l=>jB (k+3) l
 |k,.c _ _::l=>jB (k+1) l
theorem aB0(hm:aM B ι c w){k:Nat}{v:i_}(hk:c k=none)(h:Pb w v xs)(cK:∀ u∈xs,flat u=true)(fT:∀ j x,c j=some x->x.owns=false):
  ∃ ay,Map.le ι ay/\aM B ay (bh c k (.view xs)) w/\aK ay (.pointer (some ⟨k,0,some 7⟩)) v:=by
 obtain⟨b,o,rfl,h2,h3⟩:=h;refine⟨dR ι k (.at b o 0),gN (hm.dJ k hk),hm.add hk (.inr ⟨b,o,0,xs,rfl,kM cK,h3⟩) n_ n_ (λb1 o1 lG _ e=>?_),?_⟩
 ·injection e with e1 e2 e3;subst e1;exact⟨h2,λj y o' bE hj hy=>by rw[fT j y hj]at hy;cases hy⟩
 ·have:=aK.ptr (off:=0) (fP ι k (.at b o 0));rwa[jd]at this
def zH(B:aa)(w:h_)(k:Nat)(ι:Map)(c:g_)(L:aH)(n:Nat)(ay:Map)(c':g_):Prop:=
 Map.le ι ay/\aM B ay c' w/\(∀ j x,c' j=some x->x.owns=false)/\eU c' n/\da c' L/\(∀ j,j<k->c' j=c j)/\k<=n/\(∀ j x,ai L j=some x->k<=j/\j<n)
theorem aLp{k:Nat}(hm:aM B ι c w)(ho:∀ j x,c j=some x->x.owns=false)(hu:eU c k):zH B w k ι c [] k ι c:=
 ⟨Map.le.refl _,hm,ho,hu,λj x h=>(by cases h),λ_ _=>rfl,bA _,λj x h=>(by cases h)⟩
theorem KY{k:Nat}{x:Obj}(ho:∀ j x,c j=some x->x.owns=false)(hu:eU c k)(hle:Map.le ι bP)(hm:aM B bP (bh c k x) w)(hx:x.owns=false):zH B w k ι c [(k,x)] (k+1) bP (bh c k x):=by
 refine⟨hle,hm,λj y hj=>?_,λj hj=>?_,λj y hj=>?_,λj hj=>?_,yO _,λj y hj=>?_⟩
 ·unfold bh at hj;by_cases bX:j=k
  ·rw[ax bX]at hj;injection hj with hj;subst hj;exact hx
  ·rw[ao bX]at hj;exact ho j y hj
 ·unfold bh;rw[ao o_];exact hu j o_
 ·unfold ai at hj;split at hj
  ·rename_i hb;injection hj with hj;subst hj;unfold bh;rw[ax (kt hb).symm]
  ·cases hj
 ·unfold bh;rw[ao o_]
 ·unfold ai at hj;split at hj
  ·rename_i hb;have:=kt hb;omega
  ·cases hj
theorem zH.trans{k n:Nat}{c1 c2:g_}{L2:aH}(h:zH B w k ι c L n bP c1)(h2:zH B w n bP c1 L2 m κ c2):zH B w k ι c (L++L2) m κ c2:=by
 obtain⟨a1,a2,a3,a4,a5,a6,a7,a8⟩:=h;obtain⟨b1,b2,b3,b4,b5,b6,b7,b8⟩:=h2;refine⟨a1.trans b1,b2,b3,b4,λj x hj=>?_,λj hj=>by rw[b6 j o_,a6 j hj],by omega,λj x hj=>?_⟩
 ·rw[jQ]at hj;cases e:ai L j with
  |some y=>
   rw[e]at hj;injection hj with hj;subst hj;rw[b6 j (a8 j _ e).2];exact a5 j _ e
  |none=>rw[e]at hj;exact b5 j x hj
 ·rw[jQ]at hj;cases e:ai L j with
  |some y=>rw[e]at hj;injection hj with hj;subst hj;have:=a8 j _ e;omega
  |none=>rw[e]at hj;have:=b8 j x hj;omega
theorem FY{k n:Nat}(hm:aM B ι c w)(ho:∀ j x,c j=some x->x.owns=false)(hu:eU c k)(h:dp w u n xs)(cK:xs.all flat=true):
  ∃ ay c',zH B w k ι c [(k,.view xs)] (k+1) ay c'/\aK ay (.slice (some ⟨k,0,some 7⟩) n 0) u:=by
 obtain⟨bP,q1,q2,q3⟩:=yV hm (hu k (bA _)) h (bd.1 cK) λb o c' _ j y o' bE hj hy=>by rw[ho j y hj]at hy;cases hy
 exact⟨bP,_,KY ho hu q1 q2 rfl,q3⟩
theorem U5{k:Nat}{F:Fact}(hm:aM B ι c w)(ho:∀ j x,c j=some x->x.owns=false)(hu:eU c k)(h:BK w u F)(wJ:F.rc=false):
  ∃ ay c',zH B w k ι c [(k,.fact F)] (k+1) ay c'/\aK ay (.pointer (some ⟨k,0,some 9⟩)) u:=by
 refine⟨dR ι k (.val u),bh c k (.fact F),KY ho hu (gN (hm.dJ k (hu k (bA _)))) (hm.add (hu k (bA _)) ⟨u,rfl,h.1⟩ n_ (λF' v b e1 e2 hF j y o' bE hj hy=>by rw[ho j y hj]at hy;cases hy) n_ λF' e hr=>?_) rfl,.opq (fP _ _ _) h.2.1 h.2.2⟩;injection e with e;subst e;rw[wJ]at hr;cases hr
theorem xJ{B:aa}{w:h_}:∀{l:List aL} {vs:ah},u9 w l vs->(∀ a∈l,aL.ok a=true)->∀(k:Nat) (ι:Map) (c:g_),aM B ι c w->(∀ j x,c j=some x->x.owns=false)->eU c k->
  ∃ ay c',Map.le ι ay/\aM B ay c' w/\eU c' (jB k l)/\da c' (ji k l)/\(∀ j,j<k->c' j=c j)/\bW (aK ay) (eG k l) vs/\k<=jB k l
 |_,_,.nil,_,k,ι,c,hm,ho,hu=>⟨ι,c,Map.le.refl _,hm,hu,λk x h=>(by cases h),λ_ _=>rfl,.nil,bA _⟩
 |_,_,.cons (a:=a) (v:=v) (l:=l) (vs:=vs) h hs,au,k,ι,c,hm,ho,hu=>by
  have BL:∀ a∈l,aL.ok a=true:=λa ha=>au a (bH _ ha);have qE:=au a (aP ..);have go:∀(L:aH) (n:Nat) (u:i_) (bP:Map) (c1:g_),zH B w k ι c L n bP c1->aK bP u v->
    ∃ ay c',Map.le ι ay/\aM B ay c' w/\eU c' (jB n l)/\da c' (L++ji n l)/\(∀ j,j<k->c' j=c j)/\bW (aK ay) (u::eG n l) (v::vs)/\k<=jB n l:=by
   intro L n u bP c1 ⟨q1,q2,q3,q4,q5,q6,q7,q8⟩ q9;obtain⟨ay,c',h1,h2,h3,h4,h5,h6,h7⟩:=xJ hs BL n bP c1 q2 q3 q4;refine⟨ay,c',q1.trans h1,h2,h3,λj x hj=>?_,λj hj=>by rw[h5 j o_,q6 j hj],.cons (q9.mono h1) h6,by omega⟩;rw[jQ]at hj;cases e:ai L j with
   |some y=>
    rw[e]at hj;injection hj with hj;subst hj;rw[h5 j (q8 j _ e).2];exact q5 j _ e
   |none=>rw[e]at hj;exact h4 j x hj
  cases a with
  |p u=>
   cases h;exact go [] k _ ι c (aLp hm ho hu) (.same qE)
  |r n xs=>
   obtain⟨bP,c1,q1,q2⟩:=FY hm ho hu h qE;exact go _ _ _ bP c1 q1 q2
  |q xs=>
   obtain⟨bP,q1,q2,q3⟩:=aB0 hm (hu k (bA _)) h (bd.1 qE) ho;exact go _ _ _ bP _ (KY ho hu q1 q2 rfl) q3
  |f g xs=>
   obtain⟨u,rfl,pA⟩:=h;obtain⟨bP,q1,q2,q3⟩:=aB0 hm (hu k (bA _)) pA (bd.1 qE) ho;exact go _ _ _ bP _ (KY ho hu q1 q2 rfl) (.fn .nil (.cons q3 .nil))
  |b n xs=>
   obtain⟨b,o,u,rfl,hb,lg,jE⟩:=h;obtain⟨bP,c1,q1,q2⟩:=FY hm ho hu jE qE;obtain⟨a1,a2,a3,a4,a5,a6,a7,a8⟩:=q1;have dF:aM B (dR bP (k+1) (.at b o 0)) (bh c1 (k+1) (.view [.slice (some ⟨k,0,some 7⟩) n 0])) w:=by
    refine a2.add (a4 _ (bA _)) (.inr ⟨b,o,0,[u],rfl,.cons (q2.mono (gN (a2.dJ _ (a4 _ (bA _))))) .nil,λj x hj=>?_⟩) n_ n_ (λb1 o1 lG _ e1=>?_)
    ·cases j with
     |zero=>simp at hj;subst hj;exact lg
     |succ j=>simp at hj
    ·injection e1 with e1 e2 e3;subst e1;exact⟨hb,λj y o' bE hj hy=>by rw[a3 j y hj]at hy;cases hy⟩
   have h2:=KY a3 a4 (gN (a2.dJ _ (a4 _ (bA _)))) dF rfl;have:=aK.ptr (off:=0) (fP bP (k+1) (.at b o 0));rw[jd]at this;exact go _ _ _ _ _ (zH.trans ⟨a1,a2,a3,a4,a5,a6,a7,a8⟩ h2) this
  |o F=>
   obtain⟨bP,c1,q1,q2⟩:=U5 hm ho hu h (by simpa[aL.ok]using qE);exact go _ _ _ bP c1 q1 q2
  |s n1 iK n2 jA F=>
   simp only[aL.ok,cZ,yP]at qE;obtain⟨u1,u2,u3,rfl,r1,r2,r3⟩:=h;obtain⟨bP,c1,q1,p1⟩:=FY hm ho hu r1 qE.1;obtain⟨dG,c2,q2,p2⟩:=FY q1.2.1 q1.2.2.1 q1.2.2.2.1 r2 qE.2.1;obtain⟨Pc,c3,q3,p3⟩:=U5 q2.2.1 q2.2.2.1 q2.2.2.2.1 r3 qE.2.2;exact go _ _ _ Pc c3 (q1.trans (q2.trans q3)) (.agg (.cons (p1.mono (q2.1.trans q3.1)) (.cons (p2.mono q3.1) (.cons p3 .nil))))
  |a n1 iK n2 jA n3 FX=>
   simp only[aL.ok,cZ]at qE;obtain⟨u1,u2,u3,rfl,r1,r2,r3⟩:=h;obtain⟨bP,c1,q1,p1⟩:=FY hm ho hu r1 qE.1;obtain⟨dG,c2,q2,p2⟩:=FY q1.2.1 q1.2.2.1 q1.2.2.2.1 r2 qE.2.1;obtain⟨Pc,c3,q3,p3⟩:=FY q2.2.1 q2.2.2.1 q2.2.2.2.1 r3 qE.2.2;exact go _ _ _ Pc c3 (q1.trans (q2.trans q3)) (.agg (.cons (p1.mono (q2.1.trans q3.1)) (.cons (p2.mono q3.1) (.cons p3 .nil))))
  |c u F=>
   simp only[aL.ok,cZ,yP]at qE;obtain⟨t,rfl,h⟩:=h;obtain⟨bP,c1,q1,q2⟩:=U5 hm ho hu h qE.2;exact go _ _ _ bP c1 q1 (.agg (.cons (.same qE.1) (.cons q2 .nil)))
def bw(P:j_)(f:FuncId)(l:List aL)(res:i_):Prop:=
 ∀ w vs,u9 w l vs->Calls P f vs.toArray w λe w'=>e=.returned res/\Below w.heap.size w w'
def kY(P:j_)(f:FuncId)(l:List aL)(ty:TypeId)(size n:Nat)(xs:ah):Prop:=
 ∀ w vs,u9 w l vs->Calls P f vs.toArray w λe w'=>∃ v,e=.returned v/\w'.ownsRow w.heap.size ty size v n xs/\Below w.heap.size w w'
section
variable{P:j_}{B:aa}{N:Nat}
theorem iT{v:i_}(iE:P.follows .mixedOrders=true)(hf:P.funcs[f]?=some fn)(hl:(l.all aL.ok)=true)(n:Nat){N:Nat}(hN:N=(eG 0 l).length+(fn.ntmps-(eG 0 l).length))
  (rs:∀ w,bL P (aa.at w) N) (h:∀ w,oQ (gO (P:=P) fn n (eG 0 l) (ji 0 l) (jB 0 l) (rs w)) []=oR (gO fn n (eG 0 l) (ji 0 l) (jB 0 l) (rs w)) v []) (hv:flat v=true):bw P f l v:=by
 intro w vs cv;obtain⟨ι,c,h1,h2,h3,h4,h5,h6,h7⟩:=xJ cv (bd.1 hl) 0 _ _ (tH w) n_ (λ_ _=>rfl);exact uO iE hf hN n (h w) h6 h2 h4 h3 λay b9 v' w' hle hc hm _=>⟨by rw[hc.fk hv],hm.base⟩
theorem vT{k:Nat}(iE:P.follows .mixedOrders=true)(hf:P.funcs[f]?=some fn)(hl:(l.all aL.ok)=true)(n:Nat){N:Nat}(hN:N=(eG 0 l).length+(fn.ntmps-(eG 0 l).length))
  (rs:∀ w,bL P (aa.at w) N) (h:∀ w,oQ (gO (P:=P) fn n (eG 0 l) (ji 0 l) (jB 0 l) (rs w)) [(k,.row xs ty size)]=oR (gO fn n (eG 0 l) (ji 0 l) (jB 0 l) (rs w)) (.slice (some ⟨k,0,some 7⟩) m 0) [(k,.row xs ty size)])
  (hx:(xs.all flat)=true) (hlen:xs.length=m*size):kY P f l ty size m xs:=by
 intro w vs cv;obtain⟨ι,c,h1,h2,h3,h4,h5,h6,h7⟩:=xJ cv (bd.1 hl) 0 _ _ (tH w) n_ (λ_ _=>rfl);refine uO iE hf hN n (h w) h6 h2 h4 h3 λay b9 v' w' hle hc hm dQ=>⟨v',rfl,?_,hm.base⟩;have:=wZ hm (dQ (k,_) (aP ..)) hc o_ (bd.1 hx);rwa[<-hlen,ox]at this
inductive fW(B:aa):List aL->ah->List (Nat×Option Obj)->Prop
 |nil:fW B [] [] []
 |p {v:i_} {l:List aL} {vs:ah} {nd:q_}:flat v=true->fW B l vs nd->fW B (.p v::l) (v::vs) nd
 |w {k n cc:Nat} {x:Obj} {l:List aL} {vs:ah} {nd:q_}:x.reads=true->(x.cells.all flat)=true->(n=0->x.cells=[])->fW B l vs nd->fW B (.r n x.cells::l) (.slice (some ⟨k,0,some 7⟩) n cc::vs) ((k,some x)::nd)
 |r {k off n cc len:Nat} {x:Obj} {l:List aL} {vs:ah} {nd:q_}:x.reads=true->(x.cells.all flat)=true->(n=0->len=0)->fW B l vs nd->fW B (.r n ((x.cells.drop off).take len)::l) (.slice (some ⟨k,off,some 7⟩) n cc::vs) ((k,some x)::nd)
 |q {k:Nat} {x:Obj} {l:List aL} {vs:ah} {nd:q_}:x.reads=true->(x.cells.all flat)=true->fW B l vs nd->fW B (.q x.cells::l) (.pointer (some ⟨k,0,some 7⟩)::vs) ((k,some x)::nd)
 |f {g:FuncId} {k:Nat} {x:Obj} {l:List aL} {vs:ah} {nd:q_}:x.reads=true->(x.cells.all flat)=true->fW B l vs nd->fW B (.f g x.cells::l) (.func (.func g) #[] #[.pointer (some ⟨k,0,some 7⟩)]::vs) ((k,some x)::nd)
 |b {k m n cc:Nat} {x y:Obj} {l:List aL} {vs:ah} {nd:q_}:y.reads=true->y.cells=[.slice (some ⟨k,0,some 7⟩) n cc]->x.reads=true->(x.cells.all flat)=true->(n=0->x.cells=[])->fW B l vs nd->fW B (.b n x.cells::l) (.pointer (some ⟨m,0,some 7⟩)::vs) ((m,some y)::(k,some x)::nd)
 |o {k:Nat} {F:Fact} {l:List aL} {vs:ah} {nd:q_}:fW B l vs nd->fW B (.o F::l) (.pointer (some ⟨k,0,some 9⟩)::vs) ((k,some (.fact F))::nd)
 |e {v:i_} {n:Nat} {xs:ah} {l:List aL} {vs:ah} {nd:q_}:flat v=true->(∀ w,B.G w->dp w v n xs)->fW B l vs nd->fW B (.r n xs::l) (v::vs) nd
 |s {k1 n1 c1 k2 n2 c2 k3:Nat} {x1 x2:Obj} {F:Fact} {l:List aL} {vs:ah} {nd:q_}:x1.reads=true->(x1.cells.all flat)=true->(n1=0->x1.cells=[])->x2.reads=true->(x2.cells.all flat)=true->(n2=0->x2.cells=[])->fW B l vs nd->
   fW B (.s n1 x1.cells n2 x2.cells F::l) (.agg #[.slice (some ⟨k1,0,some 7⟩) n1 c1,.slice (some ⟨k2,0,some 7⟩) n2 c2,.pointer (some ⟨k3,0,some 9⟩)]::vs) ((k1,some x1)::(k2,some x2)::(k3,some (.fact F))::nd)
 |oi {k:Nat} {F F':Fact} {l:List aL} {vs:ah} {nd:q_}:(∀ v w,F'.G v w->F.G v w)->fW B l vs nd->fW B (.o F::l) (.pointer (some ⟨k,0,some 9⟩)::vs) ((k,some (.fact F'))::nd)
 |si {k1 n1 c1 k2 n2 c2 k3:Nat} {x1 x2:Obj} {F F':Fact} {l:List aL} {vs:ah} {nd:q_}:(∀ v w,F'.G v w->F.G v w)->x1.reads=true->(x1.cells.all flat)=true->(n1=0->x1.cells=[])->x2.reads=true->(x2.cells.all flat)=true->(n2=0->x2.cells=[])->fW B l vs nd->
   fW B (.s n1 x1.cells n2 x2.cells F::l) (.agg #[.slice (some ⟨k1,0,some 7⟩) n1 c1,.slice (some ⟨k2,0,some 7⟩) n2 c2,.pointer (some ⟨k3,0,some 9⟩)]::vs) ((k1,some x1)::(k2,some x2)::(k3,some (.fact F'))::nd)
 |c {u:i_} {k:Nat} {F F':Fact} {l:List aL} {vs:ah} {nd:q_}:flat u=true->(∀ v w,F'.G v w->F.G v w)->fW B l vs nd->fW B (.c u F::l) (.agg #[u,.pointer (some ⟨k,0,some 9⟩)]::vs) ((k,some (.fact F'))::nd)
theorem zJ(hm:aM B ι c w){k:Nat}{F:Fact}{v:i_}(hk:c k=some (.fact F))(hc:aK ι (.pointer (some ⟨k,0,some 9⟩)) v):BK w v F:=by
 obtain⟨l,h1,u,h2,h3⟩:=hm.born k _ hk;subst h2;generalize hp:Value.pointer (some ⟨k,0,some 9⟩)=p at hc;cases hc with
 |same h=>subst hp;cases h
 |ptr h=>injection hp with hp;injection hp with hp;injection hp with _ _ hp;cases hp
 |slc h=>cases hp
 |slcN h=>cases hp
 |opq h4 h5 h6=>
  injection hp with hp;injection hp with hp;injection hp with iN;subst iN;rw[h1]at h4;injection h4 with h4;injection h4 with h4;subst h4;exact⟨h3,h5,h6⟩
 |fn=>cases hp
 |agg=>cases hp
 |tup=>cases hp
theorem aB1(hm:aM B ι c w){k:Nat}{x:Obj}{v:i_}(hk:c k=some x)(hx:x.reads=true)(cK:∀ u∈x.cells,flat u=true)(hc:aK ι (.pointer (some ⟨k,0,some 7⟩)) v):Pb w v x.cells:=by
 obtain⟨b,o,cap,hb,rfl⟩:=hc.wI rfl;obtain⟨l,h1,h2⟩:=hm.born k x hk;dsimp only at hb;rw[hb]at h1;injection h1 with h1;subst h1;obtain⟨cg,fQ,lg⟩:=h2.at hx;have fQ:=nC fQ cK;subst fQ;refine⟨b,o,by simp,?_,λj u hj=>lg j u hj⟩;by_cases ho:x.owns=true
 ·exact(hm.own k x b o cap hk ho hb).1
 ·have hv:x.jN=true:=by unfold Obj.reads at hx;rw[tE]at hx;exact hx.resolve_left ho
  exact(hm.seen k x b o cap hk hv hb).1
theorem BM{nd:q_}(h:fW B l vs nd)(hm:aM B ι c w):∀{args:ah},(∀ p∈nd,c p.1=p.2)->bW (aK ι) vs args->u9 w l args:=by
 induction h with
 |nil=>intro args _ h;cases h;exact .nil
 |p hv _ ih=>
  intro args hn h;cases h with
  |cons h1 h2=>exact .cons (h1.fk hv) (ih hn h2)
 |@w k n cc x l vs nd hx cK hlen _ ih=>
  intro args hn h;cases h with
  |cons h1 h2=>
   refine .cons ?_ (ih (λp hp=>hn p (bH _ hp)) h2);have:=oS (len:=x.cells.length) hm (hn (k,some x) (aP ..)) hx (bd.1 cK) (λh=>by rw[hlen h];rfl) h1;rw[mg,ox]at this;exact this
 |@r k off n cc len x l vs nd hx cK hlen _ ih=>
  intro args hn h;cases h with
  |cons h1 h2=>
   refine .cons ?_ (ih (λp hp=>hn p (bH _ hp)) h2);exact oS (len:=len) hm (hn (k,some x) (aP ..)) hx (bd.1 cK) hlen h1
 |@q k x l vs nd hx cK _ ih=>
  intro args hn h;cases h with
  |cons h1 h2=>exact .cons (aB1 hm (hn (k,some x) (aP ..)) hx (bd.1 cK) h1) (ih (λp hp=>hn p (bH _ hp)) h2)
 |@f g k x l vs nd hx cK _ ih=>
  intro args hn h;cases h with
  |cons h1 h2=>
   refine .cons ?_ (ih (λp hp=>hn p (bH _ hp)) h2);obtain⟨j0,gM,rfl,q1,q2⟩:=h1.AH;have ef:j0=#[]:=by
    cases kv:j0.toList with
    |nil=>exact Il.1 kv
    |cons _ _=>rw[kv]at q1;cases q1
   subst ef;have q2:bW (aK ι) [.pointer (some ⟨k,0,some 7⟩)] gM.toList:=q2;cases lW:gM.toList with
   |nil=>rw[lW]at q2;cases q2
   |cons u t=>
    rw[lW]at q2;cases q2 with
    |cons q3 q4=>
     cases q4;refine⟨u,?_,aB1 hm (hn (k,some x) (aP ..)) hx (bd.1 cK) q3⟩
     congr 1
     apply EF;rw[lW]
 |@b k m n cc x y l vs nd hy hyc hx cK hlen _ ih=>
  intro args hn h;cases h with
  |@cons _ u _ _ h1 h2=>
   refine .cons ?_ (ih (λp hp=>hn p (bH _ (bH _ hp))) h2);obtain⟨b,o,cap,hb,rfl⟩:=h1.wI rfl;have hk:=hn (m,some y) (aP ..);obtain⟨lc,g1,g2⟩:=hm.born m y hk;dsimp only at hb;rw[hb]at g1;injection g1 with g1;subst g1;obtain⟨cg,fQ,lg⟩:=g2.at hy;rw[hyc]at fQ;obtain⟨u,rfl,hu⟩:=nB fQ;have jE:=oS (len:=x.cells.length) hm (hn (k,some x) (bH _ (aP ..))) hx (bd.1 cK) (λh=>by rw[hlen h];rfl) hu;rw[mg,ox]at jE;refine⟨b,o,u,by simp,?_,?_,jE⟩
   ·by_cases ho:y.owns=true
    ·exact(hm.own m y b o cap hk ho hb).1
    ·have hv:y.jN=true:=by unfold Obj.reads at hy;rw[tE]at hy;exact hy.resolve_left ho
     exact(hm.seen m y b o cap hk hv hb).1
   ·have:=lg 0 u rfl;simpa using this
 |@o k F l vs nd _ ih=>
  intro args hn h;cases h with
  |cons h1 h2=>exact .cons (zJ hm (hn (k,_) (aP ..)) h1) (ih (λp hp=>hn p (bH _ hp)) h2)
 |@c u k F F' l vs nd hu hi _ ih=>
  intro args hn h;cases h with
  |cons h1 h2=>
   refine .cons ?_ (ih (λp hp=>hn p (bH _ hp)) h2);obtain⟨cs,rfl,fQ⟩:=h1.GY;obtain⟨a,b,bZ,q1,q2⟩:=js fQ;have bY:=zJ hm (hn (k,_) (aP ..)) q2;refine⟨b,?_,hi _ _ bY.1,bY.2⟩;rw[q1.fk hu]at bZ
   congr 1
   apply EF;rw[bZ]
 |@e v n xs l vs nd hv hB _ ih=>
  intro args hn h;cases h with
  |cons h1 h2=>
   refine .cons ?_ (ih hn h2);rw[h1.fk hv];exact hB w hm.base
 |@s k1 n1 c1 k2 n2 c2 k3 x1 x2 F l vs nd r1 f1 l1 r2 f2 l2 _ ih=>
  intro args hn h;cases h with
  |cons h1 h2=>
   refine .cons ?_ (ih (λp hp=>hn p (bH _ (bH _ (bH _ hp)))) h2);obtain⟨us,rfl,KZ⟩:=h1.GY;obtain⟨u1,u2,u3,hu,q1,q2,q3⟩:=Jy KZ;have p1:=oS (len:=x1.cells.length) hm (hn (k1,some x1) (aP ..)) r1 (bd.1 f1) (λh=>by rw[l1 h];rfl) q1;have p2:=oS (len:=x2.cells.length) hm (hn (k2,some x2) (bH _ (aP ..))) r2 (bd.1 f2) (λh=>by rw[l2 h];rfl) q2;rw[mg,ox]at p1 p2;refine⟨u1,u2,u3,?_,p1,p2,zJ hm (hn (k3,_) (bH _ (bH _ (aP ..)))) q3⟩
   congr 1
   rw[<-zK (xs:=us),hu]
 |@oi k F F' l vs nd himp _ ih=>
  intro args hn h;cases h with
  |cons h1 h2=>
   have h3:=zJ hm (hn (k,_) (aP ..)) h1;exact .cons ⟨himp _ _ h3.1,h3.2⟩ (ih (λp hp=>hn p (bH _ hp)) h2)
 |@si k1 n1 c1 k2 n2 c2 k3 x1 x2 F F' l vs nd himp r1 f1 l1 r2 f2 l2 _ ih=>
  intro args hn h;cases h with
  |cons h1 h2=>
   refine .cons ?_ (ih (λp hp=>hn p (bH _ (bH _ (bH _ hp)))) h2);obtain⟨us,rfl,KZ⟩:=h1.GY;obtain⟨u1,u2,u3,hu,q1,q2,q3⟩:=Jy KZ;have p1:=oS (len:=x1.cells.length) hm (hn (k1,some x1) (aP ..)) r1 (bd.1 f1) (λh=>by rw[l1 h];rfl) q1;have p2:=oS (len:=x2.cells.length) hm (hn (k2,some x2) (bH _ (aP ..))) r2 (bd.1 f2) (λh=>by rw[l2 h];rfl) q2;rw[mg,ox]at p1 p2;have h3:=zJ hm (hn (k3,_) (bH _ (bH _ (aP ..)))) q3;refine⟨u1,u2,u3,?_,p1,p2,⟨himp _ _ h3.1,h3.2⟩⟩
   congr 1
   rw[<-zK (xs:=us),hu]
theorem pb{nd:q_}{x:m_}(h:bw P f l res)(hs:fW B l vs nd)(ho:dC o.op=some x)(eY:fN P f=true)(AV:flat res=true):
  cA P B o (.func (.func f) #[] #[]::vs) nd res []:=by
 have:=j7 (P:=P) (B:=B) (o:=o) (x:=x) (f:=f) (fi:=[]) (args:=vs) (ca:=[]) (need:=nd) (val:=res) (cX:=[]) ho eY ?_
 ·simpa using this
 ·intro ι c w hm hn args' ha;rw[jG,jh]at ha;refine(h w args' (BM hs hm hn ha)).mono ?_
  rintro e w' ⟨rfl,hb⟩
  exact⟨ι,res,rfl,Map.le.refl _,.same AV,hm.call hb⟩
def aU.cR(fn:Func)(key:Nat)(vs:ah){nd:q_}(h:bw P f l res)(hs:fW B l vs nd)(ho:dC (aA fn key).op=some (.func f):=by kernel_rfl)(hc:fN P f=true:=by kernel_rfl)(hr:flat res=true:=by kernel_rfl):aU P B N:=
 .step key (aA fn key) (.func (.func f) #[] #[]::vs) nd res [] (pb h hs ho hc hr)
theorem aLq{nd:q_}{x:m_}(h:bw P f l res)(hs:fW B l (vs++ca) nd)(ho:dC o.op=some x)(eY:fN P f=true)(AV:flat res=true):
  cA P B o (.func (.func f) #[] ca.toArray::vs) nd res []:=by
 have:=j7 (P:=P) (B:=B) (o:=o) (x:=x) (f:=f) (fi:=[]) (args:=vs) (ca:=ca) (need:=nd) (val:=res) (cX:=[]) ho eY ?_
 ·simpa using this
 ·intro ι c w hm hn args' ha;rw[jG]at ha;refine(h w args' (BM hs hm hn ha)).mono ?_
  rintro e w' ⟨rfl,hb⟩
  exact⟨ι,res,rfl,Map.le.refl _,.same AV,hm.call hb⟩
theorem qF{n:Nat}{nd:q_}{x:m_}(h:kY P f l ty size n xs)(hs:fW B l vs nd)(ho:dC o.op=some x)(eY:fN P f=true)(hx:(xs.all flat)=true)(k:Nat):
  cA P B o (.func (.func f) #[] #[]::vs) ((k,none)::nd) (.slice (some ⟨k,0,some 7⟩) n 0) [(k,.row xs ty size)]:=by
 have:=j7 (P:=P) (B:=B) (o:=o) (x:=x) (f:=f) (fi:=[]) (args:=vs) (ca:=[]) (need:=(k,none)::nd) (val:=.slice (some ⟨k,0,some 7⟩) n 0) (cX:=[(k,.row xs ty size)]) ho eY ?_
 ·simpa using this
 ·intro ι c w hm hn args' ha;rw[jG,jh]at ha;refine(h w args' (BM hs hm (λp hp=>hn p (bH _ hp)) ha)).mono ?_
  rintro e w' ⟨v,rfl,h1,h2⟩
  obtain⟨ay,q1,q2,q3⟩:=E2 hm h2 (k:=k) (hn (k,none) (aP ..)) h1 (bd.1 hx);exact⟨ay,v,rfl,q1,q3,q2⟩
end
section
open CR OF
@[ext] structure V3 (α:Type) where
 x:α
 y:α
 z:α
namespace V3
section
variable{α:Type}
instance[Add α]:Add (V3 α):=⟨λu v=>⟨u.x+v.x,u.y+v.y,u.z+v.z⟩⟩
instance[Sub α]:Sub (V3 α):=⟨λu v=>⟨u.x-v.x,u.y-v.y,u.z-v.z⟩⟩
instance[Neg α]:Neg (V3 α):=⟨λu=>⟨-u.x,-u.y,-u.z⟩⟩
instance[Zero α]:Zero (V3 α):=⟨⟨0,0,0⟩⟩
def smul[Mul α](v:V3 α)(k:α):V3 α:=⟨v.x*k,v.y*k,v.z*k⟩
def dot[Add α][Mul α](u v:V3 α):α:=u.x*v.x+u.y*v.y+u.z*v.z
def av[Sub α][Mul α](u v:V3 α):V3 α:=⟨u.y*v.z-u.z*v.y,u.z*v.x-u.x*v.z,u.x*v.y-u.y*v.x⟩
def cE[Add α][Sub α][Mul α](u v w:V3 α):α:=dot u (av v w)
end
def V(i:Nat):V3 E:=⟨E.var (3*i),E.var (3*i+1),E.var (3*i+2)⟩
def S(j:Nat):E:=E.var (90+j)
def flat{F:Type}:List (V3 F)->List F
 |[]=>[]
 |v::vs=>v.x::v.y::v.z::flat vs
def Pd{F:Type}[CR F](vs:List (V3 F))(ss:List F)(i:Nat):F:=cond (Nat.blt i 90) ((flat vs).getD i 0) (ss.getD (i-90) 0)
def aB2{F:Type}[CR F](ρ:Nat->F)(v:V3 E):V3 F:=⟨v.x.den ρ,v.y.den ρ,v.z.den ρ⟩
section
variable{F:Type}[CR F]
theorem ring(vs:List (V3 F))(ss:List F)(l r:(Nat->V3 E)->(Nat->E)->E)
  (h:E.peq (l V S).norm (r V S).norm=true) :
  (l V S).den (Pd vs ss)=(r V S).den (Pd vs ss):=E.prove _ _ _ h
theorem nj(vs:List (V3 F))(ss:List F)(l r:(Nat->V3 E)->(Nat->E)->V3 E)
  (h:(E.peq (l V S).x.norm (r V S).x.norm&&
   E.peq (l V S).y.norm (r V S).y.norm&&
   E.peq (l V S).z.norm (r V S).z.norm)=true) :
  aB2 (Pd vs ss) (l V S)=aB2 (Pd vs ss) (r V S):=by
 simp only[cZ]at h;exact V3.ext (E.prove _ _ _ h.1.1) (E.prove _ _ _ h.1.2) (E.prove _ _ _ h.2)
theorem zL(u v:V3 F):dot u v=dot v u:=ring [u,v] [] (λV _=>dot (V 0) (V 1)) (λV _=>dot (V 1) (V 0)) d_
theorem lv(u v w:V3 F):dot u (v+w)=dot u v+dot u w:=ring [u,v,w] [] (λV _=>dot (V 0) (V 1+V 2)) (λV _=>dot (V 0) (V 1)+dot (V 0) (V 2)) d_
theorem lA(u v w:V3 F):dot u (v-w)=dot u v-dot u w:=ring [u,v,w] [] (λV _=>dot (V 0) (V 1-V 2)) (λV _=>dot (V 0) (V 1)-dot (V 0) (V 2)) d_
theorem tZ(u v:V3 F):dot u (-v)=-dot u v:=ring [u,v] [] (λV _=>dot (V 0) (-V 1)) (λV _=>-dot (V 0) (V 1)) d_
theorem BN(u v:V3 F):dot (-u) v=-dot u v:=ring [u,v] [] (λV _=>dot (-V 0) (V 1)) (λV _=>-dot (V 0) (V 1)) d_
theorem jk(u v:V3 F)(k:F):dot u (smul v k)=dot u v*k:=ring [u,v] [k] (λV S=>dot (V 0) (smul (V 1) (S 0))) (λV S=>dot (V 0) (V 1)*S 0) d_
theorem Pe(u v w:V3 F):dot (u+v) w=dot u w+dot v w:=ring [u,v,w] [] (λV _=>dot (V 0+V 1) (V 2)) (λV _=>dot (V 0) (V 2)+dot (V 1) (V 2)) d_
theorem aLr(u v:V3 F)(k:F):dot (smul u k) v=dot u v*k:=ring [u,v] [k] (λV S=>dot (smul (V 0) (S 0)) (V 1)) (λV S=>dot (V 0) (V 1)*S 0) d_
theorem Dx(u:V3 F):dot u 0=0:=by show u.x*0+u.y*0+u.z*0=0;rw[CR.mul_zero,CR.mul_zero,CR.mul_zero,CR.add_zero,CR.add_zero]
theorem aLs(u:V3 F):dot 0 u=0:=by rw[zL,Dx]
theorem FZ(u v:V3 F):dot u (av u v)=0:=ring [u,v] [] (λV _=>dot (V 0) (av (V 0) (V 1))) (λ_ _=>0) d_
theorem Dy(u v:V3 F):dot v (av u v)=0:=ring [u,v] [] (λV _=>dot (V 1) (av (V 0) (V 1))) (λ_ _=>0) d_
theorem K0(u:V3 F):av u u=0:=nj [u] [] (λV _=>av (V 0) (V 0)) (λ_ _=>0) d_
theorem Im(u v:V3 F):av v u=-av u v:=nj [u,v] [] (λV _=>av (V 1) (V 0)) (λV _=>-av (V 0) (V 1)) d_
theorem Pf(u v w:V3 F):cE u v w=cE v w u:=ring [u,v,w] [] (λV _=>cE (V 0) (V 1) (V 2)) (λV _=>cE (V 1) (V 2) (V 0)) d_
theorem aB3(u v w:V3 F):cE u w v=-cE u v w:=ring [u,v,w] [] (λV _=>cE (V 0) (V 2) (V 1)) (λV _=>-cE (V 0) (V 1) (V 2)) d_
theorem neg_neg(u:V3 F):- -u=u:=nj [u] [] (λV _=>- -V 0) (λV _=>V 0) d_
theorem sub_self(u:V3 F):u-u=0:=nj [u] [] (λV _=>V 0-V 0) (λ_ _=>0) d_
theorem add_zero(u:V3 F):u+0=u:=V3.ext (CR.add_zero _) (CR.add_zero _) (CR.add_zero _)
theorem add_sub_cancel(u v:V3 F):u+(v-u)=v:=nj [u,v] [] (λV _=>V 0+(V 1-V 0)) (λV _=>V 1) d_
theorem smul_zero(u:V3 F):smul u 0=0:=V3.ext (CR.mul_zero _) (CR.mul_zero _) (CR.mul_zero _)
theorem aLt(u:V3 F):smul u 1=u:=V3.ext (CR.mul_one _) (CR.mul_one _) (CR.mul_one _)
theorem aB4(u:V3 F)(a b:F):smul (smul u a) b=smul u (a*b):=V3.ext (CR.mul_assoc _ _ _) (CR.mul_assoc _ _ _) (CR.mul_assoc _ _ _)
theorem neg_zero:-(0:V3 F)=0:=V3.ext CR.neg_zero CR.neg_zero CR.neg_zero
end
section
variable{F:Type}[OF F]
theorem sub_eq_zero{u v:V3 F}:u-v=0↔u=v:=by
 constructor
 ·intro h;exact V3.ext (OF.sub_eq_zero.1 (cL V3.x h)) (OF.sub_eq_zero.1 (cL V3.y h)) (OF.sub_eq_zero.1 (cL V3.z h))
 ·rintro rfl;exact sub_self u
theorem U6{u:V3 F}(h:u≠0):0<dot u u:=by
 by_cases hx:u.x=0
 ·by_cases hy:u.y=0
  ·have hz:u.z≠0:=λhz=>h (V3.ext hx hy hz);exact aA3 (add_nonneg (mX _) (mX _)) (T5 hz)
  ·exact HX (aA3 (mX _) (T5 hy)) (mX _)
 ·exact HX (HX (T5 hx) (mX _)) (mX _)
theorem BO{u:V3 F}(h:u≠0):dot u u≠0:=OF.ne_of_gt (U6 h)
theorem aLu{u:V3 F}{k:F}(h:smul u k=0):u=0\/k=0:=by
 by_cases hk:k=0
 ·exact .inr hk
 ·left;have hx:=(mul_eq_zero.1 (cL V3.x h:u.x*k=0)).resolve_right hk;have hy:=(mul_eq_zero.1 (cL V3.y h:u.y*k=0)).resolve_right hk;have hz:=(mul_eq_zero.1 (cL V3.z h:u.z*k=0)).resolve_right hk;exact V3.ext hx hy hz
theorem neg_eq_zero{u:V3 F}:-u=0↔u=0:=by
 constructor
 ·intro h;rw[<-neg_neg u,h,neg_zero]
 ·rintro rfl;exact neg_zero
theorem Io{a b c v:V3 F}(hd:cE a b c≠0)(ha:dot a v=0)(hb:dot b v=0)(hc:dot c v=0):v=0:=by
 have e:smul v (cE a b c)=smul (av b c) (dot a v)+smul (av c a) (dot b v)+smul (av a b) (dot c v):=
  nj [a,b,c,v] [] (λV _=>smul (V 3) (cE (V 0) (V 1) (V 2)))
   (λV _=>smul (av (V 1) (V 2)) (dot (V 0) (V 3))+smul (av (V 2) (V 0)) (dot (V 1) (V 3))+smul (av (V 0) (V 1)) (dot (V 2) (V 3))) d_
 rw[ha,hb,hc,smul_zero,smul_zero,smul_zero,add_zero,add_zero]at e;exact(aLu e).resolve_right hd
theorem aB5{a b v:V3 F}(hd:av a b≠0)(ha:dot a v=0)(hb:dot b v=0):v=smul (av a b) (dot (av a b) v*(dot (av a b) (av a b))⁻¹):=by
 have bj:=BO hd;have e:smul v (dot (av a b) (av a b))=smul (av a b) (dot (av a b) v)+smul (av b (av a b)) (dot a v)+smul (av (av a b) a) (dot b v):=
  nj [a,b,v] [] (λV _=>smul (V 2) (dot (av (V 0) (V 1)) (av (V 0) (V 1))))
   (λV _=>smul (av (V 0) (V 1)) (dot (av (V 0) (V 1)) (V 2))+smul (av (V 1) (av (V 0) (V 1))) (dot (V 0) (V 2))+smul (av (av (V 0) (V 1)) (V 0)) (dot (V 1) (V 2))) d_
 rw[ha,hb,smul_zero,smul_zero,add_zero,add_zero]at e;rw[<-aB4,<-e,aB4,lS _ bj,aLt]
end
end V3
end
variable{acc:List (V3 K)}
section
open CR OF V3
@[ext] structure HS (F:Type) where
 n:V3 F
 d:F
section
variable{F:Type}[OF F]
def iq(ps:List (HS F))(v:V3 F):Prop:=∀ p∈ps,dot p.n v<=p.d
def ep(p:HS F)(v:V3 F):Prop:=dot p.n v=p.d
def Cl(ps:List (HS F)):Prop:=
 (∃ p∈ps,∃ q∈ps,av p.n q.n≠0)/\∀ p∈ps,∀ q∈ps,av p.n q.n≠0->∃ r∈ps,0<dot r.n (av p.n q.n)
def jl(ps:List (HS F)):Prop:=∀ p∈ps,p.n≠0
theorem K1{d:V3 F}(h:d≠0):∃ u:V3 F,u≠0/\dot d u=0:=by
 by_cases hz:d.z=0
 ·by_cases hy:d.y=0
  ·have hx:d.x≠0:=λhx=>h (V3.ext hx hy hz);refine⟨⟨d.z,0,-d.x⟩,λe=>hx ?_,ring [d] [] (λV _=>dot (V 0) ⟨(V 0).z,0,-(V 0).x⟩) (λ_ _=>0) d_⟩;have:-d.x=0:=cL V3.z e;rw[<-CR.neg_neg d.x,this,CR.neg_zero]
  ·refine⟨⟨-d.y,d.x,0⟩,λe=>hy ?_,ring [d] [] (λV _=>dot (V 0) ⟨-(V 0).y,(V 0).x,0⟩) (λ_ _=>0) d_⟩;have:-d.y=0:=cL V3.x e;rw[<-CR.neg_neg d.y,this,CR.neg_zero]
 ·refine⟨⟨0,-d.z,d.y⟩,λe=>hz ?_,ring [d] [] (λV _=>dot (V 0) ⟨0,-(V 0).z,(V 0).y⟩) (λ_ _=>0) d_⟩;have:-d.z=0:=cL V3.y e;rw[<-CR.neg_neg d.z,this,CR.neg_zero]
theorem aLv(l:List (F×F))(h0:∀ x∈l,0<=x.2)(hp:∃ x∈l,0<x.1):
  ∃ t:F,0<=t/\(∃ x∈l,0<x.1/\x.1*t=x.2)/\∀ x∈l,x.1*t<=x.2:=by
 induction l with
 |nil=>obtain⟨x,hx,_⟩:=hp;cases hx
 |cons y l ih=>
  obtain⟨a,b⟩:=y;have hb:0<=b:=h0 _ (aP ..);have h0':∀ x∈l,0<=x.2:=λx hx=>h0 x (bH _ hx)
  -- t=b/a aVY,if it is at most t' aVZ t' is aV0
  have new:0<a->(∀ x∈l,0<x.1->x.1*(b*a⁻¹)<=x.2)->
    ∃ t:F,0<=t/\(∃ x∈(a,b)::l,0<x.1/\x.1*t=x.2)/\∀ x∈(a,b)::l,x.1*t<=x.2:=by
   intro ha hl;have e:a*(b*a⁻¹)=b:=by rw[CR.mul_left_comm,lS _ (OF.ne_of_gt ha),CR.mul_one]
   have ht:0<=b*a⁻¹:=mul_nonneg hb (le_of_lt (inv_pos ha));refine⟨b*a⁻¹,ht,⟨_,aP ..,ha,e⟩,?_⟩;intro x hx;rcases ct.1 hx with rfl|hx
   ·exact OF.le_of_eq e
   ·by_cases h:0<x.1
    ·exact hl x hx h
    ·refine OF.le_trans ?_ (h0' x hx);rw[<-neg_nonneg,<-CR.neg_mul];exact mul_nonneg (neg_nonneg.2 (OF.not_lt.1 h)) ht
  by_cases hl:∃ x∈l,0<x.1
  ·obtain⟨t,ht,⟨x,hx,kZ,zM⟩,aY⟩:=ih h0' hl;by_cases mO:a*t<=b
   ·exact⟨t,ht,⟨x,bH _ hx,kZ,zM⟩,λz hz=>by
     rcases ct.1 hz with rfl|hz
     ·exact mO
     ·exact aY z hz⟩
   ·have Pg:=OF.not_le.1 mO;have ha:0<a:=by
     rcases OF.lt_trichotomy 0 a with h|h|h
     ·exact h
     ·rw[<-h,CR.zero_mul]at Pg;exact absurd (OF.lt_of_le_of_lt hb Pg) (OF.lt_irrefl _)
     ·have:=mul_nonneg (neg_nonneg.2 (le_of_lt h)) ht;rw[CR.neg_mul,neg_nonneg]at this;exact absurd (OF.lt_of_le_of_lt hb (OF.lt_of_lt_of_le Pg this)) (OF.lt_irrefl _)
    refine new ha λz hz wK=>?_;refine OF.le_trans ?_ (aY z hz);refine le_of_lt ((mul_lt_mul_left wK).2 ?_);rw[<-mul_lt_mul_left ha,CR.mul_left_comm,lS _ (OF.ne_of_gt ha),CR.mul_one];exact Pg
  ·obtain⟨x,hx,kZ⟩:=hp;rcases ct.1 hx with rfl|hx
   ·exact new kZ λz hz wK=>(hl ⟨z,hz,wK⟩).elim
   ·exact(hl ⟨x,hx,kZ⟩).elim
theorem yU{ps:List (HS F)}{v u:V3 F}(hv:iq ps v)(hu:∃ p∈ps,0<dot p.n u):
  ∃ t:F,0<=t/\(∃ q∈ps,0<dot q.n u/\ep q (v+smul u t))/\iq ps (v+smul u t):=by
 obtain⟨t,ht,⟨x,hx,kZ,zM⟩,aY⟩:=aLv (ps.map λp=>(dot p.n u,p.d-dot p.n v))
  (λx hx=>by obtain⟨p,hp,rfl⟩:=dj.1 hx;exact OF.sub_nonneg.2 (hv p hp))
  (by obtain⟨p,hp,h⟩:=hu;exact⟨_,dj.2 ⟨p,hp,rfl⟩,h⟩)
 obtain⟨q,hq,rfl⟩:=dj.1 hx;have e:∀ p:HS F,dot p.n (v+smul u t)=dot p.n v+dot p.n u*t:=λp=>by rw[lv,jk]
 refine⟨t,ht,⟨q,hq,kZ,?_⟩,?_⟩
 ·unfold ep;rw[e,zM];exact kE (dot q.n v) q.d (λa d=>a+(d-a)) (λ_ d=>d) d_
 ·intro p hp;have:=aY _ (dj.2 ⟨p,hp,rfl⟩);rw[e];have h2:=(add_le_add_left (dot p.n v)).2 this;rwa[show dot p.n v+(p.d-dot p.n v)=p.d from kE (dot p.n v) p.d (λa d=>a+(d-a)) (λ_ d=>d) d_]at h2
theorem Ph{p q u:V3 F}(hp:p≠0)(h:av p q=0)(hu:dot p u=0):dot q u=0:=by
 have e:dot q u*dot p p=dot p u*dot p q-dot (av p (av p q)) u:=
  ring [p,q,u] [] (λV _=>dot (V 1) (V 2)*dot (V 0) (V 0)) (λV _=>dot (V 0) (V 2)*dot (V 0) (V 1)-dot (av (V 0) (av (V 0) (V 1))) (V 2)) d_
 have z:av p (0:V3 F)=0:=nj [p] [] (λV _=>av (V 0) 0) (λ_ _=>0) d_;rw[h,hu,z,aLs,CR.zero_mul,OF.sub_zero]at e;exact(mul_eq_zero.1 e).resolve_right (BO hp)
theorem F0{p d:V3 F}(hp:p≠0)(hd:d≠0)(h:dot p d=0):av p d≠0:=by
 intro e;have e2:dot (av p d) (av p d)=dot p p*dot d d-dot p d*dot p d:=
  ring [p,d] [] (λV _=>dot (av (V 0) (V 1)) (av (V 0) (V 1))) (λV _=>dot (V 0) (V 0)*dot (V 1) (V 1)-dot (V 0) (V 1)*dot (V 0) (V 1)) d_
 rw[e,h,Dx,CR.mul_zero,OF.sub_zero]at e2;exact mul_ne_zero (BO hp) (BO hd) e2.symm
theorem U7{d u:V3 F}{t:F}(hd:d≠0)(h:dot d u=0):d+smul u t≠0:=by intro e;have:=cL (dot d) e;rw[lv,jk,h,CR.zero_mul,CR.add_zero,Dx]at this;exact BO hd this
theorem aB6{ns:List (V3 F)}(hs:∃ a∈ns,∃ b∈ns,∃ c∈ns,cE a b c≠0){u:V3 F}(hu:u≠0):
  (∃ n∈ns,0<dot n u)\/(∃ n∈ns,0<dot n (-u)):=by
 obtain⟨a,ha,b,hb,c,hc,hd⟩:=hs;have key:∀ n∈ns,dot n u≠0->(∃ n∈ns,0<dot n u)\/(∃ n∈ns,0<dot n (-u)):=by
  intro n hn h;rcases OF.lt_trichotomy 0 (dot n u)with k|k|k
  ·exact .inl ⟨n,hn,k⟩
  ·exact absurd k.symm h
  ·exact .inr ⟨n,hn,by rw[tZ];exact neg_pos.2 k⟩
 by_cases h1:dot a u=0
 ·by_cases h2:dot b u=0
  ·by_cases h3:dot c u=0
   ·exact absurd (Io hd h1 h2 h3) hu
   ·exact key c hc h3
  ·exact key b hb h2
 ·exact key a ha h1
theorem ray{ns:List (V3 F)}(h0:∀ n∈ns,n≠0)(hs:∃ a∈ns,∃ b∈ns,∃ c∈ns,cE a b c≠0){d:V3 F}(hd:d≠0)(cv:∀ n∈ns,dot n d<=0):
  ∃ p∈ns,∃ q∈ns,av p q≠0/\∀ n∈ns,dot n (av p q)<=0:=by
 -- one Pj
 have U8:∀{v u:V3 F},(∀ n∈ns,dot n v<=0)->(∃ n∈ns,0<dot n u)->∃ t:F,(∃ q∈ns,0<dot q u/\dot q (v+smul u t)=0)/\∀ n∈ns,dot n (v+smul u t)<=0:=by
  intro v u hv hu
  obtain⟨t,_,⟨q,hq,pI,vU⟩,aY⟩:=yU (ps:=ns.map λn=>⟨n,0⟩) (v:=v) (u:=u)
   (λp hp=>by obtain⟨n,hn,rfl⟩:=dj.1 hp;exact hv n hn)
   (by obtain⟨n,hn,h⟩:=hu;exact⟨⟨n,0⟩,dj.2 ⟨n,hn,rfl⟩,h⟩)
  obtain⟨n,hn,rfl⟩:=dj.1 hq;exact⟨t,⟨n,hn,pI,vU⟩,λm hm=>aY ⟨m,0⟩ (dj.2 ⟨m,hm,rfl⟩)⟩
 have one:∃ d1:V3 F,d1≠0/\(∃ p∈ns,dot p d1=0)/\∀ n∈ns,dot n d1<=0:=by
  obtain⟨u,hu,Pk⟩:=K1 hd;rcases aB6 hs hu with h|h
  ·obtain⟨t,⟨q,hq,_,vU⟩,aY⟩:=U8 cv h;exact⟨_,U7 hd Pk,⟨q,hq,vU⟩,aY⟩
  ·obtain⟨t,⟨q,hq,_,vU⟩,aY⟩:=U8 cv h;exact⟨_,U7 hd (by rw[tZ,Pk,CR.neg_zero]),⟨q,hq,vU⟩,aY⟩
 obtain⟨d1,U9,⟨p,hp,G9⟩,Va⟩:=one;have Pl:=h0 p hp;have fin:∀ u:V3 F,dot p u=0->dot d1 u=0->(∃ n∈ns,0<dot n u)->∃ p∈ns,∃ q∈ns,av p q≠0/\∀ n∈ns,dot n (av p q)<=0:=by
  intro u BP Pk h;obtain⟨t,⟨q,hq,hqu,vU⟩,aY⟩:=U8 Va h;have bj:av p q≠0:=λe=>by rw[Ph Pl e BP]at hqu;exact OF.lt_irrefl _ hqu
  have Us:d1+smul u t≠0:=U7 U9 Pk;have vV:dot p (d1+smul u t)=0:=by rw[lv,jk,BP,G9,CR.zero_mul,CR.add_zero]
  have e:=aB5 bj vV vU;generalize dot (av p q) (d1+smul u t)*(dot (av p q) (av p q))⁻¹=k at e;rcases OF.lt_trichotomy 0 k with hk|hk|hk
  ·refine⟨p,hp,q,hq,bj,λn hn=>?_⟩;have:=aY n hn;rw[e,jk,CR.mul_comm]at this;rw[<-CR.mul_zero k,mul_le_mul_left hk]at this;exact this
  ·rw[<-hk,smul_zero]at e;exact absurd e Us
  ·refine⟨q,hq,p,hp,λe'=>bj (by rw[Im,e',V3.neg_zero]),λn hn=>?_⟩;have:=aY n hn;rw[e,jk,Im q p,tZ,CR.neg_mul,<-CR.mul_neg,CR.mul_comm]at this;rw[<-CR.mul_zero (-k),mul_le_mul_left (neg_pos.2 hk)]at this;exact this
 have hc:=F0 Pl U9 G9;rcases aB6 hs hc with h|h
 ·exact fin _ (FZ p d1) (Dy p d1) h
 ·exact fin _ (by rw[tZ,FZ,CR.neg_zero]) (by rw[tZ,Dy,CR.neg_zero]) h
theorem Cl.span{ps:List (HS F)}(h:Cl ps):∃ a∈ps.map HS.n,∃ b∈ps.map HS.n,∃ c∈ps.map HS.n,cE a b c≠0:=by obtain⟨⟨p,hp,q,hq,OR⟩,ig⟩:=h;obtain⟨r,hr,h⟩:=ig p hp q hq OR;exact⟨r.n,dj.2 ⟨r,hr,rfl⟩,p.n,dj.2 ⟨p,hp,rfl⟩,q.n,dj.2 ⟨q,hq,rfl⟩,OF.ne_of_gt h⟩
theorem Cl.bounds{ps:List (HS F)}(h:Cl ps)(hp:jl ps){u:V3 F}(hu:u≠0):∃ r∈ps,0<dot r.n u:=by
 apply jI;intro fT;have cv:∀ n∈ps.map HS.n,dot n u<=0:=by intro n hn;obtain⟨p,hp,rfl⟩:=dj.1 hn;exact OF.not_lt.1 λk=>fT ⟨p,hp,k⟩
 obtain⟨a,ha,b,hb,bj,aY⟩:=ray (λn hn=>by obtain⟨p,iQ,rfl⟩:=dj.1 hn;exact hp p iQ) h.span hu cv;obtain⟨p,iQ,rfl⟩:=dj.1 ha;obtain⟨q,BQ,rfl⟩:=dj.1 hb;obtain⟨r,hr,oj⟩:=h.2 p iQ q BQ bj;exact OF.lt_irrefl _ (OF.lt_of_lt_of_le oj (aY r.n (dj.2 ⟨r,hr,rfl⟩)))
def mo(ps:List (HS F))(v:V3 F):Prop:=
 iq ps v/\∃ p∈ps,∃ q∈ps,∃ r∈ps,cE p.n q.n r.n≠0/\ep p v/\ep q v/\ep r v
theorem top{ps:List (HS F)}(hc:Cl ps)(hp:jl ps){x m:V3 F}(hx:iq ps x):∃ v,mo ps v/\dot m x<=dot m v:=by
 -- a step along a line
 have go:∀{x u:V3 F},iq ps x->u≠0->∃ u':V3 F,(u'=u\/u'=-u)/\∃ t:F,(∃ q∈ps,0<dot q.n u'/\ep q (x+smul u' t))/\iq ps (x+smul u' t)/\dot m x<=dot m (x+smul u' t):=by
  have half:∀{x u:V3 F},iq ps x->u≠0->0<=dot m u->∃ t:F,(∃ q∈ps,0<dot q.n u/\ep q (x+smul u t))/\iq ps (x+smul u t)/\dot m x<=dot m (x+smul u t):=by intro x u hx hu hm;obtain⟨t,ht,hq,cv⟩:=yU hx (hc.bounds hp hu);refine⟨t,hq,cv,?_⟩;rw[lv,jk];have:=(add_le_add_left (dot m x)).2 (mul_nonneg hm ht);rwa[CR.add_zero]at this
  intro x u hx hu;rcases OF.le_total 0 (dot m u)with h|h
  ·exact⟨u,.inl rfl,half hx hu h⟩
  ·exact⟨-u,.inr rfl,half hx (λe=>hu (neg_eq_zero.1 e)) (by rw[tZ];exact neg_nonneg.2 h)⟩
 obtain⟨⟨p0,Pl,_⟩,_⟩:=hc;obtain⟨u1,_,t1,⟨p,iU,_,vV⟩,Va,c7⟩:=go hx (hp p0 Pl);generalize x+smul u1 t1=x1 at *;obtain⟨u,hu,BP⟩:=K1 (hp p iU);obtain⟨u2,h2,t2,⟨q,lB,pI,vU⟩,aLw,dF⟩:=go Va hu;have aB7:dot p.n u2=0:=by
  rcases h2 with rfl|rfl
  ·exact BP
  ·rw[tZ,BP,CR.neg_zero]
 have aLx:ep p (x1+smul u2 t2):=by unfold ep at *;rw[lv,jk,aB7,CR.zero_mul,CR.add_zero,vV]
 generalize x1+smul u2 t2=x2 at *;have bj:av p.n q.n≠0:=λe=>by rw[Ph (hp p iU) e aB7]at pI;exact OF.lt_irrefl _ pI
 obtain⟨u3,h3,t3,⟨r,hrm,oj,F1⟩,aLy,vA⟩:=go aLw bj;have aB8:dot p.n u3=0/\dot q.n u3=0:=by
  rcases h3 with rfl|rfl
  ·exact⟨FZ _ _,Dy _ _⟩
  ·rw[tZ,tZ,FZ,Dy,CR.neg_zero];exact⟨rfl,rfl⟩
 refine⟨_,⟨aLy,p,iU,q,lB,r,hrm,?_,?_,?_,F1⟩,OF.le_trans c7 (OF.le_trans dF vA)⟩
 ·intro e;have e2:dot r.n (av p.n q.n)=0:=by rw[show dot r.n (av p.n q.n)=cE r.n p.n q.n from rfl,Pf];exact e
  rcases h3 with rfl|rfl
  ·rw[e2]at oj;exact OF.lt_irrefl _ oj
  ·rw[tZ,e2,CR.neg_zero]at oj;exact OF.lt_irrefl _ oj
 ·unfold ep at *;rw[lv,jk,aB8.1,CR.zero_mul,CR.add_zero,aLx]
 ·unfold ep at *;rw[lv,jk,aB8.2,CR.zero_mul,CR.add_zero,vU]
theorem aLz{ps:List (HS F)}(hp:jl ps){v x:V3 F}(hv:mo ps v)(hx:iq ps x)(bj:x≠v):
  ∃ p∈ps,∃ q∈ps,ep p v/\ep q v/\av p.n q.n≠0/\∀ r∈ps,ep r v->dot r.n (av p.n q.n)<=0:=by
 classical
 obtain⟨_,a,ha,b,hb,c,hc,hd,ta,tb,tc⟩:=hv
 let ts:=ps.filter λp=>decide (ep p v)
 have mem:∀ p,p∈ts↔p∈ps/\ep p v:=λp=>by simp[ts]
 obtain⟨n,hn,m,hm,lL,aY⟩:=ray (ns:=ts.map HS.n) (d:=x-v)
  (λn hn=>by obtain⟨p,iQ,rfl⟩:=dj.1 hn;exact hp p ((mem p).1 iQ).1)
  ⟨a.n,dj.2 ⟨a,(mem a).2 ⟨ha,ta⟩,rfl⟩,b.n,dj.2 ⟨b,(mem b).2 ⟨hb,tb⟩,rfl⟩,c.n,dj.2 ⟨c,(mem c).2 ⟨hc,tc⟩,rfl⟩,hd⟩
  (λe=>bj (V3.sub_eq_zero.1 e))
  (λn hn=>by obtain⟨p,iQ,rfl⟩:=dj.1 hn;obtain⟨iN,ht⟩:=(mem p).1 iQ;rw[lA,show dot p.n v=p.d from ht,<-neg_nonneg,OF.neg_sub];exact OF.sub_nonneg.2 (hx p iN))
 obtain⟨p,iQ,rfl⟩:=dj.1 hn;obtain⟨q,BQ,rfl⟩:=dj.1 hm;exact⟨p,((mem p).1 iQ).1,q,((mem q).1 BQ).1,((mem p).1 iQ).2,((mem q).1 BQ).2,lL,λr hr ht=>aY r.n (dj.2 ⟨r,(mem r).2 ⟨hr,ht⟩,rfl⟩)⟩
end
structure iW(F:Type)[OF F] where
 fw:V3 F->Prop
 add:∀{x y},fw x->fw y->fw (x+y)
 mul:∀{x k},fw x->0<k->fw (smul x k)
 asymm:∀{x},fw x->fw (-x)->False
namespace iW
variable{F:Type}[OF F](H:iW F)
theorem zero{H:iW F}:¬H.fw 0:=λh=>H.asymm h (by rw[V3.neg_zero];exact h)
def opp:iW F where
 fw v:=H.fw (-v)
 add {x y} hx hy:=by rw[show -(x+y)=-x+-y from nj [x,y] [] (λV _=>-(V 0+V 1)) (λV _=>-V 0+-V 1) d_];exact H.add hx hy
 mul {x k} hx hk:=by rw[show -(smul x k)=smul (-x) k from nj [x] [k] (λV S=>-(smul (V 0) (S 0))) (λV S=>smul (-V 0) (S 0)) d_];exact H.mul hx hk
 asymm {x} h k:=H.asymm h k
theorem ne{H:iW F}{a b:V3 F}(h:H.fw (b-a)):a≠b:=by rintro rfl;rw[V3.sub_self]at h;exact zero h
theorem aB9{H:iW F}{a b c:V3 F}(h:H.fw (b-a))(k:H.fw (c-b)):H.fw (c-a):=by rw[show c-a=(b-a)+(c-b)from nj [a,b,c] [] (λV _=>V 2-V 0) (λV _=>(V 1-V 0)+(V 2-V 1)) d_];exact H.add h k
theorem Ip{H:iW F}{a b:V3 F}(h:H.fw (b-a))(k:H.fw (a-b)):False:=by apply H.asymm h;rw[show -(b-a)=a-b from nj [a,b] [] (λV _=>-(V 1-V 0)) (λV _=>V 0-V 1) d_];exact k
end iW
section
variable{F:Type}[OF F](n:V3 F)
def tr(x y:V3 F):F:=dot n (av x y)
def turn(a b c:V3 F):F:=dot n (av (b-a) (c-a))
theorem Vb(a b c:V3 F):turn n a b c=turn n b c a:=
 ring [n,a,b,c] [] (λV _=>dot (V 0) (av (V 2-V 1) (V 3-V 1))) (λV _=>dot (V 0) (av (V 3-V 2) (V 1-V 2))) d_
theorem aCa(a b c:V3 F):turn n a c b=-turn n a b c:=
 ring [n,a,b,c] [] (λV _=>dot (V 0) (av (V 3-V 1) (V 2-V 1))) (λV _=>-dot (V 0) (av (V 2-V 1) (V 3-V 1))) d_
theorem Vc(a b c:V3 F):turn n a b c=tr n (b-a) (c-b):=
 ring [n,a,b,c] [] (λV _=>dot (V 0) (av (V 2-V 1) (V 3-V 1))) (λV _=>dot (V 0) (av (V 2-V 1) (V 3-V 2))) d_
theorem aLA(a b c:V3 F):turn n a b c=tr n (b-a) (c-a):=rfl
theorem Pm(x y:V3 F):tr n y x=-tr n x y:=
 ring [n,x,y] [] (λV _=>dot (V 0) (av (V 2) (V 1))) (λV _=>-dot (V 0) (av (V 1) (V 2))) d_
theorem Vd(x y:V3 F):tr n x (-y)=-tr n x y:=
 ring [n,x,y] [] (λV _=>dot (V 0) (av (V 1) (-V 2))) (λV _=>-dot (V 0) (av (V 1) (V 2))) d_
theorem aLB(x:V3 F):tr n x x=0:=ring [n,x] [] (λV _=>dot (V 0) (av (V 1) (V 1))) (λ_ _=>0) d_
theorem Dz(a b:V3 F):b-a=-(a-b):=nj [a,b] [] (λV _=>V 1-V 0) (λV _=>-(V 0-V 1)) d_
theorem aCb{x y z:V3 F}(hn:n≠0)(hx:dot n x=0)(hy:dot n y=0)(hz:dot n z=0):
  smul y (tr n x z)=smul z (tr n x y)+smul x (tr n y z):=by
 have hd:cE x y z=0:=by apply jI;intro h;exact hn (Io h (by rw[zL];exact hx) (by rw[zL];exact hy) (by rw[zL];exact hz))
 have e:smul y (tr n x z)=smul z (tr n x y)+smul x (tr n y z)-smul n (cE x y z):=
  nj [n,x,y,z] [] (λV _=>smul (V 2) (dot (V 0) (av (V 1) (V 3))))
   (λV _=>smul (V 3) (dot (V 0) (av (V 1) (V 2)))+smul (V 1) (dot (V 0) (av (V 2) (V 3)))-smul (V 0) (cE (V 1) (V 2) (V 3))) d_
 rw[e,hd,smul_zero];exact nj [smul z (tr n x y),smul x (tr n y z)] [] (λV _=>V 0+V 1-0) (λV _=>V 0+V 1) d_
theorem Ve(H:iW F){x y z:V3 F}(hn:n≠0)(hx:dot n x=0)(hy:dot n y=0)(hz:dot n z=0)(fx:H.fw x)(fy:H.fw y)(fz:H.fw z)
  (h:0<tr n x y) (k:0<tr n y z):0<tr n x z:=by
 have e:=aCb n hn hx hy hz;have f:H.fw (smul y (tr n x z)):=by rw[e];exact H.add (H.mul fz h) (H.mul fx k)
 rcases OF.lt_trichotomy 0 (tr n x z)with g|g|g
 ·exact g
 ·rw[<-g,smul_zero]at f;exact absurd f iW.zero
 ·exact(H.asymm f (by rw[show -(smul y (tr n x z))=smul y (-(tr n x z))from nj [y] [tr n x z] (λV S=>-(smul (V 0) (S 0))) (λV S=>smul (V 0) (-S 0)) d_];exact H.mul fy (neg_pos.2 g))).elim
theorem aLC{m x y z:V3 F}(hn:n≠0)(hx:dot n x=0)(hy:dot n y=0)(hz:dot n z=0)(fx:0<dot m x)(fy:0<dot m y)(fz:0<dot m z)
  (h:0<tr n x y) (k:0<tr n y z):0<tr n x z:=by
 have e:=cL (dot m) (aCb n hn hx hy hz);rw[lv,jk,jk,jk]at e;have p:0<dot m y*tr n x z:=by rw[e];exact add_pos (mul_pos fz h) (mul_pos fx k)
 rwa[<-CR.mul_zero (dot m y),mul_lt_mul_left fy]at p
variable{ι:Type}(pt:ι->V3 F)
structure Conv(S:List ι):Prop where
 qG:∀ a∈S,∀ b∈S,dot n (pt b-pt a)=0
 xK:∀ c∈S,∃ m:V3 F,∀ w∈S,w≠c->dot m (pt w)<dot m (pt c)
variable{n pt}
theorem Conv.sub{S T:List ι}(h:Conv n pt S)(hT:∀ x∈T,x∈S):Conv n pt T:=
 ⟨λa ha b hb=>h.qG a (hT a ha) b (hT b hb),λc hc=>(h.xK c (hT c hc)).imp λ_ hm w hw=>hm w (hT w hw)⟩
theorem Conv.aCc{S:List ι}(h:Conv n pt S)(hn:n≠0){a b c:ι}(ha:a∈S)(hb:b∈S)(hc:c∈S)(bZ:a≠b)(Pn:a≠c)(zO:b≠c):
  turn n (pt a) (pt b) (pt c)≠0:=by
 intro e;generalize hx:pt b-pt a=x at *;generalize hy:pt c-pt a=y at *;have px:dot n x=0:=hx▸h.qG a ha b hb;have py:dot n y=0:=hy▸h.qG a ha c hc;have e':dot n (av x y)=0:=by rw[<-hx,<-hy];exact e
 have hz:av x y=0:=by
  apply jI;intro bj;apply F0 hn bj e';have e2:av n (av x y)=smul x (dot n y)-smul y (dot n x):=
   nj [n,x,y] [] (λV _=>av (V 0) (av (V 1) (V 2))) (λV _=>smul (V 1) (dot (V 0) (V 2))-smul (V 2) (dot (V 0) (V 1))) d_
  rw[e2,px,py,smul_zero,smul_zero,V3.sub_self]
 obtain⟨ma,fa⟩:=h.xK a ha;obtain⟨mb,fb⟩:=h.xK b hb;obtain⟨mc,fc⟩:=h.xK c hc;have hax:dot ma x<0:=by rw[<-hx,lA,<-neg_pos,OF.neg_sub];exact OF.sub_pos.2 (fa b hb (mN bZ))
 have hay:dot ma y<0:=by rw[<-hy,lA,<-neg_pos,OF.neg_sub];exact OF.sub_pos.2 (fa c hc (mN Pn))
 have Vf:0<dot mb x:=by rw[<-hx,lA];exact OF.sub_pos.2 (fb a ha bZ)
 have aLD:dot mb y<dot mb x:=by have:=fb c hc (mN zO);rw[<-hx,<-hy,lA,lA,OF.lt_def];rw[show dot mb (pt b)-dot mb (pt a)-(dot mb (pt c)-dot mb (pt a))=dot mb (pt b)-dot mb (pt c)from lq (dot mb (pt a)) (dot mb (pt b)) (dot mb (pt c)) (λa b c=>b-a-(c-a)) (λ_ b c=>b-c) d_];exact this
 have Vg:0<dot mc y:=by rw[<-hy,lA];exact OF.sub_pos.2 (fc a ha Pn)
 have aLE:dot mc x<dot mc y:=by have:=fc b hb zO;rw[<-hx,<-hy,lA,lA,OF.lt_def];rw[show dot mc (pt c)-dot mc (pt a)-(dot mc (pt b)-dot mc (pt a))=dot mc (pt c)-dot mc (pt b)from lq (dot mc (pt a)) (dot mc (pt b)) (dot mc (pt c)) (λa b c=>c-a-(b-a)) (λ_ b c=>c-b) d_];exact this
 -- y is a aV1 t of x
 have kZ:x≠0:=by rintro rfl;rw[Dx]at Vf;exact OF.lt_irrefl _ Vf
 have key:∀ m:V3 F,dot m y*dot x x=dot m x*dot x y:=by
  intro m;have e2:dot m y*dot x x=dot m x*dot x y-dot m (av x (av x y)):=
   ring [m,x,y] [] (λV _=>dot (V 0) (V 2)*dot (V 1) (V 1)) (λV _=>dot (V 0) (V 1)*dot (V 1) (V 2)-dot (V 0) (av (V 1) (av (V 1) (V 2)))) d_
  rw[hz,show av x (0:V3 F)=0 from nj [x] [] (λV _=>av (V 0) 0) (λ_ _=>0) d_,Dx,OF.sub_zero]at e2;exact e2
 have HC:=U6 kZ;have kb:=key mb;have kc:=key mc;have ka:=key ma
 -- from b: t<1;from c: t>1 as t>0
 have t1:dot x y<dot x x:=by rw[<-mul_lt_mul_left Vf,<-kb,CR.mul_comm,CR.mul_comm (dot mb x),mul_lt_mul_left HC];exact aLD
 have aLF:0<dot x y:=by have h1:0 < -dot ma x:=neg_pos.2 hax;rw[<-mul_lt_mul_left h1,CR.mul_zero,CR.neg_mul,<-ka,<-CR.neg_mul];exact mul_pos (neg_pos.2 hay) HC
 have K3:0<dot mc x:=by
  have:0<dot x y*dot mc x:=by rw[CR.mul_comm,<-kc];exact mul_pos Vg HC
  rwa[<-CR.mul_zero (dot x y),mul_lt_mul_left aLF]at this
 have t2:dot x x<dot x y:=by rw[<-mul_lt_mul_left K3,<-kc,CR.mul_comm,CR.mul_comm (dot mc y),mul_lt_mul_left HC];exact aLE
 exact OF.lt_irrefl _ (OF.lt_trans t1 t2)
def oy(n:V3 F)(pt:ι->V3 F)(T:List ι)(a b:ι):Prop:=∀ c∈T,c≠a->c≠b->0<turn n (pt a) (pt b) (pt c)
variable(H:iW F)
def e6(n:V3 F)(pt:ι->V3 F)(H:iW F)(T:List ι):List ι->Prop
 |[]=>False
 |[a]=>a∈T/\∀ c∈T,c≠a->H.fw (pt c-pt a)
 |b::a::st=>b∈T/\H.fw (pt b-pt a)/\oy n pt T a b/\e6 n pt H T (a::st)
def pop(n:V3 F)(pt:ι->V3 F)(p:ι):List ι->List ι
 |b::a::st=>if 0<turn n (pt a) (pt b) (pt p)then b::a::st else pop n pt p (a::st)
 |st=>st
def half(n:V3 F)(pt:ι->V3 F)(l:List ι):List ι:=l.foldl (λst p=>p::pop n pt p st) []
variable{H}
theorem e6.mem{T:List ι}:∀{st:List ι},e6 n pt H T st->∀ x∈st,x∈T
 |[a],h,x,hx=>by rcases ct.1 hx with rfl|hx;exact h.1;cases hx
 |b::a::st,h,x,hx=>by
  rcases ct.1 hx with rfl|hx
  ·exact h.1
  ·exact e6.mem h.2.2.2 x hx
theorem e6.below{T:List ι}:∀{b:ι} {st:List ι},e6 n pt H T (b::st)->∀ x∈st,H.fw (pt b-pt x)
 |b,a::st,h,x,hx=>by
  rcases ct.1 hx with rfl|hx
  ·exact h.2.1
  ·exact iW.aB9 (e6.below h.2.2.2 x hx) h.2.1
 |b,[],_,x,hx=>by cases hx
theorem e6.least{T:List ι}:∀{st:List ι},e6 n pt H T st->∃ a,st.getLast?=some a/\a∈T/\∀ c∈T,c≠a->H.fw (pt c-pt a)
 |[a],h=>⟨a,rfl,h.1,h.2⟩
 |b::a::st,h=>by obtain⟨x,hx,hm,aY⟩:=e6.least h.2.2.2;exact⟨x,by rw[Po];exact hx,hm,aY⟩
theorem e6.grow{T:List ι}{p w:ι}(hn:n≠0)(hc:Conv n pt (p::T))(hp:∀ c∈T,H.fw (pt p-pt c))(hw:w∈T)
  (hpw:∀ c∈T,c≠w->0<turn n (pt w) (pt p) (pt c)):∀{st:List ι},e6 n pt H T st->(∀ x∈st,H.fw (pt w-pt x))->e6 n pt H (p::T) st
 |[a],h,_=>⟨bH _ h.1,λc hc ha=>by
   rcases ct.1 hc with rfl|hc
   ·exact hp a h.1
   ·exact h.2 c hc ha⟩
 |v::u::st,h,bT=>by
  refine⟨bH _ h.1,h.2.1,?_,e6.grow hn hc hp hw hpw h.2.2.2 λx hx=>bT x (bH _ hx)⟩;intro c dP RX km;rcases ct.1 dP with rfl|dP
  ·have hv:v∈T:=h.1;have hu:u∈T:=e6.mem h.2.2.2 u (aP ..);have fwv:H.fw (pt w-pt v):=bT v (aP ..);have wv:w≠v:=by rintro rfl;exact iW.ne fwv rfl
   have wu:w≠u:=by rintro rfl;exact iW.ne (bT w (bH _ (aP ..))) rfl
   have h1:=h.2.2.1 w hw wu wv;have h2:=hpw v hv (mN wv);rw[<-Vb]at h2;rw[Vc]at h1 ⊢;have qT:=bH c hv;exact Ve n H hn (hc.qG u (bH _ hu) v qT) (hc.qG v qT w (bH _ hw)) (hc.qG v qT c (aP ..)) h.2.1 fwv (hp v hv) h1 h2
  ·exact h.2.2.1 c dP RX km
theorem e6.pop{T:List ι}{p:ι}(hn:n≠0)(hc:Conv n pt (p::T))(hp:∀ c∈T,H.fw (pt p-pt c))
  (aLG:∀ a∈T,∀ c∈T,c≠a->H.fw (pt c-pt a)\/H.fw (pt a-pt c)) :
  ∀{b:ι} {st:List ι},e6 n pt H T (b::st)->
   ((∀ c∈T,c≠b->H.fw (pt b-pt c))\/∃ e∈T,e≠b/\H.fw (pt e-pt b)/\oy n pt T b e/\turn n (pt b) (pt e) (pt p)<=0)->
   e6 n pt H (p::T) (p::Go.Proofs.YthjhinbiabcfiaaGreatDoor.pop n pt p (b::st)):=by
 have pp:p∈p::T:=aP ..;have mm:∀{x},x∈T->x∈p::T:=λh=>bH _ h;have pne:∀ c∈T,p≠c:=λc hc e=>iW.ne (hp c hc) (by rw[e])
 -- points in front of b
 have front:∀{b c:ι},b∈T->c∈T->c≠b->H.fw (pt c-pt b)->
   ((∀ c∈T,c≠b->H.fw (pt b-pt c))\/∃ e∈T,e≠b/\H.fw (pt e-pt b)/\oy n pt T b e/\turn n (pt b) (pt e) (pt p)<=0)->0<turn n (pt b) (pt p) (pt c):=by
  intro b c hb dP nk hf lj;rcases lj with BR|⟨e,he,heb,Pp,hl,ht⟩
  ·exact(iW.Ip hf (BR c dP nk)).elim
  ·have EV:0<turn n (pt b) (pt p) (pt e):=by
    rw[aCa,neg_pos];rcases OF.pK ht with h|h
    ·exact h
    ·exact absurd h (hc.aCc hn (mm hb) (mm he) pp (mN heb) (mN (pne b hb)) (mN (pne e he)))
   by_cases hce:c=e
   ·rw[hce];exact EV
   ·have h3:=hl c dP nk hce;exact Ve n H hn (hc.qG b (mm hb) p pp) (hc.qG b (mm hb) e (mm he)) (hc.qG b (mm hb) c (mm dP)) (hp b hb) Pp hf EV h3
 intro b st;induction st generalizing b with
 |nil=>
  intro h lj;refine⟨pp,hp b h.1,?_,mm h.1,λc dP nk=>?_⟩
  ·intro c dP nk F2;have vf:c∈T:=(ct.1 dP).resolve_left F2;exact front h.1 vf nk (h.2 c vf nk) lj
  ·rcases ct.1 dP with rfl|vf
   ·exact hp b h.1
   ·exact h.2 c vf nk
 |cons a st ih=>
  intro h lj;have ha:a∈T:=e6.mem h.2.2.2 a (aP ..);have hb:b∈T:=h.1;unfold Go.Proofs.YthjhinbiabcfiaaGreatDoor.pop;split
  ·rename_i Pq;have aY:∀ c∈T,c≠b->0<turn n (pt b) (pt p) (pt c):=by
    intro c vf nk;rcases aLG b hb c vf nk with hf|hf
    ·exact front hb vf nk hf lj
    ·-- c aLH behind b
     have h1:0<tr n (pt b-pt a) (pt p-pt b):=by rw[<-Vc];exact Pq
     rw[aLA];by_cases lW:c=a
     ·rw[lW,Dz (pt b) (pt a),Vd,neg_pos,Pm,Kz];exact h1
     ·have h2:=h.2.2.1 c vf lW nk;rw[Vc]at h2;rw[Dz (pt b) (pt c),Vd,neg_pos,Pm,Kz];refine Ve n H hn (hc.qG c (mm vf) b (mm hb)) (hc.qG a (mm ha) b (mm hb)) (hc.qG b (mm hb) p pp) hf h.2.1 (hp b hb) ?_ h1;rw[Dz (pt b) (pt c),Vd,neg_pos,Pm,Kz]at h2;exact h2
   refine⟨pp,hp b hb,?_,mm hb,h.2.1,?_,?_⟩
   ·intro c dP nk F2;exact aY c ((ct.1 dP).resolve_left F2) nk
   ·intro c dP lW nk;rcases ct.1 dP with rfl|vf
    ·exact Pq
    ·exact h.2.2.1 c vf lW nk
   ·exact e6.grow hn hc hp hb aY h.2.2.2 (e6.below h)
  ·rename_i Pq;exact ih h.2.2.2 (.inr ⟨b,hb,λe=>iW.ne h.2.1 (by rw[e]),h.2.1,h.2.2.1,OF.not_lt.1 Pq⟩)
end
section
variable{F:Type}[OF F]{n:V3 F}{ι:Type}{pt:ι->V3 F}{H:iW F}
def xL(pt:ι->V3 F)(H:iW F)(l:List ι):Prop:=l.Pairwise λa b=>H.fw (pt b-pt a)
theorem aCd(p:ι):∀(b:ι) (st:List ι),∃ x fq,pop n pt p (b::st)=x::fq
 |b,[]=>⟨b,[],rfl⟩
 |b,a::st=>by
  unfold pop;split
  ·exact⟨_,_,rfl⟩
  ·exact aCd p a st
theorem xL.total{l:List ι}(h:xL pt H l):∀ a∈l,∀ c∈l,c≠a->H.fw (pt c-pt a)\/H.fw (pt a-pt c):=by
 induction l with
 |nil=>intro a ha;cases ha
 |cons x l ih=>
  have h1:=sT.1 h;intro a ha c hc lW;rcases ct.1 ha with e|gk
  ·rcases ct.1 hc with e2|dq
   ·exact absurd (e2.trans e.symm) lW
   ·exact .inl (e▸h1.1 c dq)
  ·rcases ct.1 hc with e2|dq
   ·exact .inr (e2▸h1.1 a gk)
   ·exact ih h1.2 a gk c dq lW
theorem e6.congr{T T':List ι}(h:∀ x,x∈T↔x∈T'):∀{st:List ι},e6 n pt H T st->e6 n pt H T' st
 |[a],hc=>⟨(h a).1 hc.1,λc hm=>hc.2 c ((h c).2 hm)⟩
 |b::a::st,hc=>⟨(h b).1 hc.1,hc.2.1,λc hm=>hc.2.2.1 c ((h c).2 hm),e6.congr h hc.2.2.2⟩
theorem aCe(hn:n≠0):∀(l T:List ι) (b:ι) (st:List ι),Conv n pt (T++l)->xL pt H (T++l)->b∈T->(∀ c∈T,c≠b->H.fw (pt b-pt c))->
  e6 n pt H T (b::st)->∃ x fq,l.foldl (λst p=>p::pop n pt p st) (b::st)=x::fq/\e6 n pt H (T++l) (x::fq)/\(∀ c∈T++l,c≠x->H.fw (pt x-pt c))/\(l.getLast?).getD b=x
 |[],T,b,st,_,_,hb,BR,h=>⟨b,st,rfl,by rw[jh];exact h,by rw[jh];exact BR,rfl⟩
 |p::l,T,b,st,hc,hs,hb,BR,h=>by
  have pC:=List.pairwise_append.1 hs;have hp:∀ c∈T,H.fw (pt p-pt c):=λc vf=>pC.2.2 c vf p (aP ..);have mem:∀ x,x∈p::T↔x∈T++[p]:=λx=>by simp[or_comm]
  have h1:=e6.pop hn (hc.sub (T:=p::T) λx hx=>by
   rcases ct.1 hx with rfl|hx
   ·exact fo.2 (.inr (aP ..))
   ·exact fo.2 (.inl hx)) hp (xL.total pC.1) h (.inl BR)
  obtain⟨x,fq,hx⟩:=aCd (n:=n) (pt:=pt) p b st;rw[hx]at h1;have e:T++[p]++l=T++p::l:=by simp
  obtain⟨y,st2,hf,xM,Vh,hl⟩:=aCe hn l (T++[p]) p (x::fq) (by rw[e];exact hc) (by rw[e];exact hs) s_
   (λc dP F2=>by
    rcases fo.1 dP with dP|dP
    ·exact hp c dP
    ·exact absurd (Pr.1 dP) F2) (e6.congr mem h1)
  refine⟨y,st2,?_,by rw[<-e];exact xM,by rw[<-e];exact Vh,?_⟩
  ·rw[vH,hx];exact hf
  ·rw[<-hl];cases l with
   |nil=>rfl
   |cons z l=>rw[Po,List.getLast?_eq_some_getLast (l:=z::l) s_];rfl
theorem aCf(hn:n≠0){l:List ι}{a:ι}(hc:Conv n pt (a::l))(hs:xL pt H (a::l)):
  ∃ x st,half n pt (a::l)=x::st/\e6 n pt H (a::l) (x::st)/\(∀ c∈a::l,c≠x->H.fw (pt x-pt c))/\(l.getLast?).getD a=x:=by
 have pC:=sT.1 hs
 exact aCe hn l [a] a [] (by exact hc) (by exact hs) (aP ..)
  (λc dP lW=>absurd (Pr.1 dP) lW) ⟨aP ..,λc dP lW=>absurd (Pr.1 dP) lW⟩
def pP(R:ι->ι->Prop):List ι->Prop
 |[]=>True
 |[_]=>True
 |a::b::l=>R a b/\pP R (b::l)
theorem Vi{R:ι->ι->Prop}:∀{l:List ι} {a:ι} {m:List ι},pP R (l++[a])->pP R (a::m)->pP R (l++a::m)
 |[],a,m,_,h=>h
 |[x],a,m,h1,h=>⟨h1.1,h⟩
 |x::y::l,a,m,h1,h=>⟨h1.1,Vi (l:=y::l) h1.2 h⟩
theorem aCg{R:ι->ι->Prop}:∀{l:List ι} {a b:ι},pP R (l++[a])->R a b->pP R (l++[a,b])
 |[],a,b,_,h=>⟨h,trivial⟩
 |[x],a,b,h1,h=>⟨h1.1,h,trivial⟩
 |x::y::l,a,b,h1,h=>⟨h1.1,aCg (l:=y::l) h1.2 h⟩
theorem e6.steps{T:List ι}:∀{st:List ι},e6 n pt H T st->pP (λa b=>oy n pt T a b/\H.fw (pt b-pt a)) st.reverse
 |[a],_=>trivial
 |b::a::st,h=>by have ih:=e6.steps h.2.2.2;rw[vW]at ih ⊢;rw[vW,EU];exact aCg ih ⟨h.2.2.1,h.2.1⟩
theorem pP.imp{R R':ι->ι->Prop}(h:∀ a b,R a b->R' a b):∀{l:List ι},pP R l->pP R' l
 |[],_=>trivial
 |[_],_=>trivial
 |_::b::l,hs=>⟨h _ _ hs.1,pP.imp h (l:=b::l) hs.2⟩
def order(n:V3 F)(pt:ι->V3 F)(l:List ι):List ι:=(half n pt l).tail.reverse++(half n pt l.reverse).tail.reverse
theorem aLI(hn:n≠0){S:List ι}(hc:Conv n pt S){c:ι}(K4:c∈S):∀{l:List ι} {a b:ι},(∀ x∈a::l,x∈S)->c∉a::l->
  pP (λa b=>oy n pt S a b) (a::l)->(a::l).getLast?=some b->a=b\/0<tr n (pt a-pt c) (pt b-pt c):=by
 obtain⟨m,hm⟩:=hc.xK c K4;intro l;induction l with
 |nil=>intro a b _ _ _ h;left;simpa using h
 |cons x l ih=>
  intro a b hS BG bT mU;right;have K3:c∉x::l:=λh=>BG (bH _ h);have lW:c≠a:=λh=>BG (h▸aP ..);have aCh:c≠x:=λh=>K3 (h▸aP ..);have h1:0<tr n (pt a-pt c) (pt x-pt c):=by have:=bT.1 c K4 lW aCh;rw[<-Vb]at this;exact this
  have aCi:(x::l).getLast?=some b:=by rw[Po]at mU;exact mU
  have hb:b∈x::l:=List.mem_of_getLast? aCi;have aS:=hS a (aP ..);have xS:=hS x (bH _ (aP ..));have bS:=hS b (bH _ hb);have neg:∀ y∈S,c≠y->0<dot (-m) (pt y-pt c):=by intro y hy Vg;rw[BN,lA,OF.neg_sub];exact OF.sub_pos.2 (hm y hy (mN Vg))
  rcases ih (λy hy=>hS y (bH _ hy)) K3 bT.2 aCi with rfl|h2
  ·exact h1
  ·exact aLC n hn (hc.qG c K4 a aS) (hc.qG c K4 x xS) (hc.qG c K4 b bS) (neg a aS lW) (neg x xS aCh) (neg b bS (λh=>K3 (h▸hb))) h1 h2
theorem aLJ(l:List ι)(a:ι):(l++[a]).getLast?=some a:=by simp
theorem aCj{S:List ι}(hS:∀ a∈S,∀ b∈S,pt a=pt b->a=b){a b c:ι}(hb:b∈S)(hc:c∈S)(bZ:b≠a)(Pn:c≠a)(h1:oy n pt S a b)(h2:oy n pt S a c):b=c:=by apply jI;intro zO;have k1:=h1 c hc Pn (mN zO);have k2:=h2 b hb bZ zO;rw[aCa]at k2;exact OF.lt_irrefl _ (OF.lt_trans k1 (neg_pos.1 k2))
theorem Vj{T:List ι}:∀{st:List ι},e6 n pt H T st->st.Pairwise λa b=>H.fw (pt a-pt b)
 |[_],_=>aCk ..
 |b::a::st,h=>sT.2 ⟨e6.below h,Vj h.2.2.2⟩
theorem aCl(hn:n≠0){l:List ι}{a b:ι}(hc:Conv n pt (a::b::l))(hs:xL pt H (a::b::l)):
  ∃ m,order n pt (a::b::l)=a::m/\(a::m).Nodup/\(∀ x,x∈a::m↔x∈a::b::l)/\pP (λx y=>oy n pt (a::b::l) x y) (a::m++[a]):=by
 generalize hS:a::b::l=S at *
 -- the way there
 obtain⟨z,st,hh,xM,BR,hz⟩:=aCf (H:=H) hn (l:=b::l) (a:=a) (hS▸hc) (hS▸hs);rw[hS]at hh xM BR
 -- the list from Vk end on,and the opposite half
 have aLK:∃ w t,S.reverse=w::t:=by
  cases h:S.reverse with
  |nil=>rw[aCm]at h;rw[<-hS]at h;cases h
  |cons w t=>exact⟨w,t,rfl⟩
 obtain⟨w,t,Ps⟩:=aLK;have zQ:∀ x,x∈w::t↔x∈S:=λx=>by rw[<-Ps];exact K5
 have Si:xL pt H.opp (w::t):=by rw[<-Ps];unfold xL at *;rw[aCn];refine hs.imp ?_;intro x y h;show H.fw (-(pt x-pt y));rw[<-Dz];exact h
 have hcr:Conv n pt (w::t):=hc.sub λx hx=>(zQ x).1 hx;obtain⟨z',fq,BS,DA,aLL,nX⟩:=aCf (H:=H.opp) hn hcr Si;have aS:a∈S:=by rw[<-hS];exact aP ..
 have bS:b∈S:=by rw[<-hS];exact bH _ (aP ..)
 have Vl:∀ c∈S,c≠a->H.fw (pt c-pt a):=by intro c dP lW;rw[<-hS]at dP hs;exact(sT.1 hs).1 c ((ct.1 dP).resolve_left lW)
 -- the ends of both aLM
 have hza:z'=a:=by
  apply jI;intro bj;have h1:=aLL a ((zQ a).2 aS) (mN bj);have h2:=Vl z' ((zQ z').1 (e6.mem DA z' (aP ..))) bj;have oM:H.fw (pt a-pt z'):=by rw[Dz (pt z') (pt a)];exact h1
  exact iW.Ip h2 oM
 subst hza;obtain⟨a1,eE,aLN,aLO⟩:=e6.least xM;have hra:a1=z':=by apply jI;intro bj;exact iW.Ip (Vl a1 aLN bj) (aLO z' aS (mN bj))
 rw[hra]at eE;obtain⟨w1,F3,aLP,aLQ⟩:=e6.least DA;have zS:z∈S:=e6.mem xM z (aP ..);have hwz:w1=z:=by
  apply jI;intro bj;have h1:=BR w1 ((zQ w1).1 aLP) bj;have h2:=aLQ z ((zQ z).2 zS) (mN bj);have zy:H.fw (pt w1-pt z):=by rw[Dz (pt z) (pt w1)];exact h2
  exact iW.Ip h1 zy
 rw[hwz]at F3;have haz:z'≠z:=by
  rintro rfl
  rcases Classical.em (b=z')with rfl|xN
  ·rw[<-hS]at hs;exact iW.ne ((sT.1 hs).1 b (aP ..)) rfl
  ·exact iW.Ip (Vl b bS xN) (BR b bS xN)
 -- the pieces
 have aLR:∃ u,st.reverse=z'::u:=by
  cases st with
  |nil=>simp at eE;exact absurd eE.symm haz
  |cons x st=>
   rw[Po]at eE;cases h:(x::st).reverse with
   |nil=>rw[aCm]at h;cases h
   |cons q u=>
    have:(x::st)=(q::u).reverse:=by rw[<-h,List.reverse_reverse]
    rw[this,vW,List.getLast?_append,List.getLast?_singleton]at eE;simp at eE;exact⟨u,by rw[eE]⟩
 have aLS:∃ u,fq.reverse=z::u:=by
  cases fq with
  |nil=>simp at F3;exact absurd F3 haz
  |cons x fq=>
   rw[Po]at F3;cases h:(x::fq).reverse with
   |nil=>rw[aCm]at h;cases h
   |cons q u=>
    have:(x::fq)=(q::u).reverse:=by rw[<-h,List.reverse_reverse]
    rw[this,vW,List.getLast?_append,List.getLast?_singleton]at F3;simp at F3;exact⟨u,by rw[F3]⟩
 obtain⟨u,hu⟩:=aLR;obtain⟨u',pA⟩:=aLS;have aLT:order n pt S=z'::(u++z::u'):=by unfold order;rw[hh,Ps,BS];simp only[List.tail_cons];rw[hu,pA];rfl
 refine⟨u++z::u',aLT,?_,?_,?_⟩
 case refine_3=>
  have s1:=(e6.steps xM).imp (R':=λx y=>oy n pt S x y) λx y h=>h.1;have s2:=(e6.steps DA).imp (R':=λx y=>oy n pt S x y) λx y h c dP=>h.1 c ((zQ c).2 dP);rw[vW,hu]at s1;rw[vW,pA]at s2;have:=Vi (l:=z'::u) (a:=z) (m:=u'++[z']) s1 s2;simpa using this
 case refine_2=>
  have sub:∀ x,x∈z'::(u++z::u')->x∈S:=by
   intro x hx;have:x∈z'::u\/x∈z::u':=by
    rcases ct.1 hx with h|h
    ·exact .inl (h▸aP ..)
    ·rcases fo.1 h with h|h
     ·exact .inl (bH _ h)
     ·exact .inr h
   rcases this with h|h
   ·rw[<-hu,K5]at h;exact e6.mem xM x (bH _ h)
   ·rw[<-pA,K5]at h;exact(zQ x).1 (e6.mem DA x (bH _ h))
  intro x;refine⟨sub x,λhx=>?_⟩;apply jI;intro fT;have s1:=(e6.steps xM).imp (R':=λx y=>oy n pt S x y) λx y h=>h.1;have s2:=(e6.steps DA).imp (R':=λx y=>oy n pt S x y) λx y h c dP=>h.1 c ((zQ c).2 dP);rw[vW,hu]at s1;rw[vW,pA]at s2;have s3:=Vi (l:=z'::u) (a:=z) (m:=u'++[z']) s1 s2;have kZ:z'≠x:=λh=>fT (h▸aP ..)
  -- the first step,then the rest back to Vk start
  have aLU:∃ y v,u++z::(u'++[z'])=y::v:=by
   cases u with
   |nil=>exact⟨z,_,rfl⟩
   |cons y u=>exact⟨y,_,rfl⟩
  obtain⟨y,v,Jw⟩:=aLU;have s3':pP (λx y=>oy n pt S x y) (z'::y::v):=by rw[<-Jw];exact s3
  have aY:∀ q∈y::v,q=z'\/q∈z'::(u++z::u'):=by
   intro q hq;rw[<-Jw]at hq;have:q∈u++z::u'\/q=z':=by simpa[or_assoc]using hq
   rcases this with h|h
   ·exact .inr (bH _ h)
   ·exact .inl h
  have NS:x∉y::v:=λh=>by
   rcases aY x h with h|h
   ·exact kZ h.symm
   ·exact fT h
  have hyS:∀ q∈y::v,q∈S:=λq hq=>by
   rcases aY q hq with h|h
   ·rw[h];exact aS
   ·exact sub q h
  have mU:(y::v).getLast?=some z':=by rw[<-Jw,show u++z::(u'++[z'])=(u++z::u')++[z']by simp];exact aLJ _ _
  have hyx:x≠y:=λh=>NS (h▸aP ..);have h1:0<tr n (pt z'-pt x) (pt y-pt x):=by have:=s3'.1 x hx (mN kZ) hyx;rw[<-Vb]at this;exact this
  rcases aLI hn hc hx hyS NS s3'.2 mU with h2|h2
  ·rw[h2,aLB]at h1;exact OF.lt_irrefl _ h1
  ·rw[Pm]at h2;exact OF.lt_irrefl _ (OF.lt_trans h1 (neg_pos.1 h2))
 case refine_1=>
  have d1:=Vj xM;have d2:=Vj DA;have e1:(z'::u).Pairwise λa b=>H.fw (pt b-pt a):=by rw[<-hu,aCn];exact(sT.1 d1).2
  have e2:(z::u').Pairwise λa b=>H.fw (pt a-pt b):=by rw[<-pA,aCn];refine(sT.1 d2).2.imp ?_;intro x y h;rw[Dz (pt x) (pt y)];exact h
  have inj:∀ x∈S,∀ y∈S,pt x=pt y->x=y:=by
   intro x hx y hy kB;apply jI;intro bj;rcases xL.total hs y hy x hx bj with h|h
   ·exact iW.ne h kB.symm
   ·exact iW.ne h kB
  have n1:(z'::u).Nodup:=e1.imp λh=>λe=>iW.ne h (by rw[e]);have n2:(z::u').Nodup:=e2.imp λh=>λe=>iW.ne h (by rw[e]);rw[show z'::(u++z::u')=(z'::u)++(z::u')from rfl,List.nodup_append];refine⟨n1,n2,?_⟩;intro x hx y hy kB;subst kB
  -- x aLH on both aLM: Vk aV2 differ
  have aLV:∀{l:List ι} {e x:ι},pP (λa b=>oy n pt S a b/\H.fw (pt b-pt a)) (l++[e])->x∈l->∃ y∈l++[e],oy n pt S x y/\H.fw (pt y-pt x):=by
   intro l;induction l with
   |nil=>intro e x _ h;cases h
   |cons p l ih=>
    intro e x bT hx;cases l with
    |nil=>
     rcases ct.1 hx with rfl|h
     ·exact⟨e,by simp,bT.1⟩
     ·cases h
    |cons q l=>
     rcases ct.1 hx with rfl|h
     ·exact⟨q,by simp,bT.1⟩
     ·obtain⟨y,hy,h2⟩:=ih (e:=e) bT.2 h;exact⟨y,bH _ hy,h2⟩
  have s1:=e6.steps xM;rw[vW,hu]at s1;obtain⟨y1,hy1,vB,ik⟩:=aLV s1 hx;have y1S:y1∈S:=by rw[<-hu,<-vW,K5]at hy1;exact e6.mem xM y1 hy1
  have s2:=(e6.steps DA).imp (R':=λx y=>oy n pt S x y/\H.fw (pt x-pt y)) λx y h=>⟨λc dP=>h.1 c ((zQ c).2 dP),by have:H.fw (-(pt y-pt x)):=h.2;rwa[<-Dz]at this⟩
  rw[vW,pA]at s2;have aLW:∀{l:List ι} {e x:ι},pP (λa b=>oy n pt S a b/\H.fw (pt a-pt b)) (l++[e])->x∈l->∃ y∈l++[e],oy n pt S x y/\H.fw (pt x-pt y):=by
   intro l;induction l with
   |nil=>intro e x _ h;cases h
   |cons p l ih=>
    intro e x bT hx;cases l with
    |nil=>
     rcases ct.1 hx with rfl|h
     ·exact⟨e,by simp,bT.1⟩
     ·cases h
    |cons q l=>
     rcases ct.1 hx with rfl|h
     ·exact⟨q,by simp,bT.1⟩
     ·obtain⟨y,hy,h2⟩:=ih (e:=e) bT.2 h;exact⟨y,bH _ hy,h2⟩
  obtain⟨y2,vg,lH,jD⟩:=aLW s2 hy;have y2S:y2∈S:=by rw[<-pA,<-vW,K5]at vg;exact(zQ y2).1 (e6.mem DA y2 vg)
  have:=aCj inj y1S y2S (λe=>iW.ne ik (by rw[e])) (λe=>iW.ne jD (by rw[e])) vB lH;subst this;exact iW.Ip ik jD
end
section
variable{F:Type}[OF F]
def zR(v:V3 F):Prop:=0<v.x\/(v.x=0/\(0<v.y\/(v.y=0/\0<v.z)))
theorem aLX(v:V3 F)(k:F):(smul v k).x=v.x*k:=rfl
theorem aLY(v:V3 F)(k:F):(smul v k).y=v.y*k:=rfl
theorem aLZ(v:V3 F)(k:F):(smul v k).z=v.z*k:=rfl
theorem aL0(u v:V3 F):(u+v).x=u.x+v.x:=rfl
theorem aL1(u v:V3 F):(u+v).y=u.y+v.y:=rfl
theorem aL2(u v:V3 F):(u+v).z=u.z+v.z:=rfl
theorem aL3(u:V3 F):(-u).x=-u.x:=rfl
theorem aL4(u:V3 F):(-u).y=-u.y:=rfl
theorem aL5(u:V3 F):(-u).z=-u.z:=rfl
def aCo:iW F where
 fw:=zR
 add {x y} hx hy:=by
  unfold zR at *;rw[aL0,aL1,aL2];rcases hx with hx|⟨hx,gU|⟨gU,K6⟩⟩<;>rcases hy with hy|⟨hy,vg|⟨vg,Vm⟩⟩
  ·exact .inl (add_pos hx hy)
  ·exact .inl (by rw[hy,CR.add_zero];exact hx)
  ·exact .inl (by rw[hy,CR.add_zero];exact hx)
  ·exact .inl (by rw[hx,CR.zero_add];exact hy)
  ·exact .inr ⟨by rw[hx,hy,CR.add_zero],.inl (add_pos gU vg)⟩
  ·exact .inr ⟨by rw[hx,hy,CR.add_zero],.inl (by rw[vg,CR.add_zero];exact gU)⟩
  ·exact .inl (by rw[hx,CR.zero_add];exact hy)
  ·exact .inr ⟨by rw[hx,hy,CR.add_zero],.inl (by rw[gU,CR.zero_add];exact vg)⟩
  ·exact .inr ⟨by rw[hx,hy,CR.add_zero],.inr ⟨by rw[gU,vg,CR.add_zero],add_pos K6 Vm⟩⟩
 mul {x k} hx hk:=by
  unfold zR at *;rw[aLX,aLY,aLZ];rcases hx with hx|⟨hx,gU|⟨gU,K6⟩⟩
  ·exact .inl (mul_pos hx hk)
  ·exact .inr ⟨by rw[hx,CR.zero_mul],.inl (mul_pos gU hk)⟩
  ·exact .inr ⟨by rw[hx,CR.zero_mul],.inr ⟨by rw[gU,CR.zero_mul],mul_pos K6 hk⟩⟩
 asymm {x} hx hy:=by
  unfold zR at *;rw[aL3,aL4,aL5]at hy;have no:∀ a:F,0<a->0 < -a->False:=λa h k=>OF.lt_irrefl _ (OF.lt_trans h (neg_pos.1 k));have nz:∀ a:F,0<a->-a=0->False:=λa h k=>by rw[<-CR.neg_neg a,k,CR.neg_zero]at h;exact OF.lt_irrefl _ h
  have Vn:∀ a:F,a=0->0 < -a->False:=λa h k=>by rw[h,CR.neg_zero]at k;exact OF.lt_irrefl _ k
  rcases hx with hx|⟨hx,gU|⟨gU,K6⟩⟩<;>rcases hy with hy|⟨hy,vg|⟨vg,Vm⟩⟩
  ·exact no _ hx hy
  ·exact nz _ hx hy
  ·exact nz _ hx hy
  ·exact Vn _ hx hy
  ·exact no _ gU vg
  ·exact nz _ gU vg
  ·exact Vn _ hx hy
  ·exact Vn _ gU vg
  ·exact no _ K6 Vm
theorem aL6{a b:V3 F}(h:a≠b):zR (b-a)\/zR (a-b):=by
 unfold zR;show(0<b.x-a.x\/(b.x-a.x=0/\(0<b.y-a.y\/(b.y-a.y=0/\0<b.z-a.z))))\/(0<a.x-b.x\/(a.x-b.x=0/\(0<a.y-b.y\/(a.y-b.y=0/\0<a.z-b.z))));simp only[OF.sub_pos,OF.sub_eq_zero];rcases OF.lt_trichotomy a.x b.x with hx|hx|hx
 ·exact .inl (.inl hx)
 ·rcases OF.lt_trichotomy a.y b.y with hy|hy|hy
  ·exact .inl (.inr ⟨hx.symm,.inl hy⟩)
  ·rcases OF.lt_trichotomy a.z b.z with hz|hz|hz
   ·exact .inl (.inr ⟨hx.symm,.inr ⟨hy.symm,hz⟩⟩)
   ·exact absurd (V3.ext hx hy hz) h
   ·exact .inr (.inr ⟨hx,.inr ⟨hy,hz⟩⟩)
  ·exact .inr (.inr ⟨hx,.inl hy⟩)
 ·exact .inr (.inl hx)
theorem mo.xK{ps:List (HS F)}{c:V3 F}(h:mo ps c):∃ m:V3 F,∀ w,iq ps w->w≠c->dot m w<dot m c:=by
 obtain⟨_,p,hp,q,hq,r,hr,hd,tp,tq,tr⟩:=h;refine⟨p.n+q.n+r.n,λw hw bj=>?_⟩;rw[Pe,Pe,Pe,Pe,show dot p.n c=p.d from tp,show dot q.n c=q.d from tq,show dot r.n c=r.d from tr];rcases OF.pK (hw p hp)with h1|h1
 ·exact add_lt_add_of_lt_of_le (add_lt_add_of_lt_of_le h1 (hw q hq)) (hw r hr)
 ·rcases OF.pK (hw q hq)with h2|h2
  ·exact add_lt_add_of_lt_of_le (add_lt_add_of_le_of_lt (hw p hp) h2) (hw r hr)
  ·rcases OF.pK (hw r hr)with h3|h3
   ·exact add_lt_add_of_le_of_lt (OF.add_le_add (hw p hp) (hw q hq)) h3
   ·refine absurd (V3.sub_eq_zero.1 (Io hd ?_ ?_ ?_)) bj
    ·rw[lA,h1,show dot p.n c=p.d from tp,OF.sub_self]
    ·rw[lA,h2,show dot q.n c=q.d from tq,OF.sub_self]
    ·rw[lA,h3,show dot r.n c=r.d from tr,OF.sub_self]
theorem aL7{ps:List (HS F)}{p:HS F}{ι:Type}{pt:ι->V3 F}{S:List ι}(hS:∀ i∈S,mo ps (pt i)/\ep p (pt i))
  (Vo:∀ i∈S,∀ j∈S,pt i=pt j->i=j):Conv p.n pt S where
 qG a ha b hb:=by rw[lA,show dot p.n (pt a)=p.d from(hS a ha).2,show dot p.n (pt b)=p.d from(hS b hb).2,OF.sub_self]
 xK c hc:=by obtain⟨m,hm⟩:=(hS c hc).1.xK;exact⟨m,λw hw bj=>hm _ (hS w hw).1.1 λe=>bj (Vo w hw c hc e)⟩
structure e7(F:Type) where
 lo:Option F
 hi:Option F
def BT(s:e7 F)(a b:F):Option (e7 F):=
 if aD a=0 then(if 0<=b then some s else none)
 else
  let t:=b*a⁻¹
  let s':e7 F:=
   if 0<a then(match s.hi with|some h=>if t<h then⟨s.lo,some t⟩else s|none=>⟨s.lo,some t⟩)
   else(match s.lo with|some l=>if l<t then⟨some t,s.hi⟩else s|none=>⟨some t,s.hi⟩)
  match s'.lo,s'.hi with
  |some l,some h=>if l<h then some s' else none
  |_,_=>some s'
def e7.Sat(s:e7 F)(t:F):Prop:=(∀ l,s.lo=some l->l<=t)/\(∀ h,s.hi=some h->t<=h)
def e7.Open(s:e7 F):Prop:=∀ l h,s.lo=some l->s.hi=some h->l<h
theorem aL8(s:e7 F)(a b:F):
  (∀ s',BT s a b=some s'->(s.Open->s'.Open)/\(∀ t,s'.Sat t↔s.Sat t/\a*t<=b)/\(∀ l,s'.lo=some l->s.lo=some l\/(a<0/\a*l=b))/\(∀ h,s'.hi=some h->s.hi=some h\/(0<a/\a*h=b)))/\
  (BT s a b=none->∀ t1 t2,s.Sat t1->a*t1<=b->s.Sat t2->a*t2<=b->t1<t2->False):=by
 unfold BT;by_cases ha:aD a=0
 ·rw[ax ha];have iO:=(fp a).1 ha;by_cases hb:0<=b
  ·rw[ax hb];refine⟨λs' h=>?_,λh=>by cases h⟩;injection h with h;subst h;exact⟨id,λt=>⟨λh=>⟨h,by rw[iO,CR.zero_mul];exact hb⟩,λh=>h.1⟩,λl h=>.inl h,λl h=>.inl h⟩
  ·rw[ao hb];refine⟨λs' h=>(by cases h),λ_ t1 t2 _ h1 _ _ _=>hb ?_⟩;rw[iO,CR.zero_mul]at h1;exact h1
 ·rw[ao ha];have iO:a≠0:=λe=>ha ((fp a).2 e);have e:a*(b*a⁻¹)=b:=by rw[CR.mul_left_comm,lS _ iO,CR.mul_one]
  generalize b*a⁻¹=t0 at e;dsimp only
  -- the new part,and what it says
  have key:∃ s':e7 F,(if 0<a then(match s.hi with|some h=>if t0<h then⟨s.lo,some t0⟩else s|none=>⟨s.lo,some t0⟩)
    else(match s.lo with|some l=>if l<t0 then⟨some t0,s.hi⟩else s|none=>⟨some t0,s.hi⟩):e7 F)=s'/\(∀ t,s'.Sat t↔s.Sat t/\a*t<=b)/\(∀ l,s'.lo=some l->s.lo=some l\/(a<0/\a*l=b))/\(∀ h,s'.hi=some h->s.hi=some h\/(0<a/\a*h=b)):=by
   by_cases hp:0<a
   ·rw[ax hp];have le:∀ t,a*t<=b↔t<=t0:=λt=>by rw[<-e,mul_le_mul_left hp]
    cases hh:s.hi with
    |none=>
     refine⟨_,rfl,λt=>?_,λl h=>.inl h,λh k=>.inr ⟨hp,by injection k with k;rw[<-k];exact e⟩⟩;rw[le];exact⟨λh=>⟨⟨h.1,λx hx=>by rw[hh]at hx;cases hx⟩,h.2 t0 rfl⟩,λh=>⟨h.1.1,λx hx=>by injection hx with hx;rw[<-hx];exact h.2⟩⟩
    |some h0=>
     dsimp only;by_cases ak:t0<h0
     ·rw[ax ak];refine⟨_,rfl,λt=>?_,λl h=>.inl h,λh k=>.inr ⟨hp,by injection k with k;rw[<-k];exact e⟩⟩;rw[le];exact⟨λh=>⟨⟨h.1,λx hx=>by rw[hh]at hx;injection hx with hx;rw[<-hx];exact OF.le_trans (h.2 t0 rfl) (OF.le_of_lt ak)⟩,h.2 t0 rfl⟩,λh=>⟨h.1.1,λx hx=>by injection hx with hx;rw[<-hx];exact h.2⟩⟩
     ·rw[ao ak];refine⟨_,rfl,λt=>?_,λl h=>.inl h,λh k=>.inl (hh.symm.trans k)⟩;rw[le];exact⟨λh=>⟨h,OF.le_trans (h.2 h0 hh) (OF.not_lt.1 ak)⟩,λh=>h.1⟩
   ·rw[ao hp];have hn:a<0:=by
     rcases OF.pK (OF.not_lt.1 hp)with h|h
     ·exact h
     ·exact absurd h iO
    have le:∀ t,a*t<=b↔t0<=t:=λt=>by rw[<-e,<-mul_le_mul_left (a:=t0) (b:=t) (neg_pos.2 hn),OF.le_def,OF.le_def,show -a*t - -a*t0=a*t0-a*t from lq a t t0 (λa t u=>-a*t - -a*u) (λa t u=>a*u-a*t) d_]
    cases hh:s.lo with
    |none=>
     refine⟨_,rfl,λt=>?_,λl k=>.inr ⟨hn,by injection k with k;rw[<-k];exact e⟩,λh k=>.inl k⟩;rw[le];exact⟨λh=>⟨⟨λx hx=>(by rw[hh]at hx;cases hx),h.2⟩,h.1 t0 rfl⟩,λh=>⟨λx hx=>by injection hx with hx;rw[<-hx];exact h.2,h.1.2⟩⟩
    |some h0=>
     dsimp only;by_cases ak:h0<t0
     ·rw[ax ak];refine⟨_,rfl,λt=>?_,λl k=>.inr ⟨hn,by injection k with k;rw[<-k];exact e⟩,λh k=>.inl k⟩;rw[le];exact⟨λh=>⟨⟨λx hx=>by rw[hh]at hx;injection hx with hx;rw[<-hx];exact OF.le_trans (OF.le_of_lt ak) (h.1 t0 rfl),h.2⟩,h.1 t0 rfl⟩,λh=>⟨λx hx=>by injection hx with hx;rw[<-hx];exact h.2,h.1.2⟩⟩
     ·rw[ao ak];refine⟨_,rfl,λt=>?_,λl h=>.inl (hh.symm.trans h),λh k=>.inl k⟩;rw[le];exact⟨λh=>⟨h,OF.le_trans (OF.not_lt.1 ak) (h.1 h0 hh)⟩,λh=>h.1⟩
  obtain⟨s1,wS,vi,eL,iD⟩:=key;rw[wS];cases hl:s1.lo with
  |none=>
   refine⟨λs' h=>?_,λh=>by cases h⟩;injection h with h;subst h;exact⟨λ_ l h dh=>(by rw[hl]at dh;cases dh),vi,eL,iD⟩
  |some l=>
   cases hh:s1.hi with
   |none=>
    refine⟨λs' h=>?_,λh=>by cases h⟩;injection h with h;subst h;exact⟨λ_ l h _ BS=>(by rw[hh]at BS;cases BS),vi,eL,iD⟩
   |some h=>
    dsimp only;by_cases ak:l<h
    ·rw[ax ak];refine⟨λs' h=>?_,λh=>by cases h⟩;injection h with h;subst h;refine⟨λ_ l' h' dh BS=>?_,vi,eL,iD⟩;rw[hl]at dh;rw[hh]at BS;injection dh with dh;injection BS with BS;rw[<-dh,<-BS];exact ak
    ·rw[ao ak];refine⟨λs' h=>(by cases h),λ_ t1 t2 h1 k1 h2 k2 Pt=>ak ?_⟩;have q1:=((vi t1).2 ⟨h1,k1⟩).1 l hl;have q2:=((vi t2).2 ⟨h2,k2⟩).2 h hh;exact OF.lt_of_le_of_lt q1 (OF.lt_of_lt_of_le Pt q2)
def F4:e7 F->List (F×F)->Option (e7 F)
 |s,[]=>some s
 |s,x::l=>(BT s x.1 x.2).bind λs'=>F4 s' l
theorem Vp:∀(l:List (F×F)) (s:e7 F),s.Open->
  (∀ s',F4 s l=some s'->s'.Open/\(∀ t,s'.Sat t↔s.Sat t/\∀ x∈l,x.1*t<=x.2)/\(∀ t,s'.lo=some t->s.lo=some t\/∃ x∈l,x.1<0/\x.1*t=x.2)/\(∀ t,s'.hi=some t->s.hi=some t\/∃ x∈l,0<x.1/\x.1*t=x.2))/\
  (F4 s l=none->∀ t1 t2,s.Sat t1->(∀ x∈l,x.1*t1<=x.2)->s.Sat t2->(∀ x∈l,x.1*t2<=x.2)->t1<t2->False)
 |[],s,ho=>⟨λs' h=>by injection h with h;subst h;exact⟨ho,λt=>⟨λh=>⟨h,λx hx=>by cases hx⟩,λh=>h.1⟩,λt h=>.inl h,λt h=>.inl h⟩,λh=>by cases h⟩
 |x::l,s,ho=>by
  obtain⟨h1,h2⟩:=aL8 s x.1 x.2;unfold F4;cases hn:BT s x.1 x.2 with
  |none=>
   refine⟨λs' h=>(by cases h),λ_ t1 t2 a b c d e=>?_⟩;exact h2 hn t1 t2 a (b x (aP ..)) c (d x (aP ..)) e
  |some s1=>
   obtain⟨o1,Vq,zT,hi1⟩:=h1 s1 hn;obtain⟨k1,k2⟩:=Vp l s1 (o1 ho);refine⟨λs' h=>?_,λh t1 t2 a b c d e=>?_⟩
   ·obtain⟨o2,aL9,vX,SK⟩:=k1 s' h;refine⟨o2,λt=>?_,λt ht=>?_,λt ht=>?_⟩
    ·rw[aL9,Vq];constructor
     ·rintro⟨⟨p,q⟩,r⟩
      exact⟨p,λy hy=>by
       rcases ct.1 hy with rfl|hy
       ·exact q
       ·exact r y hy⟩
     ·rintro⟨p,q⟩
      exact⟨⟨p,q x (aP ..)⟩,λy hy=>q y (bH _ hy)⟩
    ·rcases vX t ht with h|⟨y,hy,h⟩
     ·rcases zT t h with h|h
      ·exact .inl h
      ·exact .inr ⟨x,aP ..,h⟩
     ·exact .inr ⟨y,bH _ hy,h⟩
    ·rcases SK t ht with h|⟨y,hy,h⟩
     ·rcases hi1 t h with h|h
      ·exact .inl h
      ·exact .inr ⟨x,aP ..,h⟩
     ·exact .inr ⟨y,bH _ hy,h⟩
   ·exact k2 h t1 t2 ((Vq t1).2 ⟨a,b x (aP ..)⟩) (λy hy=>b y (bH _ hy)) ((Vq t2).2 ⟨c,d x (aP ..)⟩) (λy hy=>d y (bH _ hy)) e
end
section
variable{F:Type}[OF F]
def mq(p q:HS F):V3 F:=
 let d:=av p.n q.n
 smul (smul (av q.n d) p.d+smul (av d p.n) q.d) (dot d d)⁻¹
theorem aCp{p q:HS F}(h:av p.n q.n≠0):ep p (mq p q):=by
 unfold ep mq;dsimp only;have e:dot p.n (smul (av q.n (av p.n q.n)) p.d+smul (av (av p.n q.n) p.n) q.d)=p.d*dot (av p.n q.n) (av p.n q.n):=
  ring [p.n,q.n] [p.d,q.d] (λV S=>dot (V 0) (smul (av (V 1) (av (V 0) (V 1))) (S 0)+smul (av (av (V 0) (V 1)) (V 0)) (S 1))) (λV S=>S 0*dot (av (V 0) (V 1)) (av (V 0) (V 1))) d_
 rw[jk,e,CR.mul_assoc,lS _ (BO h),CR.mul_one]
theorem aCq{p q:HS F}(h:av p.n q.n≠0):ep q (mq p q):=by
 unfold ep mq;dsimp only;have e:dot q.n (smul (av q.n (av p.n q.n)) p.d+smul (av (av p.n q.n) p.n) q.d)=q.d*dot (av p.n q.n) (av p.n q.n):=
  ring [p.n,q.n] [p.d,q.d] (λV S=>dot (V 1) (smul (av (V 1) (av (V 0) (V 1))) (S 0)+smul (av (av (V 0) (V 1)) (V 0)) (S 1))) (λV S=>S 1*dot (av (V 0) (V 1)) (av (V 0) (V 1))) d_
 rw[jk,e,CR.mul_assoc,lS _ (BO h),CR.mul_one]
def zU(ps:List (HS F))(p q:HS F):Option (V3 F×V3 F):=
 let d:=av p.n q.n
 if aD d.x=0/\aD d.y=0/\aD d.z=0 then none
 else match F4 ⟨none,none⟩ (ps.map λr=>(dot r.n d,r.d-dot r.n (mq p q)))with
  |some ⟨some lo,some hi⟩=>some (mq p q+smul d lo,mq p q+smul d hi)
  |_=>none
theorem Pu(d:V3 F):(aD d.x=0/\aD d.y=0/\aD d.z=0)↔d=0:=by rw[fp,fp,fp];exact⟨λh=>V3.ext h.1 h.2.1 h.2.2,λh=>by subst h;exact⟨rfl,rfl,rfl⟩⟩
theorem Pv{ps:List (HS F)}{b d:V3 F}{t:F}:iq ps (b+smul d t)↔∀ x∈ps.map λr=>(dot r.n d,r.d-dot r.n b),x.1*t<=x.2:=by
 constructor
 ·intro h x hx;obtain⟨r,hr,rfl⟩:=dj.1 hx;have:=h r hr;rw[lv,jk]at this;dsimp only;rw[<-add_le_add_left (dot r.n b),show dot r.n b+(r.d-dot r.n b)=r.d from kE (dot r.n b) r.d (λa d=>a+(d-a)) (λ_ d=>d) d_];exact this
 ·intro h r hr;have:=h _ (dj.2 ⟨r,hr,rfl⟩);dsimp only at this;rw[<-add_le_add_left (dot r.n b),show dot r.n b+(r.d-dot r.n b)=r.d from kE (dot r.n b) r.d (λa d=>a+(d-a)) (λ_ d=>d) d_]at this;rw[lv,jk];exact this
theorem aCr:(⟨none,none⟩:e7 F).Open:=λl h hl _=>by cases hl
theorem K7(t:F):(⟨none,none⟩:e7 F).Sat t:=⟨λl h=>(by cases h),λl h=>(by cases h)⟩
theorem aMa{ps:List (HS F)}{p q:HS F}(hp:p∈ps)(hq:q∈ps){u v:V3 F}(h:zU ps p q=some (u,v)):mo ps u/\mo ps v:=by
 unfold zU at h;dsimp only at h;split at h
 ·cases h
 ·rename_i hd;rw[Pu]at hd;have tp:=aCp hd;have tq:=aCq hd;generalize mq p q=b at *;split at h
  ·rename_i lo hi hn;injection h with h;injection h with h1 h2;obtain⟨ho,vi,eL,iD⟩:=(Vp _ _ aCr).1 _ hn;have ak:=ho lo hi rfl rfl
   -- a K8 of the line on a Pj aMb it
   have fin:∀ t:F,lo<=t->t<=hi->(∃ x∈ps.map λr=>(dot r.n (av p.n q.n),r.d-dot r.n b),x.1≠0/\x.1*t=x.2)->mo ps (b+smul (av p.n q.n) t):=by
    rintro t h1 h2 ⟨x,hx,kZ,zM⟩
    obtain⟨r,hr,rfl⟩:=dj.1 hx;refine⟨?_,p,hp,q,hq,r,hr,?_,?_,?_,?_⟩
    ·rw[Pv];exact((vi t).1 ⟨λl hl=>by injection hl with hl;rw[<-hl];exact h1,λl hl=>by injection hl with hl;rw[<-hl];exact h2⟩).2
    ·intro e;rw[<-Pf]at e;exact kZ e
    ·unfold ep at *;rw[lv,jk,FZ,CR.zero_mul,CR.add_zero,tp]
    ·unfold ep at *;rw[lv,jk,Dy,CR.zero_mul,CR.add_zero,tq]
    ·unfold ep;rw[lv,jk];dsimp only at zM;rw[zM];exact kE (dot r.n b) r.d (λa d=>a+(d-a)) (λ_ d=>d) d_
   rw[<-h1,<-h2];constructor
   ·rcases eL lo rfl with k|⟨x,hx,kZ,zM⟩
    ·cases k
    ·exact fin lo (OF.le_refl _) (OF.le_of_lt ak) ⟨x,hx,OF.ne_of_lt kZ,zM⟩
   ·rcases iD hi rfl with k|⟨x,hx,kZ,zM⟩
    ·cases k
    ·exact fin hi (OF.le_of_lt ak) (OF.le_refl _) ⟨x,hx,OF.ne_of_gt kZ,zM⟩
  ·cases h
theorem aMc{ps:List (HS F)}(hc:Cl ps)(hp:jl ps){v x:V3 F}(hv:mo ps v)(hx:iq ps x)(bj:x≠v):
  ∃ p∈ps,∃ q∈ps,av p.n q.n≠0/\(∃ u w,zU ps p q=some (u,w)/\(v=u\/v=w))/\(∃ u w,zU ps q p=some (u,w)/\(v=u\/v=w)):=by
 obtain⟨p,iN,q,Bo,tp,tq,hd,aY⟩:=aLz hp hv hx bj
 -- one order;c=d or c=-d is the direction aV3 the aCs
 have one:∀ p q:HS F,p∈ps->q∈ps->ep p v->ep q v->av p.n q.n≠0->∀ c:V3 F,(c=av p.n q.n\/c=-av p.n q.n)->(∀ r∈ps,ep r v->dot r.n c<=0)->
   ∃ u w,zU ps p q=some (u,w)/\(v=u\/v=w):=by
  intro p q iN Bo tp tq hd c Vr aY;have qf:c≠0:=by
   rcases Vr with rfl|rfl
   ·exact hd
   ·exact λe=>hd (neg_eq_zero.1 e)
  have bp:=aCp hd;have bq:=aCq hd
  -- v on the line
  have Pw:dot p.n (v-mq p q)=0/\dot q.n (v-mq p q)=0:=by unfold ep at *;rw[lA,lA,tp,tq,bp,bq,OF.sub_self,OF.sub_self];exact⟨rfl,rfl⟩
  obtain⟨t0,vY⟩:∃ t0,v=mq p q+smul (av p.n q.n) t0:=
   ⟨_,by rw[<-aB5 hd Pw.1 Pw.2,V3.add_sub_cancel]⟩
  -- a aV4 K8 of the line
  obtain⟨e,he,⟨r,hr,oj,F1⟩,cv⟩:=yU hv.1 (hc.bounds hp qf);have aCt:0<e:=by
   rcases OF.pK he with h|h
   ·exact h
   ·rw[<-h,smul_zero,V3.add_zero]at F1;exact absurd (OF.lt_of_lt_of_le oj (aY r hr F1)) (OF.lt_irrefl _)
  -- a Pj at v aMb the line
  have aCu:=hv.1;obtain⟨_,a1,eE,a2,gk,a3,BF,Vt,t1,t2,t3⟩:=hv;obtain⟨s,hs,ts,Vu⟩:∃ s∈ps,ep s v/\dot s.n c<0:=by
   apply jI;intro fT;have z:∀ a∈ps,ep a v->dot a.n c=0:=λa ha ta=>by
    rcases OF.pK (aY a ha ta)with h|h
    ·exact(fT ⟨a,ha,ta,h⟩).elim
    ·exact h
   exact qf (Io Vt (z a1 eE t1) (z a2 gk t2) (z a3 BF t3))
  have vV:∀ t:F,v+smul (av p.n q.n) t=mq p q+smul (av p.n q.n) (t0+t):=λt=>by rw[vY];exact nj [mq p q,av p.n q.n] [t0,t] (λV S=>V 0+smul (V 1) (S 0)+smul (V 1) (S 1)) (λV S=>V 0+smul (V 1) (S 0+S 1)) d_
  have aCv:∀ t:F,iq ps (v+smul (av p.n q.n) t)->∀ x∈ps.map λr=>(dot r.n (av p.n q.n),r.d-dot r.n (mq p q)),x.1*(t0+t)<=x.2:=λt h=>by rw[vV]at h;exact Pv.1 h
  have f0:=aCv 0 (by rw[smul_zero,V3.add_zero];exact aCu);rw[CR.add_zero]at f0
  -- the other K8
  have f1:∃ t1:F,t1≠0/\iq ps (v+smul (av p.n q.n) t1):=by
   rcases Vr with rfl|rfl
   ·exact⟨e,OF.ne_of_gt aCt,cv⟩
   ·refine⟨-e,OF.ne_of_lt (Kz.2 aCt),?_⟩;rw[show smul (av p.n q.n) (-e)=smul (-av p.n q.n) e from nj [av p.n q.n] [e] (λV S=>smul (V 0) (-S 0)) (λV S=>smul (-V 0) (S 0)) d_];exact cv
  obtain⟨t1,iP,f1⟩:=f1;have f1:=aCv t1 f1;unfold zU;dsimp only;rw[ao (by rw[Pu];exact hd)];obtain⟨n1,n2⟩:=Vp (ps.map λr=>(dot r.n (av p.n q.n),r.d-dot r.n (mq p q))) ⟨none,none⟩ aCr;cases hN:F4 ⟨none,none⟩ (ps.map λr=>(dot r.n (av p.n q.n),r.d-dot r.n (mq p q)))with
  |none=>
   exfalso;rcases OF.lt_trichotomy 0 t1 with h|h|h
   ·exact n2 hN t0 (t0+t1) (K7 _) f0 (K7 _) f1 (by have:=(add_lt_add_left t0).2 h;rwa[CR.add_zero]at this)
   ·exact iP h.symm
   ·exact n2 hN (t0+t1) t0 (K7 _) f1 (K7 _) f0 (by have:=(add_lt_add_left t0).2 h;rwa[CR.add_zero]at this)
  |some sg=>
   obtain⟨ho,vi,_,_⟩:=n1 sg hN;have s0:=(vi t0).2 ⟨K7 _,f0⟩
   -- beyond a Pj
   have beyond:∀ c:V3 F,c≠0->∃ t:F,0<=t/\¬iq ps (v+smul c t):=by intro c qf;obtain⟨t,ht,⟨r,hr,oj,F1⟩,_⟩:=yU aCu (hc.bounds hp qf);refine⟨t+1,add_nonneg ht (OF.le_of_lt OF.zero_lt_one),λh=>?_⟩;have h1:=h r hr;rw[show v+smul c (t+1)=v+smul c t+c from nj [v,c] [t] (λV S=>V 0+smul (V 1) (S 0+1)) (λV S=>V 0+smul (V 1) (S 0)+V 1) d_,lv,show dot r.n (v+smul c t)=r.d from F1]at h1;have:=(add_lt_add_left r.d).2 oj;rw[CR.add_zero]at this;exact OF.lt_irrefl _ (OF.lt_of_lt_of_le this h1)
   obtain⟨lo,hi⟩:=sg;have iD:∃ h,hi=some h:=by
    cases hi with
    |some h=>exact⟨h,rfl⟩
    |none=>
     exfalso;obtain⟨t,ht,fT⟩:=beyond _ hd;apply fT;rw[vV,Pv];refine((vi (t0+t)).1 ⟨λl hl=>?_,λh hh=>(by cases hh)⟩).2;refine OF.le_trans (s0.1 l hl) ?_;have:=(add_le_add_left t0).2 ht;rwa[CR.add_zero]at this
   have eL:∃ l,lo=some l:=by
    cases lo with
    |some h=>exact⟨h,rfl⟩
    |none=>
     exfalso;obtain⟨t,ht,fT⟩:=beyond (-av p.n q.n) (λe=>hd (neg_eq_zero.1 e));apply fT;rw[show smul (-av p.n q.n) t=smul (av p.n q.n) (-t)from nj [av p.n q.n] [t] (λV S=>smul (-V 0) (S 0)) (λV S=>smul (V 0) (-S 0)) d_,vV,Pv];refine((vi (t0+-t)).1 ⟨λh hh=>(by cases hh),λl hl=>?_⟩).2;refine OF.le_trans ?_ (s0.2 l hl);have:=(add_le_add_left t0).2 (KA.2 ht);rwa[CR.add_zero]at this
   obtain⟨hi,rfl⟩:=iD;obtain⟨lo,rfl⟩:=eL;have ak:=ho lo hi rfl rfl;have l0:=s0.1 lo rfl;have h0:=s0.2 hi rfl;refine⟨_,_,rfl,?_⟩
   -- the value of s on the line
   have aCw:∀ t:F,(∀ x∈ps.map λr=>(dot r.n (av p.n q.n),r.d-dot r.n (mq p q)),x.1*t<=x.2)->dot s.n (av p.n q.n)*t<=dot s.n (av p.n q.n)*t0:=by
    intro t h;have h1:=h _ (dj.2 ⟨s,hs,rfl⟩);dsimp only at h1;have h2:dot s.n (av p.n q.n)*t0=s.d-dot s.n (mq p q):=by have:dot s.n v=s.d:=ts;rw[vY,lv,jk]at this;rw[<-this];exact kE (dot s.n (mq p q)) (dot s.n (av p.n q.n)*t0) (λ_ b=>b) (λa b=>a+b-a) d_
    rw[h2];exact h1
   rcases Vr with rfl|rfl
   ·left;have k:=aCw lo ((vi lo).1 ⟨λl hl=>(by injection hl with hl;rw[hl];exact OF.le_refl _),λh hh=>(by injection hh with hh;rw[<-hh];exact OF.le_of_lt ak)⟩).2;have k2:t0<=lo:=by
     rw[<-mul_le_mul_left (neg_pos.2 Vu),CR.neg_mul,CR.neg_mul,OF.le_def,show -(dot s.n (av p.n q.n)*lo) - -(dot s.n (av p.n q.n)*t0)=dot s.n (av p.n q.n)*t0-dot s.n (av p.n q.n)*lo from
       kE (dot s.n (av p.n q.n)*lo) (dot s.n (av p.n q.n)*t0) (λa b=>-a - -b) (λa b=>b-a) d_]
     exact k
    rw[OF.le_antisymm l0 k2];exact vY
   ·right;rw[tZ,Kz]at Vu;have k:=aCw hi ((vi hi).1 ⟨λl hl=>(by injection hl with hl;rw[<-hl];exact OF.le_of_lt ak),λh hh=>(by injection hh with hh;rw[hh];exact OF.le_refl _)⟩).2;rw[mul_le_mul_left Vu]at k;rw[OF.le_antisymm k h0];exact vY
 refine⟨p,iN,q,Bo,hd,one p q iN Bo tp tq hd _ (.inl rfl) aY,one q p Bo iN tq tp (λe=>hd (by rw[Im,e,V3.neg_zero])) _ (.inr ?_) aY⟩;rw[<-Im]
def BU(ps:List (HS F))(x:V3 F):Prop:=∀ p∈ps,dot p.n x<p.d
def pc(ps:List (HS F)):Prop:=∃ x,BU ps x
theorem BU.inside{ps:List (HS F)}{x:V3 F}(h:BU ps x):iq ps x:=λp hp=>OF.le_of_lt (h p hp)
def aCx(l:List (V3 F)):V3 F:=l.foldl (λs v=>s+v) 0
theorem aCy(m:V3 F):∀(l:List (V3 F)) (s:V3 F),dot m (l.foldl (λs v=>s+v) s)=l.foldl (λ(a:F) v=>a+dot m v) (dot m s)
 |[],_=>rfl
 |v::l,s=>by rw[vH,aCy,vH,lv]
theorem Px(f:V3 F->F):∀(l:List (V3 F)) (a:F),l.foldl (λ(a:F) v=>a+f v) a=a+l.foldl (λ(a:F) v=>a+f v) 0
 |[],a=>by rw[aCz,aCz,CR.add_zero]
 |v::l,a=>by rw[vH,vH,Px f l (a+f v),Px f l (0+f v),CR.zero_add,CR.add_assoc]
theorem aCA{f:V3 F->F}{d:F}:∀{l:List (V3 F)},(∀ v∈l,f v<=d)->l.foldl (λ(a:F) v=>a+f v) 0<=CR.ofNat l.length*d
 |[],_=>by rw[aCz,List.length_nil,CR.ofNat,CR.zero_mul];exact OF.le_refl _
 |v::l,h=>by rw[vH,Px,CR.zero_add,oL,CR.ofNat,CR.add_mul,CR.one_mul,CR.add_comm];exact OF.add_le_add (aCA λv hv=>h v (bH _ hv)) (h v (aP ..))
theorem aCB{f:V3 F->F}{d:F}:∀{l:List (V3 F)},(∀ v∈l,f v<=d)->(∃ v∈l,f v<d)->l.foldl (λ(a:F) v=>a+f v) 0<CR.ofNat l.length*d
 |[],_,h=>by obtain⟨v,hv,_⟩:=h;cases hv
 |v::l,h,k=>by
  rw[vH,Px,CR.zero_add,oL,CR.ofNat,CR.add_mul,CR.one_mul,CR.add_comm];have hl:∀ v∈l,f v<=d:=λv hv=>h v (bH _ hv);obtain⟨x,hx,xC⟩:=k;rcases ct.1 hx with rfl|hx
  ·exact add_lt_add_of_le_of_lt (aCA hl) xC
  ·exact add_lt_add_of_lt_of_le (aCB hl ⟨x,hx,xC⟩) (h v (aP ..))
theorem Vv:∀{n:Nat},0<n->(0:F)<CR.ofNat n
 |n+1,_=>by
  rw[CR.ofNat];rcases nF n with rfl|h
  ·rw[CR.ofNat,CR.zero_add];exact OF.zero_lt_one
  ·exact add_pos (Vv h) OF.zero_lt_one
def DB(l:List (V3 F)):V3 F:=smul (aCx l) (CR.ofNat l.length)⁻¹
theorem aMd(m:V3 F)(l:List (V3 F)):dot m (DB l)=l.foldl (λ(a:F) v=>a+dot m v) 0*(CR.ofNat l.length)⁻¹:=by unfold DB aCx;rw[jk,aCy,Dx]
theorem aCC{m:V3 F}{d:F}{l:List (V3 F)}(h:∀ v∈l,dot m v<=d)(k:∃ v∈l,dot m v<d):dot m (DB l)<d:=by
 have hl:0<l.length:=by
  obtain⟨v,hv,_⟩:=k;cases l with
  |nil=>cases hv
  |cons a l=>exact TH _
 have hp:=Vv (F:=F) hl;rw[aMd,<-mul_lt_mul_left hp,CR.mul_left_comm,lS _ (OF.ne_of_gt hp),CR.mul_one];exact aCB h k
theorem aCD{ps:List (HS F)}(hc:Cl ps)(hp:jl ps){l:List (V3 F)}(hl:∀ v,v∈l↔mo ps v)(hf:pc ps):l≠[]/\BU ps (DB l):=by
 obtain⟨x,hx⟩:=hf;have xK:∀ p∈ps,∃ v∈l,dot p.n v<p.d:=by intro p iU;obtain⟨v,hv,hm⟩:=top hc hp (m:=-p.n) hx.inside;refine⟨v,(hl v).2 hv,?_⟩;rw[BN,BN,OF.le_def,show -dot p.n v - -dot p.n x=dot p.n x-dot p.n v from kE (dot p.n v) (dot p.n x) (λa b=>-a - -b) (λa b=>b-a) d_]at hm;exact OF.lt_of_le_of_lt hm (hx p iU)
 obtain⟨⟨p,iU,_⟩,_⟩:=hc;refine⟨λe=>?_,λp iU=>aCC (λv hv=>((hl v).1 hv).1 p iU) (xK p iU)⟩;obtain⟨v,hv,_⟩:=xK p iU;rw[e]at hv;cases hv
theorem aMe{ps:List (HS F)}(hc:Cl ps)(hp:jl ps)(hf:pc ps)(v:V3 F):∃ x,iq ps x/\x≠v:=by
 obtain⟨x,hx⟩:=hf;by_cases h:x=v
 ·obtain⟨p,iU,_⟩:=hc.1;have jL:=hp p iU;obtain⟨w,hw,hm⟩:=top hc hp (m:=p.n) hx.inside;by_cases hwx:w=x
  ·-- then every aV5 is x,which is on a Pj
   obtain⟨_,q,hq,_,_,_,_,_,tq,_⟩:=hw;have:=hx q hq;rw[hwx]at tq;rw[show dot q.n x=q.d from tq]at this;exact absurd this (OF.lt_irrefl _)
  ·exact⟨w,hw.1,λe=>hwx (e.trans h.symm)⟩
 ·exact⟨x,hx.inside,h⟩
end
section
variable{F:Type}[OF F]
def Py(l:List (V3 F)):Prop:=∃ o rest,l=o::rest/\∃ a∈rest,∃ b∈rest,∃ c∈rest,cE (a-o) (b-o) (c-o)≠0
theorem aMf{ps:List (HS F)}(hp:jl ps){l:List (V3 F)}(hl:∀ v∈l,iq ps v)(h:Py l):pc ps:=by
 obtain⟨o,rest,rfl,a,ha,b,hb,c,hc,hd⟩:=h;have io:=hl o (aP ..);have ia:=hl a (bH _ ha);have ib:=hl b (bH _ hb);have ic:=hl c (bH _ hc);refine⟨DB [o,a,b,c],λp iU=>aCC (λv hv=>?_) ?_⟩
 ·simp only[ct,iX,iY]at hv;rcases hv with rfl|rfl|rfl|rfl
  ·exact io p iU
  ·exact ia p iU
  ·exact ib p iU
  ·exact ic p iU
 ·apply jI;intro fT;have tight:∀ v∈[o,a,b,c],dot p.n v=p.d:=by
   intro v hv;have cv:dot p.n v<=p.d:=by
    simp only[ct,iX,iY]at hv;rcases hv with rfl|rfl|rfl|rfl
    ·exact io p iU
    ·exact ia p iU
    ·exact ib p iU
    ·exact ic p iU
   rcases OF.pK cv with h|h
   ·exact(fT ⟨v,hv,h⟩).elim
   ·exact h
  have to:=tight o s_;have z:∀ v∈[o,a,b,c],dot (v-o) p.n=0:=λv hv=>by rw[zL,lA,tight v hv,to,OF.sub_self]
  exact hp p iU (Io hd (z a s_) (z b s_) (z c s_))
theorem aMg{ps:List (HS F)}(hc:Cl ps)(hp:jl ps){l:List (V3 F)}(hl:∀ v,v∈l↔mo ps v)(hf:pc ps):Py l:=by
 have bj:=(aCD hc hp hl hf).1;cases l with
 |nil=>exact absurd rfl bj
 |cons o rest=>
  apply jI;intro fT;have hz:∀ a∈rest,∀ b∈rest,∀ c∈rest,cE (a-o) (b-o) (c-o)=0:=by intro a ha b hb c hc;apply jI;intro h;exact fT ⟨o,rest,rfl,a,ha,b,hb,c,hc,h⟩
  -- a direction that all points have in M3
  obtain⟨m,hm,Pw⟩:∃ m:V3 F,m≠0/\∀ v∈rest,dot m (v-o)=0:=by
   by_cases h2:∃ a∈rest,∃ b∈rest,av (a-o) (b-o)≠0
   ·obtain⟨a,ha,b,hb,h⟩:=h2;refine⟨_,h,λv hv=>?_⟩;rw[zL];exact hz v hv a ha b hb
   ·have zy:∀ a∈rest,∀ b∈rest,av (a-o) (b-o)=0:=λa ha b hb=>jI λh=>h2 ⟨a,ha,b,hb,h⟩;by_cases h1:∃ a∈rest,a-o≠0
    ·obtain⟨a,ha,h⟩:=h1;obtain⟨u,hu,Pz⟩:=K1 h;exact⟨u,hu,λv hv=>by rw[zL];exact Ph h (zy a ha v hv) Pz⟩
    ·obtain⟨p,iU,_⟩:=hc.1;exact⟨p.n,hp p iU,λv hv=>by rw[jI (λh=>h1 ⟨v,hv,h⟩:¬¬(v-o=0)),Dx]⟩
  have heq:∀ v,mo ps v->dot m v=dot m o:=by
   intro v hv;rcases ct.1 ((hl v).2 hv)with rfl|h
   ·rfl
   ·have:=Pw v h;rw[lA]at this;exact OF.sub_eq_zero.1 this
  -- so every K8 inside has the same product
  have all:∀ y,iq ps y->dot m y=dot m o:=by intro y hy;obtain⟨v,hv,h1⟩:=top hc hp (m:=m) hy;obtain⟨w,hw,h2⟩:=top hc hp (m:=-m) hy;rw[heq v hv]at h1;rw[BN,BN,heq w hw,OF.le_def,show -dot m o - -dot m y=dot m y-dot m o from kE (dot m o) (dot m y) (λa b=>-a - -b) (λa b=>b-a) d_]at h2;exact OF.le_antisymm h1 h2
  obtain⟨x,hx⟩:=hf;obtain⟨t,ht,⟨q,hq,_,vU⟩,cv⟩:=yU hx.inside (hc.bounds hp hm);have vY:t≠0:=by
   rintro rfl
   rw[smul_zero,V3.add_zero]at vU;have:=hx q hq;rw[show dot q.n x=q.d from vU]at this;exact OF.lt_irrefl _ this
  have h1:=all _ cv;rw[lv,jk,all x hx.inside]at h1;have:dot m m*t=0:=CR.add_left_cancel (a:=dot m o) (by rw[h1,CR.add_zero]);exact mul_ne_zero (BO hm) vY this
theorem Cl.more{ps qs:List (HS F)}(hc:Cl ps)(hp:jl ps)(h:∀ p∈ps,p∈qs):Cl qs:=by obtain⟨p,iU,q,lB,hd⟩:=hc.1;refine⟨⟨p,h p iU,q,h q lB,hd⟩,λa _ b _ bZ=>?_⟩;obtain⟨r,hr,oj⟩:=hc.bounds hp bZ;exact⟨r,h r hr,oj⟩
end
end
variable{k:Nat}{p:HS K}{x:K}{ps:List (HS K)}
section
open CR OF
section
variable{F:Type}[OF F]
def eB(u v:V3 F):Int:=
 if aD (u.x-v.x)≠0 then aD (u.x-v.x)else if aD (u.y-v.y)≠0 then aD (u.y-v.y)else aD (u.z-v.z)
theorem aMh(u v:V3 F):(u-v).x=u.x-v.x:=rfl
theorem aMi(u v:V3 F):(u-v).y=u.y-v.y:=rfl
theorem aMj(u v:V3 F):(u-v).z=u.z-v.z:=rfl
theorem aCE{u v:V3 F}:eB u v=1↔zR (u-v):=by
 unfold eB zR;rw[aMh,aMi,aMj,iJ,iJ,iJ];have e:∀ a:F,a=0↔aD a=0:=λa=>(fp a).symm;rw[e (u.x-v.x),e (u.y-v.y)];rcases iR (u.x-v.x)with h|h|h<;>rw[h]<;>simp
 rcases iR (u.y-v.y)with h|h|h<;>rw[h]<;>simp
theorem aCF(u v:V3 F):eB v u=- eB u v:=by
 unfold eB;rw[FD v.x u.x,FD v.y u.y,FD v.z u.z];rcases iR (u.x-v.x)with h|h|h<;>rw[h]<;>simp
 rcases iR (u.y-v.y)with h|h|h<;>rw[h]<;>simp
theorem K9{u v:V3 F}:eB u v=-1↔zR (v-u):=by rw[<-aCE,aCF u v];omega
theorem La{u v:V3 F}:eB u v=0↔u=v:=by
 constructor
 ·intro h;apply jI;intro bj;rcases aL6 bj with k|k
  ·rw[K9.2 k]at h;cases h
  ·rw[aCE.2 k]at h;cases h
 ·rintro rfl
  unfold eB;rw[OF.sub_self,OF.sub_self,OF.sub_self,(fp (0:F)).2 rfl];simp
theorem Iq(u v:V3 F):eB u v=-1\/eB u v=0\/eB u v=1:=by
 unfold eB;split
 ·exact iR _
 ·split
  ·exact iR _
  ·exact iR _
def jX(u v:V3 F):Prop:=eB u v=-1
theorem Lb{u v w:V3 F}(h:jX u v)(k:jX v w):jX u w:=by have h:=K9.1 h;have k:=K9.1 k;exact K9.2 (iW.aB9 (H:=aCo) h k)
theorem DC(u:V3 F):¬jX u u:=λh=>by have:eB u u=0:=La.2 rfl;rw[show eB u u=-1 from h]at this;cases this
theorem PA{u v:V3 F}(h:jX u v)(k:jX v u):False:=DC u (Lb h k)
theorem Lc{u v:V3 F}(h:eB u v=1):jX v u:=by unfold jX;rw[aCF u v,h]
def mw(v:V3 F):List (V3 F)->List (V3 F)
 |[]=>[v]
 |a::l=>if eB a v=0 then a::l else if eB a v=1 then v::a::l else a::mw v l
theorem PB{v x:V3 F}:∀{l:List (V3 F)},x∈mw v l↔x=v\/x∈l
 |[]=>by simp[mw]
 |a::l=>by
  unfold mw;split
  ·rename_i h;have e:=La.1 h;subst e;simp
  ·split
   ·simp
   ·rw[ct,PB,ct];constructor
    ·rintro(h|h|h)
     ·exact .inr (.inl h)
     ·exact .inl h
     ·exact .inr (.inr h)
    ·rintro(h|h|h)
     ·exact .inr (.inl h)
     ·exact .inl h
     ·exact .inr (.inr h)
theorem Vw{v:V3 F}:∀{l:List (V3 F)},l.Pairwise jX->(mw v l).Pairwise jX
 |[],_=>aCk ..
 |a::l,h=>by
  unfold mw;have h':=sT.1 h;split
  ·exact h
  ·rename_i h0;split
   ·rename_i h1;refine sT.2 ⟨λb hb=>?_,h⟩;rcases ct.1 hb with rfl|hb
    ·exact Lc h1
    ·exact Lb (Lc h1) (h'.1 b hb)
   ·rename_i h1;refine sT.2 ⟨λb hb=>?_,Vw h'.2⟩;rcases PB.1 hb with rfl|hb
    ·rcases Iq a b with k|k|k
     ·exact k
     ·exact absurd k h0
     ·exact absurd k h1
    ·exact h'.1 b hb
theorem Vx:∀{l m:List (V3 F)},l.Pairwise jX->m.Pairwise jX->(∀ x,x∈l↔x∈m)->l=m
 |[],[],_,_,_=>rfl
 |[],b::m,_,_,h=>by have:=(h b).2 (aP ..);cases this
 |a::l,[],_,_,h=>by have:=(h a).1 (aP ..);cases this
 |a::l,b::m,hl,hm,h=>by
  have dh:=sT.1 hl;have bF:=sT.1 hm;have e:a=b:=by
   rcases ct.1 ((h a).1 (aP ..))with e|ha
   ·exact e
   ·rcases ct.1 ((h b).2 (aP ..))with e|hb
    ·exact e.symm
    ·exact(PA (dh.1 b hb) (bF.1 a ha)).elim
  subst e
  congr 1
  refine Vx dh.2 bF.2 λx=>⟨λhx=>?_,λhx=>?_⟩
  ·rcases ct.1 ((h x).1 (bH _ hx))with rfl|xl
   ·exact(DC _ (dh.1 _ hx)).elim
   ·exact xl
  ·rcases ct.1 ((h x).2 (bH _ hx))with rfl|xl
   ·exact(DC _ (bF.1 _ hx)).elim
   ·exact xl
def Ld(l:List (V3 F)):List (V3 F):=l.foldl (λs v=>mw v s) []
theorem aCG{x:V3 F}:∀(l s:List (V3 F)),x∈l.foldl (λs v=>mw v s) s↔x∈l\/x∈s
 |[],s=>by simp
 |v::l,s=>by
  rw[vH,aCG l,PB,ct];constructor
  ·rintro(h|h|h)
   ·exact .inl (.inr h)
   ·exact .inl (.inl h)
   ·exact .inr h
  ·rintro((h|h)|h)
   ·exact .inr (.inl h)
   ·exact .inl h
   ·exact .inr (.inr h)
theorem aCH:∀(l s:List (V3 F)),s.Pairwise jX->(l.foldl (λs v=>mw v s) s).Pairwise jX
 |[],_,h=>h
 |v::l,s,h=>by rw[vH];exact aCH l _ (Vw h)
theorem Vy{x:V3 F}{l:List (V3 F)}:x∈Ld l↔x∈l:=by unfold Ld;rw[aCG];simp
theorem Vz(l:List (V3 F)):(Ld l).Pairwise jX:=aCH l [] aCI
end
end
section
open V3 (dot av cE smul)
def cr(v:V3 K):RV:=⟨cO v.x,cO v.y,cO v.z⟩
def aZ(v:V3 K):Value:=(cr v).v
theorem PC{u v:V3 K}(h:cr u=cr v):u=v:=by cases u;cases v;have h1:=KH (cL RV.x h);have h2:=KH (cL RV.y h);have h3:=KH (cL RV.z h);dsimp only[cr]at h1 h2 h3;rw[h1,h2,h3]
def aw(n:Nat)(v:V3 K):Prop:=Sz n v.x/\Sz n v.y/\Sz n v.z
theorem aw.mono{n:Nat}(h:m<=n){v:V3 K}(hv:aw m v):aw n v:=⟨hv.1.mono h,hv.2.1.mono h,hv.2.2.mono h⟩
theorem aw.sm{n:Nat}{v:V3 K}(h:aw n v)(hn:n<=az):(cr v).Sm:=⟨uY h.1 hn,uY h.2.1 hn,uY h.2.2 hn⟩
theorem aw.add{n:Nat}{u v:V3 K}(hu:aw m u)(hv:aw n v):aw (m+n+1) (u+v):=⟨hu.1.add hv.1,hu.2.1.add hv.2.1,hu.2.2.add hv.2.2⟩
theorem aw.sub{n:Nat}{u v:V3 K}(hu:aw m u)(hv:aw n v):aw (m+n+1) (u-v):=⟨hu.1.sub hv.1,hu.2.1.sub hv.2.1,hu.2.2.sub hv.2.2⟩
theorem aw.neg{n:Nat}{v:V3 K}(hv:aw n v):aw n (-v):=⟨hv.1.neg,hv.2.1.neg,hv.2.2.neg⟩
theorem aw.smul{m n:Nat}{v:V3 K}{k:K}(hv:aw m v)(hk:Sz n k):aw (m+n+4) (smul v k):=⟨hv.1.mul hk,hv.2.1.mul hk,hv.2.2.mul hk⟩
theorem aw.dot{m n:Nat}{u v:V3 K}(hu:aw m u)(hv:aw n v):Sz (3*(m+n)+14) (dot u v):=((hu.1.mul hv.1).add (hu.2.1.mul hv.2.1)).add (hu.2.2.mul hv.2.2) |>.mono o_
theorem aw.av{m n:Nat}{u v:V3 K}(hu:aw m u)(hv:aw n v):aw (2*(m+n)+9) (av u v):=
 ⟨((hu.2.1.mul hv.2.2).sub (hu.2.2.mul hv.2.1)).mono o_,((hu.2.2.mul hv.1).sub (hu.1.mul hv.2.2)).mono o_,((hu.1.mul hv.2.1).sub (hu.2.1.mul hv.1)).mono o_⟩
theorem iZ{v:V3 K}{n:Nat}(h:aw n v)(hn:n<=az):aB prog 67 [aZ v] b_:=FV (r:=cr v) (kG h.1 hn) (kG h.2.1 hn) (kG h.2.2 hn)
theorem vj{a b c:Int}(ha:a.natAbs<9223372036854775808)(hb:b.natAbs<9223372036854775808)(hc:c.natAbs<9223372036854775808):aB prog 39 [.int .i64 a,.int .i64 b,.int .i64 c] (aZ ⟨kI a,kI b,kI c⟩):=
 bo func39 (λ_=>[(rq ha).at 8,(rq hb).at 10,(rq hc).at 12])
def VA(f:FuncId):Value:=.agg #[.func (.func f) #[] #[]]
theorem aMk{u v:RV}{z:RV}(hu:aB prog 67 [u.v] b_)(hv:aB prog 67 [v.v] b_)
  (hx:aB prog 90 [u.x.v,v.x.v] z.x.v) (hy:aB prog 90 [u.y.v,v.y.v] z.y.v) (hz:aB prog 90 [u.z.v,v.z.v] z.z.v):aB prog 94 [VA 90,u.v,v.v] z.v:=
 bo func94 (λ_=>[hu.at 8,hv.at 12,hx.at 22,hy.at 29,hz.at 36])
theorem aMl{u v:RV}{z:RV}(hu:aB prog 67 [u.v] b_)(hv:aB prog 67 [v.v] b_)
  (hx:aB prog 123 [u.x.v,v.x.v] z.x.v) (hy:aB prog 123 [u.y.v,v.y.v] z.y.v) (hz:aB prog 123 [u.z.v,v.z.v] z.z.v):aB prog 94 [VA 123,u.v,v.v] z.v:=
 bo func94 (λ_=>[hu.at 8,hv.at 12,hx.at 22,hy.at 29,hz.at 36])
theorem aCJ{u v:RV}{z:RV}(hu:aB prog 67 [u.v] b_)(hv:aB prog 67 [v.v] b_)
  (hx:aB prog 52 [u.x.v,v.x.v] z.x.v) (hy:aB prog 52 [u.y.v,v.y.v] z.y.v) (hz:aB prog 52 [u.z.v,v.z.v] z.z.v):aB prog 94 [VA 52,u.v,v.v] z.v:=
 bo func94 (λ_=>[hu.at 8,hv.at 12,hx.at 22,hy.at 29,hz.at 36])
theorem BV{u v:V3 K}{n:Nat}(hu:aw m u)(hv:aw n v)(cN:m+n<az):aB prog 41 [aZ u,aZ v] (aZ (u+v)):=
 bo func41 (λ_=>[(aMk (u:=cr u) (v:=cr v) (z:=cr (u+v)) (iZ hu o_) (iZ hv o_) (tX hu.1 hv.1 cN) (tX hu.2.1 hv.2.1 cN) (tX hu.2.2 hv.2.2 cN)).at 8])
theorem vk{u v:V3 K}{n:Nat}(hu:aw m u)(hv:aw n v)(cN:m+n<az):aB prog 114 [aZ u,aZ v] (aZ (u-v)):=
 bo func114 (λ_=>[(aMl (u:=cr u) (v:=cr v) (z:=cr (u-v)) (iZ hu o_) (iZ hv o_) (BB hu.1 hv.1 cN) (BB hu.2.1 hv.2.1 cN) (BB hu.2.2 hv.2.2 cN)).at 8])
instance:DecidableEq (V3 K):=λu v=>decidable_of_iff (u.x=v.x/\u.y=v.y/\u.z=v.z) ⟨λh=>V3.ext h.1 h.2.1 h.2.2,λh=>by subst h;exact⟨rfl,rfl,rfl⟩⟩
theorem Ir:aw 1 (⟨kI 0,kI 0,kI 0⟩:V3 K):=⟨o9 d_ d_,o9 d_ d_,o9 d_ d_⟩
theorem Is{v:V3 K}{n:Nat}(hv:aw n v)(hn:n+1<az):aB prog 181 [aZ v] (aZ (-v)):=by
 have e:(⟨kI 0,kI 0,kI 0⟩:V3 K)-v=-v:=by cases v;show(⟨kI 0-_,kI 0-_,kI 0-_⟩:V3 K)=⟨-_,-_,-_⟩;rw[aKV];congr 1<;>(rw[CR.sub_def];exact CR.zero_add _)
 have h:=vk Ir hv o_;rw[e]at h;exact bo func181 (λ_=>[(vj (a:=0) (b:=0) (c:=0) d_ d_ d_).at 3,h.at 5])
theorem ua{v:V3 K}{k:K}{n:Nat}(hv:aw m v)(hk:Sz n k)(cN:m+n+8<=az):aB prog 42 [aZ v,bK k] (aZ (smul v k)):=
 bo func42 (λ_=>[(aCJ (u:=cr v) (v:=⟨cO k,cO k,cO k⟩) (z:=cr (smul v k)) (iZ hv o_) (iZ (v:=⟨k,k,k⟩) ⟨hk,hk,hk⟩ o_) (nh hv.1 hk cN) (nh hv.2.1 hk cN) (nh hv.2.2 hk cN)).at 11])
theorem oz{u v:V3 K}{n:Nat}(hu:aw m u)(hv:aw n v)(cN:3*(m+n)+16<az):aB prog 58 [aZ u,aZ v] (bK (dot u v)):=
 bo func58 (λ_=>[(aCJ (u:=cr u) (v:=cr v) (z:=⟨cO (u.x*v.x),cO (u.y*v.y),cO (u.z*v.z)⟩) (iZ hu o_) (iZ hv o_) (nh hu.1 hv.1 o_) (nh hu.2.1 hv.2.1 o_) (nh hu.2.2 hv.2.2 o_)).at 9,(tX (hu.1.mul hv.1) (hu.2.1.mul hv.2.1) o_).at 14,(tX ((hu.1.mul hv.1).add (hu.2.1.mul hv.2.1)) (hu.2.2.mul hv.2.2) o_).at 17])
theorem F5{a b c d:K}{n:Nat}(ha:Sz m a)(hb:Sz m b)(hc:Sz n c)(hd:Sz n d)(cN:2*(m+n)+16<az):aB prog 151 [bK a,bK b,bK c,bK d] (bK (a*d-b*c)):=
 bo func151 (λ_=>[(nh ha hd o_).at 11,(nh hb hc o_).at 14,(BB (ha.mul hd) (hb.mul hc) o_).at 15])
theorem sU{u v:V3 K}{n:Nat}(hu:aw m u)(hv:aw n v)(cN:2*(m+n)+16<az):aB prog 95 [aZ u,aZ v] (aZ (av u v)):=
 bo func95 (λ_=>[(iZ hu o_).at 6,(iZ hv o_).at 10,(F5 hu.2.1 hu.2.2 hv.2.1 hv.2.2 cN).at 22,(F5 hu.2.2 hu.1 hv.2.2 hv.1 cN).at 31,(F5 hu.1 hu.2.1 hv.1 hv.2.1 cN).at 40])
theorem ub{v:V3 K}{n:Nat}(hv:aw n v)(hn:n<=az):aB prog 68 [aZ v] (.bool (decide (v=0))):=by have hz:(⟨kI 0,kI 0,kI 0⟩:V3 K)=0:=rfl;exact bo func68 (λ_=>[(vj (a:=0) (b:=0) (c:=0) d_ d_ d_).at 4,.step 5 (aA f68 5) _ _ _ _ (Dm (neg:=true) k_ (cr v) (cr ⟨kI 0,kI 0,kI 0⟩) (hv.sm hn) (Ir.sm d_) (b:=decide (v=0)) (by rw[ax rfl,zW];exact⟨λh=>by rw[h,hz],λh=>PC h⟩))])
def PD:Int->Int->Int->Int:=λa b c=>if a≠0 then a else if b≠0 then b else c
theorem F6{v:i_}(hf:prog.funcs[f]?=some fn)(N:Nat)(rs:∀ w,bL prog (aa.at w) N)(hN:N=(eG 0 l).length+(fn.ntmps-(eG 0 l).length):=by kernel_rfl)(hl:(l.all aL.ok)=true:=by kernel_rfl)(h:∀ w,oQ (gO (P:=prog) fn 100 (eG 0 l) (ji 0 l) (jB 0 l) (rs w)) []=oR (gO fn 100 (eG 0 l) (ji 0 l) (jB 0 l) (rs w)) v []:=by intro _;kernel_rfl)(hv:flat v=true:=by kernel_rfl):bw prog f l v:=iT mixed hf hl 100 hN rs h hv
theorem aMm(a b c:Int):bw prog 213 [.r 3 [.int .i64 a,.int .i64 b,.int .i64 c]] (.int .i64 (PD a b c)):=by
 have bl:∀ z:Int,z≠0->(Value.bool (!(z==0)))=.bool true:=λz h=>by congr 1;simpa using h
 unfold PD;by_cases ha:a=0
 ·rw[ao (λh=>h ha)];subst ha;by_cases hb:b=0
  ·rw[ao (λh=>h hb)];subst hb;by_cases hc:c=0
   ·subst hc;exact F6 func213 18 (λ_=>[])
   ·exact F6 func213 18 (λ_=>[.rw 14 (.bool (!((0:Int)==0))) a_ rfl,.rw 14 (.bool (!((0:Int)==0))) a_ rfl,.rw 14 _ _ (bl c hc)])
  ·rw[ax hb];exact F6 func213 18 (λ_=>[.rw 14 (.bool (!((0:Int)==0))) a_ rfl,.rw 14 _ _ (bl b hb)])
 ·rw[ax ha];exact F6 func213 18 (λ_=>[.rw 14 _ _ (bl a ha)])
theorem aCK(u v:V3 K):PD (OF.aD (u.x-v.x)) (OF.aD (u.y-v.y)) (OF.aD (u.z-v.z))=eB u v:=rfl
theorem VB{u v:V3 K}{n:Nat}(hu:aw m u)(hv:aw n v)(cN:4*(m+n)+24<=az):aB prog 184 [aZ u,aZ v] (.int .i64 (eB u v)):=by rw[<-aCK];refine bo func184 (λ_=>[(iZ hu o_).at 6,(iZ hv o_).at 10,(kH hu.1 hv.1 cN).at 17,(kH hu.2.1 hv.2.1 cN).at 22,(kH hu.2.2 hv.2.2 cN).at 27,.bs f184 28 2 3 3 1 [0,1,2] (.int .i64 0) [.int .i64 (OF.aD (u.x-v.x)),.int .i64 (OF.aD (u.y-v.y)),.int .i64 (OF.aD (u.z-v.z))] #[.int .i64 (OF.aD (u.x-v.x)),.int .i64 (OF.aD (u.y-v.y)),.int .i64 (OF.aD (u.z-v.z))] (.row [.int .i64 (OF.aD (u.x-v.x)),.int .i64 (OF.aD (u.y-v.y)),.int .i64 (OF.aD (u.z-v.z))] 3 1) rfl (bd.1 k_) (bd.1 k_) k_ k_ d_ d_ k_,.step 29 (aA f184 29) _ _ _ _ (pb (aMm _ _ _) (.w (k:=2) (cc:=0) (x:=.row [.int .i64 (OF.aD (u.x-v.x)),.int .i64 (OF.aD (u.y-v.y)),.int .i64 (OF.aD (u.z-v.z))] 3 1) k_ k_ n_ .nil) (x:=.func 213) k_ k_ k_)])
def db(p:HS K):RP:=⟨cr p.n,cO p.d⟩
def dH(p:HS K):Value:=(db p).v
theorem PE{q:HS K}(h:db p=db q):p=q:=HS.ext (PC (cL RP.n h)) (KH (cL RP.d h))
def bM(n:Nat)(p:HS K):Prop:=aw n p.n/\Sz n p.d
theorem bM.mono{n:Nat}(h:m<=n)(hp:bM m p):bM n p:=⟨hp.1.mono h,hp.2.mono h⟩
theorem bM.sm{n:Nat}(h:bM n p)(hn:n<=az):(db p).Sm:=⟨h.1.sm hn,uY h.2 hn⟩
instance:DecidableEq (HS K):=λp q=>decidable_of_iff (p.n=q.n/\p.d=q.d) ⟨λh=>HS.ext h.1 h.2,λh=>by subst h;exact⟨rfl,rfl⟩⟩
theorem BW{n:Nat}(hp:bM n p)(hn:n<=az):aB prog 141 [dH p] (.bool (decide (p.n≠0))):=by
 by_cases h:p.n=0
 ·rw[aO (λe=>e h)];have hz:=ub hp.1 hn;rw[aE h]at hz;exact bo func141 (λ_=>[(iZ hp.1 hn).at 5,hz.at 9])
 ·rw[aE h];have hz:=ub hp.1 hn;rw[aO h]at hz;exact bo func141 (λ_=>[(iZ hp.1 hn).at 5,hz.at 9,(kG hp.2 hn).at 15])
theorem Le{v:V3 K}{n:Nat}(hp:bM m p)(hv:aw n v)(cN:4*(3*(m+n)+14+m)+30<=az)(h:p.n≠0):aB prog 187 [dH p,aZ v] (.int .i64 (OF.aD (dot p.n v-p.d))):=by have h1:=BW hp o_;rw[aE h]at h1;exact bo func187 (λ_=>[h1.at 6,(iZ hv o_).at 10,(oz hp.1 hv o_).at 16,(kH (hp.1.dot hv) hp.2 o_).at 19])
theorem aMn{y:K}{n:Nat}(h:y≠0)(hx:Sz m x)(hy:Sz n y)(cN:m+7*n+40<=az):aB prog 238 [bK x,bK y] (bK (x*y⁻¹)):=
 bo func238 (λ_=>[(Ie h hx hy cN).at 10])
theorem Sz.iS{x:K}{n:Nat}(h:Sz n x):Sz n (iS x):=by
 unfold _root_.Go.Proofs.YthjhinbiabcfiaaGreatDoor.iS;split
 ·exact h.neg
 ·exact h
theorem PF(h:x≠0):iS x≠0:=by
 unfold iS;split
 ·intro e;apply h;have:=cL (λz:K=>-z) e;rwa[CR.neg_neg,CR.neg_zero]at this
 ·exact h
def mz(x:K):K:=kI 1*(iS x)⁻¹
def DD(p:HS K)(x:K):HS K:=⟨smul p.n (mz x),p.d*mz x⟩
def qH(v:V3 K):K:=if v.x≠0 then v.x else if v.y≠0 then v.y else v.z
def canon(p:HS K):HS K:=DD p (qH p.n)
theorem PG{v:V3 K}(h:v≠0):qH v≠0:=by
 unfold qH;by_cases hx:v.x=0
 ·rw[ao (λe=>e hx)];by_cases hy:v.y=0
  ·rw[ao (λe=>e hy)];exact λhz=>h (V3.ext hx hy hz)
  ·rw[ax hy];exact hy
 ·rw[ax hx];exact hx
theorem Sz.mz{x:K}{n:Nat}(hx:x≠0)(h:Sz n x):Sz (7*n+29) (mz x):=(Sz.div (m:=1) (PF hx) (o9 d_ d_) h.iS).mono o_
theorem bM.DD{p:HS K}{n:Nat}(hp:bM n p){x:K}(hx:x≠0)(h:Sz n x):bM (8*n+33) (DD p x):=⟨(hp.1.smul (h.mz hx)).mono o_,(hp.2.mul (h.mz hx)).mono o_⟩
theorem aMo{v:V3 K}{n:Nat}(h:aw n v):Sz n (qH v):=by
 unfold qH;split
 ·exact h.1
 ·split
  ·exact h.2.1
  ·exact h.2.2
theorem bM.canon{p:HS K}{n:Nat}(hp:bM n p)(h:p.n≠0):bM (8*n+33) (canon p):=hp.DD (PG h) (aMo hp.1)
theorem aMp{x:m_}(r:RV)(ho:dC o.op=some x):cA prog B o (.func (.func 237) #[] #[]::[r.v]) [(k,none)] (.func (.func 251) #[] #[.pointer (some ⟨k,0,some 7⟩)]) [(k,.aI r.cs 38)]:=
 aBY mixed func237 ho k_ 50 (λ_=>[]) (λ_=>k_) k_ k_
def zI:RI:=⟨false,[]⟩
def zN:RN:=⟨zI,zI,zI,zI,zI⟩
def zV:RV:=⟨zN,zN,zN⟩
def zP:RP:=⟨zV,zN⟩
def v7(r q:RP):aH:=[(0,.aI r.cs 50),(1,.aI q.cs 50),(2,.aI [.int .i64 0] 34),(3,.aI r.n.cs 38)]
def It:aN:=[(1,aX 0),(2,aX 1),(3,aX 2),(12,.func (.func 251) #[] #[aX 3])]
theorem aMq(r:RP):af prog B 31 (zG f214 0) (jR 0 [r.v]) [] 0 ⟨.normal,[(1,aX 0),(2,aX 1),(3,aX 2)],[(0,.aI r.cs 50),(1,.aI zP.cs 50),(2,.aI [.int .i64 0] 34)],3⟩:=
 fB mixed 10 [] k_
def aMr:Code->Code|.seq _ y=>(match y with|.seq x _=>x|c=>c)|c=>c
def aMs(fn:Func):Code:=match fn.body with|some c=>c|none=>.skip
theorem aMt(r:RP)(hv:aB prog 141 [r.v] b_):af prog B 31 (aMr (aMs f214)) [(1,aX 0),(2,aX 1),(3,aX 2)] [(0,.aI r.cs 50),(1,.aI zP.cs 50),(2,.aI [.int .i64 0] 34)] 3
  ⟨.normal,[(1,aX 0),(2,aX 1),(3,aX 2)],[(0,.aI r.cs 50),(1,.aI zP.cs 50),(2,.aI [.int .i64 0] 34)],3⟩:=
 fB mixed 10 [hv.at 7] k_
theorem aMu(r:RP):af prog B 31 (zG f214 3) [(1,aX 0),(2,aX 1),(3,aX 2)] [(0,.aI r.cs 50),(1,.aI zP.cs 50),(2,.aI [.int .i64 0] 34)] 3 ⟨.normal,It,v7 r zP,4⟩:=
 fB mixed 10 [.step 12 (aA f214 12) _ _ _ _ (aMp (k:=3) (x:=.func 237) r.n k_)] k_
theorem aMv{n:Nat}(hp:bM n p)(hx:Sz n x)(hn:16*n+80<=az):
  FP prog 4 5 31 #[13] (FT (sR f214)) (Dw (sR f214)) It (v7 (db p) zP) [] (v7 (db p) (if x=0 then zP else db (DD p x))) [] [bK x] (if x=0 then none else some .ret):=by
 have hs:=nL hx o_;by_cases h:x=0
 ·rw[ax h,ax h];have e:OF.aD x=0:=(OF.fp x).2 h;rw[e]at hs
  exact O7 [] (rA:=⟨.normal,(4,aX 5)::It,(5,.aI (cO x).cs 33)::v7 (db p) zP,6⟩) (rB:=⟨.normal,[],v7 (db p) zP,6⟩) k_ k_ k_ d_ (O8 k_) (FU k_ []) k_ (KW k_) k_ rfl k_ (λB=>fB mixed 10 [] k_) rfl k_ rfl
   (λB=>fB mixed 10 [hs.at 15,.rw 16 (.bool (!((0:Int)==0))) a_ rfl] k_) (λk x h=>h) rfl
 ·rw[ao h,ao h];have e:OF.aD x≠0:=λe=>h ((OF.fp x).1 e)
  exact O7 [] (rA:=⟨.normal,(4,aX 5)::It,(5,.aI (cO x).cs 33)::v7 (db p) zP,6⟩) (rB:=⟨.ret,[],v7 (db p) (db (DD p x)),7⟩) k_ k_ k_ d_ (O8 k_) (FU k_ []) k_ (KW k_) k_ rfl k_ (λB=>fB mixed 10 [] k_) rfl k_ rfl
   (λB=>fB mixed 10 [hs.at 15,.rw 16 (.bool (!(OF.aD x==0))) b_ (by congr 1;simpa using e),(rq (z:=1) d_).at 17,(UJ hx o_).at 19,(aMn (PF h) (o9 (z:=1) (n:=1) d_ d_) hx.iS o_).at 20,(ua hp.1 (hx.mz h) o_).at 24,(nh hp.2 (hx.mz h) o_).at 28] k_) (λk x h=>h) rfl
theorem aMw{n:Nat}(hp:bM n p)(hn:16*n+80<=az)(bj:p.n≠0){T:p_}{m:Map}:
  KR prog 4 31 #[13] (FT (sR f214)) (Dw (sR f214)) It (v7 (db p) zP) [] (v7 (db p) (db (canon p))) m T 251 [aX 3] (some .ret):=by
 refine KX mixed func251 rfl 100 (v:=.tuple #[]) λpa cB l D W1 S=>?_;have st:=λ(t:Nat) (o:Oper) (ho:dC o.op=some (.tmp t)) (x:K) (hx:Sz n x)=>UT (S:=S) (W1:=W1) (l:=l) (D:=D) (cB:=cB) (x:=.tmp t) (o:=o) (aMv hp hx hn) ho pa
 have s1:=st 3 (aA f251 6) k_ p.n.x hp.1.1;have s2:=st 8 (aA f251 11) k_ p.n.y hp.1.2.1;have s3:=st 14 (aA f251 17) k_ p.n.z hp.1.2.2;have hc:canon p=DD p (qH p.n):=rfl;unfold qH at hc;by_cases hx:p.n.x=0
 ·rw[ao (λe=>e hx)]at hc;rw[ax hx,ax hx]at s1;by_cases hy:p.n.y=0
  ·rw[ao (λe=>e hy)]at hc;rw[ax hy,ax hy]at s2;have hz:p.n.z≠0:=λhz=>bj (V3.ext hx hy hz);rw[ao hz,ao hz,<-hc]at s3;exact⟨[.step 6 _ _ _ _ _ s1,.step 11 _ _ _ _ _ s2,.step 17 _ _ _ _ _ s3],k_⟩
  ·rw[ax hy]at hc;rw[ao hy,ao hy,<-hc]at s2;exact⟨[.step 6 _ _ _ _ _ s1,.step 11 _ _ _ _ _ s2],k_⟩
 ·rw[ax hx]at hc;rw[ao hx,ao hx,<-hc]at s1;exact⟨[.step 6 _ _ _ _ _ s1],k_⟩
theorem Lf{n:Nat}(hp:bM n p)(hn:16*n+80<=az)(bj:p.n≠0):aB prog 214 [dH p] (.tuple #[dH (canon p),.int .i64 0]):=by have hv:=BW hp o_;rw[aE bj]at hv;refine aBX (N:=31) func214 rfl rfl k_ λw a hf hm=>?_;refine l9 (aMq (db p) none _ _ a w _ hf hm n_ (λ_ _=>rfl) λtQ cc0 a0 w0 aBZ A0 kp nE zq BJ _=>?_);refine l9 (aMt (db p) hv none _ _ a0 w0 _ A0 kp nE zq λbP gA a1 w1 ju ik c7 eE dS gY _=>?_);refine l9 (l9 (aMu (db p) none _ _ a1 w1 _ ik c7 eE dS λdG r5 a2 w2 kQ jD dF gk eX gv _=>JL ?_));refine U2 (next:=4) (next':=4) (ns:=[]) (Os:=v7 (db p) zP) (Vs:=[]) (cx:=v7 (db p) (db (canon p))) (gf:=251) (ca:=[aX 3]) (j:=some .ret) jD dF gk eX k_ k_ k_ k_ k_ k_ k_ k_ (bA _) k_ (FU k_ []) (aMw hp hn bj) λD κ b9 w' Du hDw _ VC vA BF U0=>?_;refine wpIn_ret (aBW (B:=aa.at w) (fr:=It) (M:=v7 (db p) (db (canon p))++[]) (v:=.tuple #[dH (canon p),.int .i64 0]) k_ VC vA BF rfl (λF h=>h) Du λay cc v' w' hc hG _=>⟨?_,hG.base⟩);rw[hc.fk rfl]
theorem VD{q:HS K}{n:Nat}(hp:bM m p)(hq:bM n q)(hm:16*m+80<=az)(hn:16*n+80<=az)(jL:p.n≠0)(zX:q.n≠0):aB prog 189 [dH p,dH q] (.bool (decide (canon p=canon q))):=
 bo func189 (λ_=>[(Lf hp hm jL).at 11,(Lf hq hn zX).at 16,.step 28 (aA f189 28) _ _ _ _ (Uv (neg:=true) k_ (db (canon p)) (db (canon q)) ((hp.canon jL).sm o_) ((hq.canon zX).sm o_) (b:=decide (canon p=canon q)) (by rw[ax rfl,zW];exact⟨λh=>by rw[h],λh=>PE h⟩))])
end
section
variable{P:j_}{B:aa}{w w4:h_}{K:Nat}{S:Nat->Prop}{ι:Map}{c:g_}{ns:l_}
theorem aMx{c:Code}(hf:P.funcs[f]?=some fn)(hb:fn.body=some c)(hN:N=(eG 0 l).length+(fn.ntmps-(eG 0 l).length))(hl:(l.all aL.ok)=true){w:h_}{R:Ending->World->Prop}
  (h:∀ ι cc a,fA (aa.at w) ι (bI (jR 0 (eG 0 l))) N a->aM (aa.at w) ι cc w->da cc (ji 0 l)->eU cc (jB 0 l)->c.wpIn (FW none) 0 P (bodyPostM (FW none) 0 P fn R) a w) {args:ah} (cv:u9 w l args):Calls P f args.toArray w R:=by
 obtain⟨ι,cc,h1,h2,h3,h4,h5,h6,h7⟩:=xJ cv (bd.1 hl) 0 _ _ (tH w) n_ (λ_ _=>rfl);refine JC.1 (callsIn_of_wp_marks (F:=FW none) (n:=0) hf hb trivial (h ι cc _ ?_ h2 h4 h3));have:=aBV (B:=aa.at w) (fn:=fn) (N:=N) h6 hN rfl;simpa using this
def xO(P:j_)(f:FuncId)(K:Nat)(args:ah)(Os Vs:aH)(val:i_)(cx:aH):Prop:=
 ∀ B:aa,B.ds=[]->∀(ι:Map) (c:g_) (w:h_) (args':ah),aM B ι c w->da c (Os++Vs)->eU c K->bW (aK ι) args args'->
  Calls P f args'.toArray w λe w'=>∃ v' ay c',e=.returned v'/\Map.le ι ay/\aK ay val v'/\aM B ay c' w'/\da c' cx/\∀ k,k<K->ai (Os++Vs) k=none->c' k=c k
theorem oA{val:i_}(iE:P.follows .mixedOrders=true)(hf:P.funcs[f]?=some fn)(n:Nat)(hN:N=args.length+(fn.ntmps-args.length))(rs:∀ B,bL P B N)
  (h:∀ B,oQ (gO (P:=P) fn n args (Os++Vs) K (rs B)) cx=oR (gO fn n args (Os++Vs) K (rs B)) val cx):xO P f K args Os Vs val cx:=by
 intro B mQ ι c w args' hm ha hu dK;exact SH iE hf hN n (h B) dK hm ha hu (λay b9 v' w' hle hc bF dQ hk=>⟨v',ay,b9,rfl,hle,hc,bF,λk x e=>dQ (k,x) (jf e),hk⟩) mQ
theorem aCL{x:m_}{val:i_}(h:xO P f K (args++ca) Os Vs val cx)(ho:dC o.op=some x)(eY:fN P f=true)(gP:sQ K ns val=true)
  (dK:(args++ca).all (lM K)=true) (dE:((Os++Vs).all λp=>Nat.blt p.1 K&&ni K p)=true) (au:∀ p∈cx,∀ v∈p.2.cells,sQ K ns v=true) (eW:(Os.all λp=>p.2.owns)=true) (u4:∀ p∈cx,p.2.owns=true\/p.2=.dead) (mK:(Vs.all λp=>p.2.soft)=true)
  (lk:∀ k,ai cx k=none↔(ai Os k=none/\ns.contains k=false)) :
  cA P B o (.func (.func f) #[] ca.toArray::args) (((Os++Vs).map λp=>(p.1,some p.2))++ns.map λk=>(k,none)) val cx:=by
 have:=j7 (P:=P) (B:=B) (o:=o) (x:=x) (f:=f) (fi:=[]) (args:=args) (ca:=ca) (need:=((Os++Vs).map λp=>(p.1,some p.2))++ns.map λk=>(k,none)) (val:=val) (cX:=cx) ho eY ?_
 ·simpa using this
 ·intro ι c w hm hn args' ha;rw[jG]at ha;have hL:da c (Os++Vs):=UR λp hp=>hn p (fo.2 (.inl hp));have MQ:∀ k,ns.contains k=true->c k=none:=λk hk=>hn (k,none) (fo.2 (.inr (dj.2 ⟨k,by simpa using hk,rfl⟩)));have aCM:∀ k x,ai (Os++Vs) k=some x->k<K/\fe K x:=λk x e=>by have:=BC dE e;simp only[cZ,yR]at this;exact⟨this.1,KN this.2⟩
  obtain⟨S,hS,UZ,KP,xD⟩:=aK2 hm hL aCM (λk x e=>BC eW e) (λk x e=>BC mK e);have bZ:bW (aK (xI ι K)) (args++ca) args':=by
   have key:∀{l l':ah},bW (aK ι) l l'->(∀ v∈l,lM K v=true)->bW (aK (xI ι K)) l l':=by
    intro l l' h hl;induction h with
    |nil=>exact .nil
    |cons h t ih=>exact .cons (h.low (λk hk l e=>by rw[Ii hk];exact e) (hl _ (aP ..))) (ih λc hc=>hl c (bH _ hc))
   exact key ha (bd.1 dK)
  refine(h (aa.OY w S) rfl _ _ w args' UZ KP xD bZ).mono ?_
  rintro e w' ⟨v',ay,c',rfl,hle,hc,bF,BD,ij⟩
  have O4:=aBG hm bF hle (λk hk e=>(ij k hk (Ij KP e)).trans e) hL;obtain⟨g1,g2⟩:=aBD (ns:=ns) hm (λk x e=>hL k x (by rw[jQ,e])) (λk x e=>BC eW e) (λk x e=>u4 _ (jf e)) lk MQ hS bF BD O4 (λk x e=>au _ (jf e)) λk x e=>(aCM k x (by rw[jQ,e])).1;exact⟨_,v',rfl,g1,aBB O4 gP hc,g2⟩
theorem Lg{x:m_}{val:i_}(h:xO P f K (args++ca) Os Vs val cx)(ho:dC o.op=some x)(eY:fN P f=true)(gP:lM K val=true)
  (dK:(args++ca).all (lM K)=true) (dE:((Os++Vs).all λp=>Nat.blt p.1 K&&ni K p)=true) (KV:(cx.all (ni K))=true) (eW:(Os.all λp=>p.2.owns)=true) (u4:(cx.all λp=>p.2.owns)=true) (mK:(Vs.all λp=>p.2.soft)=true) (lk:cx.map (·.1)=Os.map (·.1)) :
  cA P B o (.func (.func f) #[] ca.toArray::args) ((Os++Vs).map λp=>(p.1,some p.2)) val cx:=by
 have:=aCL (P:=P) (B:=B) (ns:=[]) (o:=o) (x:=x) h ho eY (by unfold sQ;rw[gP];rfl) dK dE (FU KV []) eW (KW u4) mK (UO (by rw[lk,jh]));rwa[NX,jh]at this
theorem aMy{x:m_}{val:i_}(h:xO P f K (args++ca) Os Vs val Os)(ho:dC o.op=some x)(eY:fN P f=true)(gP:lM K val=true)
  (dK:(args++ca).all (lM K)=true) (dE:((Os++Vs).all λp=>Nat.blt p.1 K&&ni K p)=true) (KV:(Os.all (ni K))=true) (eW:(Os.all λp=>p.2.owns)=true) (mK:(Vs.all λp=>p.2.soft)=true) :
  cA P B o (.func (.func f) #[] ca.toArray::args) ((Os++Vs).map λp=>(p.1,some p.2)) val []:=by
 intro R ι c a w hv hm hn Kt Q hK;refine Lg h ho eY gP dK dE KV eW eW mK rfl R ι c a w hv hm hn Kt Q λay v' w' h1 h2 h3=>hK ay v' w' h1 h2 ?_;have hL:da c (Os++Vs):=UR hn;refine h3.ext λk=>?_;show c k=lI c Os k;rw[wM];cases e:ai Os k with
 |none=>rfl
 |some y=>exact hL k y (by rw[jQ,e])
end
section
variable{α:Type}(enc:α->ah)
def dy(l:List α):ah:=l.flatMap enc
structure rE(s:Nat):Prop where
 len:∀ x,(enc x).length=s
 flat:∀ x,∀ v∈enc x,flat v=true
 one:∀ x,∀ v∈enc x,v.oneCell'=true
variable{enc}{s:Nat}
theorem DE(x:α)(l:List α):dy enc (x::l)=enc x++dy enc l:=rfl
theorem Lh(l m:List α):dy enc (l++m)=dy enc l++dy enc m:=by unfold dy;rw[VE]
theorem uc(h:rE enc s):∀ l:List α,(dy enc l).length=l.length*s
 |[]=>by simp[dy]
 |x::l=>by rw[DE,kP,h.len,uc h l,oL,sA,mR]
theorem Li(h:rE enc s)(l:List α):∀ v∈dy enc l,Go.Proofs.YthjhinbiabcfiaaGreatDoor.flat v=true:=λv hv=>by unfold dy at hv;rw[zY]at hv;obtain⟨x,_,hx⟩:=hv;exact h.flat x v hx
theorem gK(h:rE enc s)(l:List α):(dy enc l).all Go.Proofs.YthjhinbiabcfiaaGreatDoor.flat=true:=bd.2 (Li h l)
theorem VF(h:rE enc s):∀(l:List α) (m:Nat),(dy enc l).drop (m*s)=dy enc (l.drop m)
 |l,0=>by simp
 |[],m+1=>by simp[dy]
 |x::l,m+1=>by rw[DE,sA,mR,<-NK,R0 (h.len x),VF h l m,List.drop_succ_cons]
theorem VG(h:rE enc s):∀(l:List α) (m:Nat),(dy enc l).take (m*s)=dy enc (l.take m)
 |l,0=>by simp[dy]
 |[],m+1=>by simp[dy]
 |x::l,m+1=>by rw[DE,sA,mR,List.take_succ_cons,DE,aCN,h.len,Fi,VG h l m,j8 (by rw[h.len];omega)]
theorem PH(h:rE enc s){l:List α}{x:α}(hx:l[i]?=some x):((dy enc l).drop (i*s)).take s=enc x:=by
 rw[VF h];have ak:=(eA.1 hx).1;have e:l.drop i=x::l.drop (i+1):=by
  rw[aCO ak]
  congr 1
  exact(eA.1 hx).2
 rw[e,DE,RZ (h.len x)]
theorem PI:∀(vs a b:ah) (o:Nat),jc (a++b) (a.length+o) vs=a++jc b o vs
 |[],a,b,o=>rfl
 |v::vs,a,b,o=>by unfold jc;rw[VH _ _ o_,Fi,uI,PI vs]
theorem VI:∀(vs a b:ah),a.length=vs.length->jc (a++b) 0 vs=vs++b
 |[],a,b,h=>by rw[kO h];rfl
 |v::vs,[],b,h=>by cases h
 |v::vs,u::a,b,h=>by unfold jc;rw[C3,List.set_cons_zero];have:=PI vs [v] (a++b) 0;rw[PJ]at this;rw[ko];have e:jc (v::(a++b)) 1 vs=v::jc (a++b) 0 vs:=this;rw[e,VI vs a b (by simpa using h)];rfl
theorem aCP(h:rE enc s):∀{l:List α} {i:Nat} {y:α},i<l.length->jc (dy enc l) (i*s) (enc y)=dy enc (l.set i y)
 |x::l,0,y,_=>by rw[kS,DE,VI _ _ _ (by rw[h.len,h.len])];rfl
 |x::l,i+1,y,hi=>by rw[sA,mR,DE];have:=PI (enc y) (enc x) (dy enc l) (i*s);rw[h.len]at this;rw[this,aCP h (by simpa using hi),List.set_cons_succ,DE]
variable{P:j_}
def Iu(P:j_)(t:TypeId):Option Nat:=match P.underlying t,P.info? t with
 |some d,some i=>if d.isRow then some i.size else none
 |_,_=>none
theorem aCQ(h:rE enc s){t:TypeId}(ht:Iu P t=some s){l:List α}{x:α}(hx:l[i]?=some x):dO P t (dy enc l) (i*s)=some (.agg (enc x).toArray):=by
 unfold Iu at ht;split at ht
 ·rename_i d inf h1 h2;split at ht
  ·rename_i hr;injection ht with ht;unfold dO;rw[h1,h2];dsimp only;have ak:=(eA.1 hx).1;have:(i+1)*s<=l.length*s:=eh s ak;rw[sA]at this;rw[ax hr,ht,ax (by rw[Nat.ble_eq,uc h];exact this),PH h hx]
  ·cases ht
 ·cases ht
theorem aMz(h:rE enc s){t:TypeId}(ht:Iu P t=some s){l:List α}{y:α}(hi:i<l.length):e9 P t (dy enc l) (i*s) (.agg (enc y).toArray)=some (dy enc (l.set i y)):=by
 unfold Iu at ht;split at ht
 ·rename_i d inf h1 h2;split at ht
  ·rename_i hr;injection ht with ht;unfold e9;rw[h2];dsimp only;have hc:(Value.agg (enc y).toArray).cells.toList=enc y:=rfl;have hs:(Value.agg (enc y).toArray).cells.size=s:=by show(enc y).toArray.size=s;rw[MR,h.len]
   have:(i+1)*s<=l.length*s:=eh s hi;rw[sA]at this;rw[ax (by simp only[cZ,Nat.ble_eq];refine⟨⟨by rw[hs,ht];simp,by rw[hs,uc h];exact this⟩,bd.2 λv hv=>h.one y v (by rwa[hc]at hv)⟩),hc,aCP h hi]
  ·cases ht
 ·cases ht
end
section
open V3 (dot av cE smul)
theorem fD:rE RV.cs 30 where
 len r:=rfl
 flat r:=RV.nJ r
 one r v hv:=by simp only[RV.cs,RN.cs,fo,ct,iX,iY]at hv;rcases hv with (h|h|h|h|h|h|h|h|h|h)|(h|h|h|h|h|h|h|h|h|h)|(h|h|h|h|h|h|h|h|h|h)<;>subst h<;>rfl
theorem ja:rE RP.cs 40 where
 len r:=rfl
 flat r v hv:=by
  simp only[RP.cs,fo]at hv;rcases hv with h|h
  ·exact RV.nJ _ v h
  ·exact RN.nJ _ v h
 one r v hv:=by
  simp only[RP.cs,fo]at hv;rcases hv with h|h
  ·exact fD.one _ v h
  ·simp only[RN.cs,ct,iX,iY]at h;rcases h with (h|h|h|h|h|h|h|h|h|h)<;>subst h<;>rfl
abbrev dw(l:List RP):ah:=dy RP.cs l
abbrev cV(l:List RV):ah:=dy RV.cs l
theorem v8{l:List RP}{p:RP}(h:l[i]?=some p):dO prog 50 (dw l) (i*40)=some p.v:=aCQ ja k_ h
theorem sV{l:List RV}{p:RV}(h:l[i]?=some p):dO prog 38 (cV l) (i*30)=some p.v:=aCQ fD k_ h
def BX{α:Type}(b:α->Bool):List α->Nat->Int
 |[],_=>-1
 |x::l,i=>if b x then(i:Int)else BX b l (i+1)
theorem PK{α:Type}{b:α->Bool}:∀{l:List α} (i:Nat),(∀ x∈l,b x=false)->BX b l i=-1
 |[],_,_=>rfl
 |x::l,i,h=>by unfold BX;rw[h x (aP ..),PK (i+1) λy hy=>h y (bH _ hy)];rfl
theorem PL{α:Type}{b:α->Bool}:∀{l:List α} {e:Nat} {x:α} (i:Nat),l[e]?=some x->b x=true->(∀(j:Nat) (y:α),j<e->l[j]?=some y->b y=false)->BX b l i=((i+e:Nat):Int)
 |[],e,x,i,h,_,_=>by simp at h
 |y::l,0,x,i,h,hx,_=>by simp at h;subst h;unfold BX;rw[hx];rfl
 |y::l,e+1,x,i,h,hx,hb=>by unfold BX;rw[hb 0 y o_ rfl,PL (i+1) (by simpa using h) hx λj z hj hz=>hb (j+1) z o_ (by simpa using hz)];simp;omega
theorem F7{α:Type}(b:α->Bool):∀(l:List α),(∀ x∈l,b x=false)\/∃(e:Nat) (x:α),l[e]?=some x/\b x=true/\∀(j:Nat) (y:α),j<e->l[j]?=some y->b y=false
 |[]=>.inl n_
 |x::l=>by
  cases hx:b x with
  |true=>exact .inr ⟨0,x,rfl,hx,λj y hj=>by omega⟩
  |false=>
   rcases F7 b l with h|⟨e,y,h1,h2,h3⟩
   ·refine .inl λy hy=>?_;rcases ct.1 hy with rfl|hy
    ·exact hx
    ·exact h y hy
   ·refine .inr ⟨e+1,y,by simpa using h1,h2,λj z hj hz=>?_⟩;cases j with
    |zero=>simp at hz;subst hz;exact hx
    |succ j=>exact h3 j z o_ (by simpa using hz)
theorem aCR{b:α->Bool}{l:List α}:decide (BX b l 0>=0)=l.any b:=by
 rcases F7 b l with h|⟨e,x,h1,h2,h3⟩
 ·rw[PK 0 h];have:l.any b=false:=by rw[JI];intro x hx;rw[h x hx];simp
  rw[this];rfl
 ·rw[PL 0 h1 h2 h3];have:l.any b=true:=rZ.2 ⟨x,cH h1,h2⟩;rw[this,zW];omega
section
variable{Bs:aa}{g:FuncId}{ps:List RP}{caps:ah}{b:RP->Bool}
def VJ(g:FuncId):Value:=.func (.func g) #[] #[aX 1]
def zZ(g:FuncId)(n i:Nat):aN:=[(8,vI i),(6,sl 0 n),(7,vI n),(0,sl 0 n),(1,VJ g)]
def ue(ps:List RP)(caps:ah):aH:=[(0,.view (dw ps)),(1,.view caps)]
noncomputable def ifS{p:RP}{b:Bool}(hc:fN prog g=true)(jP:caps.all flat=true)(hi:i<ps.length)(hp:ps[i]?=some p)(h:bw prog g [.p p.v,.q caps] (.bool b))(more:bL prog Bs 19):bL prog Bs 19:=
 .lt 9 i ps.length true (aE hi)::.cM f179 14 0 ps.length i 40 hi k_::.ld f179 15 50 0 (i*40) (.view (dw ps)) p.v rfl (v8 hp) k_::
  .step 16 (aA f179 16) [VJ g,p.v] [(1,some (.view caps))] (.bool b) [] (aLq (vs:=[p.v]) (ca:=[aX 1]) (x:=.tmp 11) h (.p rfl (.q (x:=.view caps) rfl jP .nil)) k_ hc rfl)::more
theorem aMA{p:RP}(hc:fN prog g=true)(jP:caps.all flat=true)(hi:i<ps.length)(hp:ps[i]?=some p)(h:bw prog g [.p p.v,.q caps] a_)(h63:ps.length<9223372036854775807):
  af prog Bs 19 (aF (ag f179 0)) (zZ g ps.length i) (ue ps caps) 2 ⟨.normal,zZ g ps.length (i+1),ue ps caps,2⟩:=
 aC (ifS hc jP hi hp h [.sum 18 i 1 (i+1) rfl o_])
theorem aMB{p:RP}(hc:fN prog g=true)(jP:caps.all flat=true)(hi:i<ps.length)(hp:ps[i]?=some p)(h:bw prog g [.p p.v,.q caps] b_):
  af prog Bs 19 (aF (ag f179 0)) (zZ g ps.length i) (ue ps caps) 2 ⟨.ret,[(4,vI i)],ue ps caps,2⟩:=
 aC (ifS hc jP hi hp h [])
theorem aMC:af prog Bs 19 (aF (ag f179 0)) (zZ g ps.length ps.length) (ue ps caps) 2 ⟨.exit 0,[],ue ps caps,2⟩:=
 aC [.lt 9 ps.length ps.length false s_]
theorem cC{v:i_}(hf:prog.funcs[f]?=some fn)(hl:(l.all aL.ok)=true)(N:Nat)(rs:∀ w,bL prog (aa.at w) N)(hN:N=(eG 0 l).length+(fn.ntmps-(eG 0 l).length):=by kernel_rfl)(h:∀ w,oQ (gO (P:=prog) fn 100 (eG 0 l) (ji 0 l) (jB 0 l) (rs w)) []=oR (gO fn 100 (eG 0 l) (ji 0 l) (jB 0 l) (rs w)) v []:=by intro _;kernel_rfl)(hv:flat v=true:=by kernel_rfl):bw prog f l v:=iT mixed hf hl 100 hN rs h hv
theorem aMD(hc:fN prog g=true)(jP:caps.all flat=true)(h63:ps.length<9223372036854775807)(h:∀ p∈ps,bw prog g [.p p.v,.q caps] (.bool (b p))):bw prog 179 [.r ps.length (dw ps),.f g caps] (.int .i64 (BX b ps 0)):=by
 have au:([aL.r ps.length (dw ps),.f g caps].all aL.ok)=true:=by simp only[dT,eC,aL.ok,gK ja,jP,z7]
 have qI:∀(B:aa) e,e<=ps.length->(∀ j y,j<e->ps[j]?=some y->b y=false)->∀ i,i<e->af prog B 19 (aF (ag f179 0)) (zZ g ps.length i) (ue ps caps) 2 ⟨.normal,zZ g ps.length (i+1),ue ps caps,2⟩:=λB e he hb i hi=>by
  have ak:i<ps.length:=by omega
  have hp:ps[i]?=some ps[i]:=aT ak;have hh:=h ps[i] (cY ak);rw[hb i ps[i] hi hp]at hh;exact aMA hc jP ak hp hh h63
 rcases F7 b ps with hn|⟨e,x,h1,h2,h3⟩
 ·rw[PK 0 hn];have lo:∀ B:aa,af prog B 19 (.block 0 (ag f179 0)) (zZ g ps.length 0) (ue ps caps) 2 ⟨.normal,[],ue ps caps,2⟩:=λB=>
   bO (id:=0) (ch ps.length (λi=>zZ g ps.length i) (λ_=>ue ps caps) (λi k _=>Iff.rfl) (qI B ps.length (bA _) λj y _ hy=>hn y (cH hy)) aMC n_)
  exact cC func179 au 19 (λw=>[.code 0 _ _ _ _ _ (lo _)])
 ·have ak:=(eA.1 h1).1;have hh:=h x (cH h1);rw[h2]at hh;rw[PL 0 h1 h2 h3,ko];have lo:∀ B:aa,af prog B 19 (.block 0 (ag f179 0)) (zZ g ps.length 0) (ue ps caps) 2 ⟨.ret,[(4,vI e)],ue ps caps,2⟩:=λB=>
   bO (id:=0) (ch e (λi=>zZ g ps.length i) (λ_=>ue ps caps) (λi k _=>Iff.rfl) (qI B e o_ h3) (aMB hc jP ak h1 hh) n_)
  exact cC func179 au 19 (λw=>[.code 0 _ _ _ _ _ (lo _)])
theorem aME(hc:fN prog g=true)(jP:caps.all flat=true)(h63:ps.length<9223372036854775807)(h:∀ p∈ps,bw prog g [.p p.v,.q caps] (.bool (b p))):bw prog 139 [.r ps.length (dw ps),.f g caps] (.bool (ps.any b)):=by
 have au:([aL.r ps.length (dw ps),.f g caps].all aL.ok)=true:=by simp only[dT,eC,aL.ok,gK ja,jP,z7]
 rw[<-aCR];exact cC func139 au 9 (λw=>[.cR f139 7 [sl 0 ps.length,VJ g] (aMD hc jP h63 h) (.w (x:=.view (dw ps)) rfl (gK ja ps) (λh=>by rw[kO h];rfl) (.f (x:=.view caps) rfl jP .nil))])
end
def bB(ps:List (HS K)):ah:=dw (ps.map db)
def fO(ps:List (HS K)):aL:=.r ps.length (bB ps)
theorem dx(ps:List (HS K)):(bB ps).all flat=true:=gK ja _
theorem z8(h:ps[i]?=some p):dO prog 50 (bB ps) (i*40)=some (dH p):=v8 (by rw[qW,h];rfl)
theorem jm(h:ps.length=0):bB ps=[]:=by rw[kO h];rfl
def aG(vs:List (V3 K)):ah:=cV (vs.map cr)
def k6(vs:List (V3 K)):aL:=.r vs.length (aG vs)
theorem cW(vs:List (V3 K)):(aG vs).all flat=true:=gK fD _
theorem gD{vs:List (V3 K)}{v:V3 K}(h:vs[i]?=some v):dO prog 38 (aG vs) (i*30)=some (aZ v):=sV (by rw[qW,h];rfl)
theorem oB{vs:List (V3 K)}(h:vs.length=0):aG vs=[]:=by rw[kO h];rfl
open Classical in
theorem VK{g:FuncId}{caps:ah}{b:HS K->Bool}(hc:fN prog g=true)(jP:caps.all flat=true)(h63:ps.length<9223372036854775807)(h:∀ p∈ps,bw prog g [.p (dH p),.q caps] (.bool (b p))):
  bw prog 139 [fO ps,.f g caps] (.bool (ps.any b)):=by
 have:=aME (g:=g) (caps:=caps) (ps:=ps.map db) (b:=λr=>if hr:∃ p∈ps,db p=r then b hr.choose else false) hc jP (by rw[dr];exact h63) (λr hr=>by obtain⟨p,hp,rfl⟩:=dj.1 hr;have hex:∃ q∈ps,db q=db p:=⟨p,hp,rfl⟩;rw[dif_pos hex];have e:hex.choose=p:=PE hex.choose_spec.2;rw[e];exact h p hp)
 rw[dr]at this;have e:(ps.map db).any (λr=>if hr:∃ p∈ps,db p=r then b hr.choose else false)=ps.any b:=by
  rw[List.any_map];have:∀ l:List (HS K),(∀ p∈l,p∈ps)->l.any ((λr=>if hr:∃ p∈ps,db p=r then b hr.choose else false)∘db)=l.any b:=by
   intro l;induction l with
   |nil=>intro _;rfl
   |cons p l ih=>
    intro hl;rw[List.any_cons,List.any_cons,ih λq hq=>hl q (bH _ hq)];refine cL (·||l.any b) ?_;have hex:∃ q∈ps,db q=db p:=⟨p,hl p (aP ..),rfl⟩;show(if hr:∃ q∈ps,db q=db p then b hr.choose else false)=b p;rw[dif_pos hex,PE hex.choose_spec.2]
  exact this ps λp hp=>hp
 rw[e]at this;exact this
theorem aMF{v:V3 K}{n:Nat}(hp:bM m p)(hv:aw n v)(cN:4*(3*(m+n)+14)+20<=az):bw prog 208 [.p (dH p),.q (cr v).cs] (.bool (decide (OF.aD (dot p.n v)>0))):=by have h1:=oz hp.1 hv (show 3*(m+n)+16<az by omega);have h2:=nL (hp.1.dot hv) cN;generalize OF.aD (dot p.n v)=z at *;exact F6 func208 10 (λ_=>[h1.at 7,h2.at 8])
theorem aMG{v:V3 K}{n:Nat}(hp:bM m p)(hv:aw n v)(cN:4*(3*(m+n)+14+m)+30<=az)(h:p.n≠0):bw prog 186 [.p (dH p),.q (cr v).cs] (.bool (decide (OF.aD (dot p.n v-p.d)>=0))):=
 F6 func186 8 (λ_=>[(Le hp hv cN h).at 6])
theorem aMH{q:HS K}{n:Nat}(hp:bM m p)(hq:bM n q)(hm:16*m+80<=az)(hn:16*n+80<=az)(jL:p.n≠0)(zX:q.n≠0):bw prog 188 [.p (dH q),.q (db p).cs] (.bool (decide (canon p=canon q))):=
 F6 func188 7 (λ_=>[(VD hp hq hm hn jL zX).at 6])
def DF(ps:List (HS K))(v:V3 K):Bool:=!decide (v=0)&&!ps.any λp=>decide (OF.aD (dot p.n v)>0)
theorem aMI{v:V3 K}{n:Nat}(cd:∀ p∈ps,bM m p)(hv:aw n v)(cN:4*(3*(m+n)+14)+20<=az)(h63:ps.length<9223372036854775807):bw prog 180 [fO ps,.p (aZ v)] (.bool (DF ps v)):=by
 have hz:=ub hv o_;have au:([fO ps,.p (aZ v)].all aL.ok)=true:=by simp only[dT,eC,fO,aL.ok,dx,gp,jy];rfl
 unfold DF;by_cases h:v=0
 ·rw[aE h]at hz ⊢;exact cC func180 au 14 (λ_=>[hz.at 6])
 ·rw[aO h]at hz ⊢;have hc:=VK (g:=208) (caps:=(cr v).cs) (ps:=ps) (b:=λp=>decide (OF.aD (dot p.n v)>0)) k_ (bd.2 (RV.nJ _)) h63 λp hp=>aMF (cd p hp) hv cN;generalize (ps.any λp=>decide (OF.aD (dot p.n v)>0))=t at *;exact cC func180 au 14 (λ_=>[hz.at 6,.cR f180 11 [sl 0 ps.length,.func (.func 208) #[] #[aX 1]] hc (.w (x:=.view (bB ps)) rfl (dx ps) jm (.f (x:=.aI (cr v).cs 38) rfl (bd.2 (RV.nJ _)) .nil))])
def qJ(ps:List (HS K))(u:V3 K):Bool:=DF ps u||DF ps (-u)
def qK(p:HS K)(l:List (HS K)):Bool:=l.any λq=>!decide (av p.n q.n=0)
def uf:List (HS K)->Nat->Bool
 |_,0=>false
 |l,i+1=>match l[i]? with
  |some p=>uf l i||qK p (l.take i)
  |none=>uf l i
section
variable{Bs:aa}{ps:List (HS K)}
def BZ(n i:Nat)(s:Bool)(j:Nat):aN:=[(20,vI j),(18,sl 0 i),(19,vI i),(0,sl 0 n),(5,aX 1),(3,.bool s)]
def sW(ps:List (HS K))(p:HS K):aH:=[(0,.view (bB ps)),(1,.aI (db p).cs 50)]
theorem aCS(p:HS K)(m:Nat):∀ x∈sW ps p,fe m x.2:=λx hx=>by
 simp only[sW,ct,iX,iY]at hx;rcases hx with rfl|rfl
 ·exact λv hv=>gB (bd.1 (dx ps) v hv)
 ·exact λv hv=>gB (ja.flat _ v hv)
noncomputable def Iv{q:HS K}(hj:j<i)(hq:ps[j]?=some q)(cd:∀ p∈ps,bM m p)(hp:bM m p)(hm:100*m+1000<=az)(s:Bool)(more:bL prog Bs 47):bL prog Bs 47:=
 .lt 21 j i true (aE hj)::.cM f142 22 0 i j 40 hj k_::.ld f142 23 50 0 (j*40) (.view (bB ps)) (dH q) rfl (z8 hq) k_::
  (sU hp.1 (cd q (cH hq)).1 o_).at 28::
  (if s then more else(ub (hp.1.av (cd q (cH hq)).1) o_).at 32::more)
theorem PM{u:V3 K}{n:Nat}(cd:∀ p∈ps,bM m p)(hu:aw n u)(cN:4*(3*(m+n)+14)+20<=az)(h63:ps.length<9223372036854775807){x:m_}(ho:dC o.op=some x):
  cA prog Bs o [.func (.func 180) #[] #[],sl 0 ps.length,aZ u] [(0,some (.view (bB ps)))] (.bool (DF ps u)) []:=
 pb (aMI cd hu cN h63) (.w (x:=.view (bB ps)) rfl (dx ps) jm (.p k_ .nil)) ho k_ k_
theorem aMJ{q:HS K}(hj:j<i)(hq:ps[j]?=some q)(cd:∀ p∈ps,bM m p)(hp:bM m p)(hm:100*m+1000<=az)(h63:ps.length<9223372036854775807)(lC:i<=ps.length)(s:Bool)(hb:qJ ps (av p.n q.n)=false):
  af prog Bs 47 (aF (ag f142 2)) (BZ ps.length i s j) (sW ps p) 2 ⟨.normal,BZ ps.length i (s||!decide (av p.n q.n=0)) (j+1),sW ps p,2⟩:=by
 have VL:=cd q (cH hq);have hc:=hp.1.av VL.1;unfold qJ at hb;rw[MY]at hb;have o1:=λBs=>PM (Bs:=Bs) (x:=.func 180) (o:=aA f142 37) cd hc o_ h63 k_;have o2:=λBs=>PM (Bs:=Bs) (x:=.func 180) (o:=aA f142 42) cd hc.neg o_ h63 k_;rw[hb.1]at o1;rw[hb.2]at o2;have ng:=Is hc o_;have hs:∀ d:Bool,(s||!d)=(if s then true else !d):=λd=>by cases s<;>rfl
 cases s
 ·exact qZ mixed 100 (fC:=4) (Iv hj hq cd hp hm false [.step 37 _ _ _ _ _ (o1 _),ng.at 41,.step 42 _ _ _ _ _ (o2 _),.sum 44 j 1 (j+1) rfl o_]) k_ rfl k_ (aCS _ 2) k_
 ·exact qZ mixed 100 (fC:=4) (Iv hj hq cd hp hm true [.step 37 _ _ _ _ _ (o1 _),ng.at 41,.step 42 _ _ _ _ _ (o2 _),.sum 44 j 1 (j+1) rfl o_]) k_ rfl k_ (aCS _ 2) k_
theorem aMK{q:HS K}(hj:j<i)(hq:ps[j]?=some q)(cd:∀ p∈ps,bM m p)(hp:bM m p)(hm:100*m+1000<=az)(h63:ps.length<9223372036854775807)(s:Bool)(hb:qJ ps (av p.n q.n)=true):
  af prog Bs 47 (aF (ag f142 2)) (BZ ps.length i s j) (sW ps p) 2 ⟨.ret,[(2,.bool false)],sW ps p,4⟩:=by
 have VL:=cd q (cH hq);have hc:=hp.1.av VL.1;unfold qJ at hb;have o1:=λBs=>PM (Bs:=Bs) (x:=.func 180) (o:=aA f142 37) cd hc o_ h63 k_;have o2:=λBs=>PM (Bs:=Bs) (x:=.func 180) (o:=aA f142 42) cd hc.neg o_ h63 k_;have ng:=Is hc o_;cases h1:DF ps (av p.n q.n)with
 |true=>
  rw[h1]at o1;cases s
  ·exact aC (Iv hj hq cd hp hm false [.step 37 _ _ _ _ _ (o1 _)])
  ·exact aC (Iv hj hq cd hp hm true [.step 37 _ _ _ _ _ (o1 _)])
 |false=>
  rw[h1,xf]at hb;rw[h1]at o1;rw[hb]at o2;cases s
  ·exact aC (Iv hj hq cd hp hm false [.step 37 _ _ _ _ _ (o1 _),ng.at 41,.step 42 _ _ _ _ _ (o2 _)])
  ·exact aC (Iv hj hq cd hp hm true [.step 37 _ _ _ _ _ (o1 _),ng.at 41,.step 42 _ _ _ _ _ (o2 _)])
theorem aML(s:Bool):af prog Bs 47 (aF (ag f142 2)) (BZ ps.length i s i) (sW ps p) 2 ⟨.exit 2,[(3,.bool s)],sW ps p,2⟩:=
 aC [.lt 21 i i false s_]
theorem aMM{q:HS K}(hq:ps[j]?=some q):qK p (ps.take (j+1))=(qK p (ps.take j)||!decide (av p.n q.n=0)):=by unfold qK;rw[sY,hq,List.any_append];simp
theorem aCT(lC:i<=ps.length)(cd:∀ p∈ps,bM m p)(hp:bM m p)(hm:100*m+1000<=az)(h63:ps.length<9223372036854775807)(s:Bool):
  af prog Bs 47 (.block 2 (ag f142 2)) (BZ ps.length i s 0) (sW ps p) 2 (if(ps.take i).any (λq=>qJ ps (av p.n q.n))=true then⟨.ret,[(2,.bool false)],sW ps p,4⟩else⟨.normal,[(3,.bool (s||qK p (ps.take i)))],sW ps p,2⟩):=by
 have at':∀{j:Nat},j<i->(ps.take i)[j]?=ps[j]?:=λhj=>by rw[uG,ax hj]
 have qI:∀ e,e<=i->(∀(j:Nat) y,j<e->(ps.take i)[j]?=some y->qJ ps (av p.n y.n)=false)->∀ j,j<e->
   af prog Bs 47 (aF (ag f142 2)) (BZ ps.length i (s||qK p (ps.take j)) j) (sW ps p) 2 ⟨.normal,BZ ps.length i (s||qK p (ps.take (j+1))) (j+1),sW ps p,2⟩:=λe he hb j hj=>by
  have hq:ps[j]?=some ps[j]:=aT o_;have:=aMJ (Bs:=Bs) (p:=p) (show j<i by omega) hq cd hp hm h63 lC (s||qK p (ps.take j)) (hb j _ hj (by rw[at' o_];exact hq));rwa[Bool.or_assoc,<-aMM hq]at this
 have e0:(s||qK p (ps.take 0))=s:=by simp[qK]
 rcases F7 (λq:HS K=>qJ ps (av p.n q.n)) (ps.take i)with hn|⟨e,q,h1,h2,h3⟩
 ·have:¬(ps.take i).any (λq=>qJ ps (av p.n q.n))=true:=by rw[PN,JI];intro x hx;rw[hn x hx];simp
  rw[ao this];have:=ch (P:=prog) (B:=Bs) (N:=47) i (λj=>BZ ps.length i (s||qK p (ps.take j)) j) (λ_=>sW ps p) (λi k _=>Iff.rfl) (qI i (bA _) λj y _ hy=>hn y (cH hy)) (aML _) n_;rw[e0]at this;exact bO (id:=2) this
 ·have ha:(ps.take i).any (λq=>qJ ps (av p.n q.n))=true:=rZ.2 ⟨q,cH h1,h2⟩;rw[ax ha];have hei:e<i:=by have:=(eA.1 h1).1;rw[jr]at this;omega
  have:=ch (P:=prog) (B:=Bs) (N:=47) e (λj=>BZ ps.length i (s||qK p (ps.take j)) j) (λ_=>sW ps p) (λi k _=>Iff.rfl) (qI e o_ h3) (aMK hei (by rw[<-at' hei];exact h1) cd hp hm h63 _ h2) n_;rw[e0]at this;exact bO (id:=2) this
def F8(ps:List (HS K))(i:Nat):Bool:=match ps[i]? with
 |some p=>(ps.take i).any λq=>qJ ps (av p.n q.n)
 |none=>false
def PO(ps:List (HS K))(n:Nat):Bool:=(List.range n).any (F8 ps)
theorem PQ(h:ps[i]?=some p):F8 ps i=(ps.take i).any λq=>qJ ps (av p.n q.n):=by unfold F8;rw[h]
theorem aCU(h:ps[i]?=some p):uf ps (i+1)=(uf ps i||qK p (ps.take i)):=by show(match ps[i]? with|some p=>uf ps i||qK p (ps.take i)|none=>uf ps i)=_;rw[h]
def ug(ps:List (HS K)):Bool:=!PO ps ps.length&&uf ps ps.length
def Aa(n i:Nat)(s:Bool):aN:=[(11,vI i),(9,sl 0 n),(10,vI n),(0,sl 0 n),(3,.bool s)]
def rF(ps:List (HS K)):aH:=[(0,.view (bB ps))]
theorem aMN(m:Nat):∀ x∈rF ps,fe m x.2:=λx hx=>by simp only[rF,ct,iX,iY]at hx;subst hx;exact λv hv=>gB (bd.1 (dx ps) v hv)
noncomputable def coS(hi:i<ps.length)(hp:ps[i]?=some p)(more:bL prog Bs 47):bL prog Bs 47:=
 .lt 12 i ps.length true (aE hi)::.cM f142 14 0 ps.length i 40 hi k_::.ld f142 15 50 0 (i*40) (.view (bB ps)) (dH p) rfl (z8 hp) k_::.upto f142 18 0 ps.length i 40 o_ k_::more
theorem aMO(hi:i<ps.length)(hp:ps[i]?=some p)(cd:∀ p∈ps,bM m p)(hm:100*m+1000<=az)(h63:ps.length<9223372036854775807)(s:Bool)(hb:(ps.take i).any (λq=>qJ ps (av p.n q.n))=false):
  af prog Bs 47 (aF (ag f142 0)) (Aa ps.length i s) (rF ps) 1 ⟨.normal,Aa ps.length (i+1) (s||qK p (ps.take i)),rF ps,1⟩:=by
 have lo:=aCT (Bs:=Bs) (show i<=ps.length by omega) cd (cd p (cH hp)) hm h63 s;rw[hb,ao s_]at lo;generalize qK p (ps.take i)=t at *;exact qZ mixed 100 (fC:=2) (coS hi hp [.code 2 _ _ _ _ _ lo,.sum 45 i 1 (i+1) rfl o_]) k_ rfl k_ (aMN 1) k_
theorem aMP(hi:i<ps.length)(hp:ps[i]?=some p)(cd:∀ p∈ps,bM m p)(hm:100*m+1000<=az)(h63:ps.length<9223372036854775807)(s:Bool)(hb:(ps.take i).any (λq=>qJ ps (av p.n q.n))=true):
  af prog Bs 47 (aF (ag f142 0)) (Aa ps.length i s) (rF ps) 1 ⟨.ret,[(2,.bool false)],rF ps,4⟩:=by
 have lo:=aCT (Bs:=Bs) (show i<=ps.length by omega) cd (cd p (cH hp)) hm h63 s;rw[ax hb]at lo;exact aC (coS hi hp [.code 2 _ _ _ _ _ lo])
theorem aMQ(s:Bool):af prog Bs 47 (aF (ag f142 0)) (Aa ps.length ps.length s) (rF ps) 1 ⟨.exit 0,[(3,.bool s)],rF ps,1⟩:=
 aC [.lt 12 ps.length ps.length false s_]
theorem aMR(cd:∀ p∈ps,bM m p)(hm:100*m+1000<=az)(h63:ps.length<9223372036854775807):bw prog 142 [fO ps] (.bool (ug ps)):=by
 have au:([fO ps].all aL.ok)=true:=by simp only[dT,eC,fO,aL.ok,dx,gp]
 have qI:∀(B:aa) e,e<=ps.length->(∀(j:Nat) y,j<e->(List.range ps.length)[j]?=some y->F8 ps y=false)->∀ i,i<e->
   af prog B 47 (aF (ag f142 0)) (Aa ps.length i (uf ps i)) (rF ps) 1 ⟨.normal,Aa ps.length (i+1) (uf ps (i+1)),rF ps,1⟩:=λB e he hb i hi=>by
  have ak:i<ps.length:=by omega
  have hp:ps[i]?=some ps[i]:=aT ak;rw[aCU hp];exact aMO ak hp cd hm h63 _ (by rw[<-PQ hp];exact hb i i hi (Lj ak))
 unfold ug PO;rcases F7 (F8 ps) (List.range ps.length)with hn|⟨e,y,h1,h2,h3⟩
 ·have ha:(List.range ps.length).any (F8 ps)=false:=by rw[JI];intro x hx;rw[hn x hx];simp
  rw[ha];have lo:∀ B:aa,af prog B 47 (.block 0 (ag f142 0)) (Aa ps.length 0 false) (rF ps) 1 ⟨.normal,[(3,.bool (uf ps ps.length))],rF ps,1⟩:=λB=>
   bO (id:=0) (ch ps.length (λi=>Aa ps.length i (uf ps i)) (λ_=>rF ps) (λi k _=>Iff.rfl) (qI B ps.length (bA _) λj y _ hy=>hn y (cH hy)) (aMQ _) n_)
  generalize uf ps ps.length=t at *;exact cC func142 au 47 (λw=>[.code 0 _ _ _ _ _ (lo _)])
 ·have ha:(List.range ps.length).any (F8 ps)=true:=rZ.2 ⟨y,cH h1,h2⟩;rw[ha];have ak:e<ps.length:=by have:=(eA.1 h1).1;rwa[yY]at this
  have hy:y=e:=by rw[Lj ak]at h1;injection h1 with h1;exact h1.symm
  subst hy;have hp:ps[y]?=some ps[y]:=aT ak;have lo:∀ B:aa,af prog B 47 (.block 0 (ag f142 0)) (Aa ps.length 0 false) (rF ps) 1 ⟨.ret,[(2,.bool false)],rF ps,4⟩:=λB=>
   bO (id:=0) (ch y (λi=>Aa ps.length i (uf ps i)) (λ_=>rF ps) (λi k _=>Iff.rfl) (qI B y o_ h3) (aMP ak hp cd hm h63 _ (by rw[<-PQ hp];exact h2)) n_)
  exact cC func142 au 47 (λw=>[.code 0 _ _ _ _ _ (lo _)])
end
end
section
variable{P:j_}{B:aa}{N:Nat}
def VM(o:Oper):Bool:=match o.op with|.nilCheck _=>true|_=>false
theorem aMS(ho:VM o=true)(k off:Nat):cA P B o [.pointer (some ⟨k,off,some 7⟩)] [] (.pointer (some ⟨k,off,some 7⟩)) []:=by
 unfold VM at ho;split at ho
 ·rename_i x bY;refine iC.step λι c ρ w aQ hm hn=>?_;rw[bY]at aQ;obtain⟨u,hu,hc⟩:=nB aQ;have hu:ρ x=u:=by simpa[Op.operands]using hu
  obtain⟨b,oo,cap,hb,he⟩:=hc.wI rfl;refine⟨ι,.pointer (some ⟨b,oo+off,none⟩),w,Map.le.refl _,.ptr hb,hm,.inl ?_⟩;simp only[execOp,bY,hu,he];simp[go_sem]
 ·cases ho
def aU.cq(fn:Func)(key k off:Nat)(ho:VM (aA fn key)=true):aU P B N:=.step key (aA fn key) [.pointer (some ⟨k,off,some 7⟩)] [] (.pointer (some ⟨k,off,some 7⟩)) [] (aMS ho k off)
end
section
open V3 (dot av cE smul)
def VN:Option K->ah
 |some x=>(cO x).cs
 |none=>zN.cs
def rG(s:e7 K)(b d:V3 K):ah:=VN s.lo++(VN s.hi++(.bool s.lo.isSome::.bool s.hi.isSome::((cr b).cs++(cr d).cs)))
def rH(s:e7 K)(a b:K):e7 K:=
 if OF.aD a=0 then s
 else if OF.aD a>0 then(match s.hi with|some h=>if OF.aD (b*a⁻¹-h)<0 then⟨s.lo,some (b*a⁻¹)⟩else s|none=>⟨s.lo,some (b*a⁻¹)⟩)
 else(match s.lo with|some l=>if OF.aD (b*a⁻¹-l)>0 then⟨some (b*a⁻¹),s.hi⟩else s|none=>⟨some (b*a⁻¹),s.hi⟩)
def aCV(s:e7 K):Bool:=match s.lo,s.hi with
 |some l,some h=>decide (OF.aD (l-h)<0)
 |_,_=>true
def sZ(s:e7 K)(a b:K):Bool:=if OF.aD a=0 then decide (OF.aD b>=0)else aCV (rH s a b)
def nM(n:Nat)(x:Option K):Prop:=∀ y,x=some y->Sz n y
theorem aMT{s:e7 K}{b d:V3 K}{z:Nat}(hp:bM m p)(hb:aw q b)(hd:aw q d)(eL:nM z s.lo)(iD:nM z s.hi)(hn:1000*(m+q)+100*z+10000<=az):
  xO prog 209 20 [aX 6,dH p] [(6,.aI (rG s b d) 191)] [] (.bool (sZ s (dot p.n d) (p.d-dot p.n b))) [(6,.aI (rG (rH s (dot p.n d) (p.d-dot p.n b)) b d) 191)]:=by
 have iO:Sz (3*(m+q)+14) (dot p.n d):=hp.1.dot hd;have kR:Sz (m+(3*(m+q)+14)+1) (p.d-dot p.n b):=hp.2.sub (hp.1.dot hb);have d1:=oz hp.1 hd o_;have d2:=oz hp.1 hb o_;have sb:=BB hp.2 (hp.1.dot hb) o_;have oC:=nL iO o_;have sgb:=nL kR o_;unfold sZ rH;generalize p.d-dot p.n b=y at *;generalize dot p.n d=a at *;obtain⟨lo,hi⟩:=s;dsimp only at eL iD ⊢;by_cases nE:a=0
 ·have e:OF.aD a=0:=(OF.fp a).2 nE;rw[ax e,ax e];have dv:=aKW kR o_;rw[<-nE]at dv;cases lo<;>cases hi<;>exact oA mixed func209 100 (N:=116) k_ (λ_=>[.cq f209 12 6 0 k_,d1.at 15,.cq f209 21 6 0 k_,d2.at 24,sb.at 25,dv.at 29,sgb.at 36]) (λ_=>k_)
 ·have e:OF.aD a≠0:=λh=>nE ((OF.fp a).1 h);rw[ao e,ao e];have dv:=Ie nE kR iO o_;have ht:=Sz.div nE kR iO;generalize y*a⁻¹=t at *;by_cases h:OF.aD a>0
  ·rw[ax h];rcases lo with _|lo
   ·rcases hi with _|hi
    ·exact oA mixed func209 100 (N:=116) k_ (λ_=>[.cq f209 12 6 0 k_,d1.at 15,.cq f209 21 6 0 k_,d2.at 24,sb.at 25,dv.at 29,oC.at 40,.rw 41 (.bool (decide (OF.aD a>0))) b_ (by rw[aE h]),.cq f209 44 6 0 k_,.cq f209 61 6 0 k_,.cq f209 63 6 0 k_,.cq f209 93 6 0 k_]) (λ_=>k_)
    ·dsimp only;by_cases hc:OF.aD (t-hi)<0
     ·rw[ax hc];exact oA mixed func209 100 (N:=116) k_ (λ_=>[.cq f209 12 6 0 k_,d1.at 15,.cq f209 21 6 0 k_,d2.at 24,sb.at 25,dv.at 29,oC.at 40,.rw 41 (.bool (decide (OF.aD a>0))) b_ (by rw[aE h]),.cq f209 44 6 0 k_,.cq f209 51 6 0 k_,(kH ht (iD _ rfl) o_).at 54,.rw 55 (.bool (decide (OF.aD (t-hi)<0))) b_ (by rw[aE hc]),.cq f209 61 6 0 k_,.cq f209 63 6 0 k_,.cq f209 93 6 0 k_]) (λ_=>k_)
     ·rw[ao hc];exact oA mixed func209 100 (N:=116) k_ (λ_=>[.cq f209 12 6 0 k_,d1.at 15,.cq f209 21 6 0 k_,d2.at 24,sb.at 25,dv.at 29,oC.at 40,.rw 41 (.bool (decide (OF.aD a>0))) b_ (by rw[aE h]),.cq f209 44 6 0 k_,.cq f209 51 6 0 k_,(kH ht (iD _ rfl) o_).at 54,.rw 55 (.bool (decide (OF.aD (t-hi)<0))) a_ (by rw[aO hc]),oC.at 67,.rw 68 (.bool (decide (OF.aD a<0))) a_ (by rw[aO o_]),.cq f209 93 6 0 k_]) (λ_=>k_)
   ·rcases hi with _|hi
    ·exact oA mixed func209 100 (N:=116) k_ (λ_=>[.cq f209 12 6 0 k_,d1.at 15,.cq f209 21 6 0 k_,d2.at 24,sb.at 25,dv.at 29,oC.at 40,.rw 41 (.bool (decide (OF.aD a>0))) b_ (by rw[aE h]),.cq f209 44 6 0 k_,.cq f209 61 6 0 k_,.cq f209 63 6 0 k_,.cq f209 93 6 0 k_,.cq f209 99 6 0 k_,.cq f209 106 6 0 k_,.cq f209 110 6 0 k_,(kH (eL _ rfl) ht o_).at 113]) (λ_=>k_)
    ·dsimp only;by_cases hc:OF.aD (t-hi)<0
     ·rw[ax hc];exact oA mixed func209 100 (N:=116) k_ (λ_=>[.cq f209 12 6 0 k_,d1.at 15,.cq f209 21 6 0 k_,d2.at 24,sb.at 25,dv.at 29,oC.at 40,.rw 41 (.bool (decide (OF.aD a>0))) b_ (by rw[aE h]),.cq f209 44 6 0 k_,.cq f209 51 6 0 k_,(kH ht (iD _ rfl) o_).at 54,.rw 55 (.bool (decide (OF.aD (t-hi)<0))) b_ (by rw[aE hc]),.cq f209 61 6 0 k_,.cq f209 63 6 0 k_,.cq f209 93 6 0 k_,.cq f209 99 6 0 k_,.cq f209 106 6 0 k_,.cq f209 110 6 0 k_,(kH (eL _ rfl) ht o_).at 113]) (λ_=>k_)
     ·rw[ao hc];exact oA mixed func209 100 (N:=116) k_ (λ_=>[.cq f209 12 6 0 k_,d1.at 15,.cq f209 21 6 0 k_,d2.at 24,sb.at 25,dv.at 29,oC.at 40,.rw 41 (.bool (decide (OF.aD a>0))) b_ (by rw[aE h]),.cq f209 44 6 0 k_,.cq f209 51 6 0 k_,(kH ht (iD _ rfl) o_).at 54,.rw 55 (.bool (decide (OF.aD (t-hi)<0))) a_ (by rw[aO hc]),oC.at 67,.rw 68 (.bool (decide (OF.aD a<0))) a_ (by rw[aO o_]),.cq f209 93 6 0 k_,.cq f209 99 6 0 k_,.cq f209 106 6 0 k_,.cq f209 110 6 0 k_,(kH (eL _ rfl) (iD _ rfl) o_).at 113]) (λ_=>k_)
  ·rw[ao h];rcases lo with _|lo
   ·rcases hi with _|hi
    ·exact oA mixed func209 100 (N:=116) k_ (λ_=>[.cq f209 12 6 0 k_,d1.at 15,.cq f209 21 6 0 k_,d2.at 24,sb.at 25,dv.at 29,oC.at 40,.rw 41 (.bool (decide (OF.aD a>0))) a_ (by rw[aO h]),oC.at 67,.rw 68 (.bool (decide (OF.aD a<0))) b_ (by rw[aE o_]),.cq f209 71 6 0 k_,.cq f209 88 6 0 k_,.cq f209 90 6 0 k_,.cq f209 93 6 0 k_,.cq f209 99 6 0 k_]) (λ_=>k_)
    ·exact oA mixed func209 100 (N:=116) k_ (λ_=>[.cq f209 12 6 0 k_,d1.at 15,.cq f209 21 6 0 k_,d2.at 24,sb.at 25,dv.at 29,oC.at 40,.rw 41 (.bool (decide (OF.aD a>0))) a_ (by rw[aO h]),oC.at 67,.rw 68 (.bool (decide (OF.aD a<0))) b_ (by rw[aE o_]),.cq f209 71 6 0 k_,.cq f209 88 6 0 k_,.cq f209 90 6 0 k_,.cq f209 93 6 0 k_,.cq f209 99 6 0 k_,.cq f209 106 6 0 k_,.cq f209 110 6 0 k_,(kH ht (iD _ rfl) o_).at 113]) (λ_=>k_)
   ·rcases hi with _|hi
    ·dsimp only;by_cases hc:OF.aD (t-lo)>0
     ·rw[ax hc];exact oA mixed func209 100 (N:=116) k_ (λ_=>[.cq f209 12 6 0 k_,d1.at 15,.cq f209 21 6 0 k_,d2.at 24,sb.at 25,dv.at 29,oC.at 40,.rw 41 (.bool (decide (OF.aD a>0))) a_ (by rw[aO h]),oC.at 67,.rw 68 (.bool (decide (OF.aD a<0))) b_ (by rw[aE o_]),.cq f209 71 6 0 k_,.cq f209 78 6 0 k_,(kH ht (eL _ rfl) o_).at 81,.rw 82 (.bool (decide (OF.aD (t-lo)>0))) b_ (by rw[aE hc]),.cq f209 88 6 0 k_,.cq f209 90 6 0 k_,.cq f209 93 6 0 k_,.cq f209 99 6 0 k_]) (λ_=>k_)
     ·rw[ao hc];exact oA mixed func209 100 (N:=116) k_ (λ_=>[.cq f209 12 6 0 k_,d1.at 15,.cq f209 21 6 0 k_,d2.at 24,sb.at 25,dv.at 29,oC.at 40,.rw 41 (.bool (decide (OF.aD a>0))) a_ (by rw[aO h]),oC.at 67,.rw 68 (.bool (decide (OF.aD a<0))) b_ (by rw[aE o_]),.cq f209 71 6 0 k_,.cq f209 78 6 0 k_,(kH ht (eL _ rfl) o_).at 81,.rw 82 (.bool (decide (OF.aD (t-lo)>0))) a_ (by rw[aO hc]),.cq f209 93 6 0 k_,.cq f209 99 6 0 k_]) (λ_=>k_)
    ·dsimp only;by_cases hc:OF.aD (t-lo)>0
     ·rw[ax hc];exact oA mixed func209 100 (N:=116) k_ (λ_=>[.cq f209 12 6 0 k_,d1.at 15,.cq f209 21 6 0 k_,d2.at 24,sb.at 25,dv.at 29,oC.at 40,.rw 41 (.bool (decide (OF.aD a>0))) a_ (by rw[aO h]),oC.at 67,.rw 68 (.bool (decide (OF.aD a<0))) b_ (by rw[aE o_]),.cq f209 71 6 0 k_,.cq f209 78 6 0 k_,(kH ht (eL _ rfl) o_).at 81,.rw 82 (.bool (decide (OF.aD (t-lo)>0))) b_ (by rw[aE hc]),.cq f209 88 6 0 k_,.cq f209 90 6 0 k_,.cq f209 93 6 0 k_,.cq f209 99 6 0 k_,.cq f209 106 6 0 k_,.cq f209 110 6 0 k_,(kH ht (iD _ rfl) o_).at 113]) (λ_=>k_)
     ·rw[ao hc];exact oA mixed func209 100 (N:=116) k_ (λ_=>[.cq f209 12 6 0 k_,d1.at 15,.cq f209 21 6 0 k_,d2.at 24,sb.at 25,dv.at 29,oC.at 40,.rw 41 (.bool (decide (OF.aD a>0))) a_ (by rw[aO h]),oC.at 67,.rw 68 (.bool (decide (OF.aD a<0))) b_ (by rw[aE o_]),.cq f209 71 6 0 k_,.cq f209 78 6 0 k_,(kH ht (eL _ rfl) o_).at 81,.rw 82 (.bool (decide (OF.aD (t-lo)>0))) a_ (by rw[aO hc]),.cq f209 93 6 0 k_,.cq f209 99 6 0 k_,.cq f209 106 6 0 k_,.cq f209 110 6 0 k_,(kH (eL _ rfl) (iD _ rfl) o_).at 113]) (λ_=>k_)
end
def DH(P:j_)(f:FuncId)(l:List aL)(ty:TypeId)(size n:Nat)(xs:ah)(u:i_):Prop:=
 ∀ w vs,u9 w l vs->Calls P f vs.toArray w λe w'=>∃ v,e=.returned (.tuple #[v,u])/\w'.ownsRow w.heap.size ty size v n xs/\Below w.heap.size w w'
section
variable{P:j_}{B:aa}{N:Nat}
theorem VO(iE:P.follows .mixedOrders=true)(hf:P.funcs[f]?=some fn)(hl:(l.all aL.ok)=true)(n:Nat){N:Nat}(hN:N=(eG 0 l).length+(fn.ntmps-(eG 0 l).length))
  (rs:∀ w,bL P (aa.at w) N) (h:∀ w,oQ (gO (P:=P) fn n (eG 0 l) (ji 0 l) (jB 0 l) (rs w)) [(k,.row xs ty size)]=oR (gO fn n (eG 0 l) (ji 0 l) (jB 0 l) (rs w)) (.tuple #[.slice (some ⟨k,0,some 7⟩) m 0,u]) [(k,.row xs ty size)])
  (hx:(xs.all flat)=true) (hlen:xs.length=m*size) (hu:flat u=true):DH P f l ty size m xs u:=by
 intro w vs cv;obtain⟨ι,c,h1,h2,h3,h4,h5,h6,h7⟩:=xJ cv (bd.1 hl) 0 _ _ (tH w) n_ (λ_ _=>rfl);refine uO iE hf hN n (h w) h6 h2 h4 h3 λay b9 v' w' hle hc hm dQ=>?_;obtain⟨cQ,rfl,ht⟩:=hc.uD;have ht:bW (aK ay) [.slice (some ⟨k,0,some 7⟩) m 0,u] cQ.toList:=ht;cases aQ:cQ.toList with
 |nil=>rw[aQ]at ht;cases ht
 |cons a t=>
  rw[aQ]at ht;cases ht with
  |cons q1 q2=>
   cases q2 with
   |cons q3 q4=>
    cases q4;refine⟨a,?_,?_,hm.base⟩
    ·rw[q3.fk hu]at aQ
     congr 2
     apply EF;rw[aQ]
    ·have:=wZ hm (dQ (k,_) (aP ..)) q1 o_ (bd.1 hx);rwa[<-hlen,ox]at this
theorem Lk{n:Nat}{nd:q_}{x:m_}(h:DH P f l ty size n xs u)(hs:fW B l vs nd)(ho:dC o.op=some x)(eY:fN P f=true)(hx:(xs.all flat)=true)(hu:flat u=true)(k:Nat):
  cA P B o (.func (.func f) #[] #[]::vs) ((k,none)::nd) (.tuple #[.slice (some ⟨k,0,some 7⟩) n 0,u]) [(k,.row xs ty size)]:=by
 have:=j7 (P:=P) (B:=B) (o:=o) (x:=x) (f:=f) (fi:=[]) (args:=vs) (ca:=[]) (need:=(k,none)::nd) (val:=.tuple #[.slice (some ⟨k,0,some 7⟩) n 0,u]) (cX:=[(k,.row xs ty size)]) ho eY ?_
 ·simpa using this
 ·intro ι c w hm hn args' ha;rw[jG,jh]at ha;refine(h w args' (BM hs hm (λp hp=>hn p (bH _ hp)) ha)).mono ?_
  rintro e w' ⟨v,rfl,h1,h2⟩
  obtain⟨ay,q1,q2,q3⟩:=E2 hm h2 (k:=k) (hn (k,none) (aP ..)) h1 (bd.1 hx);exact⟨ay,_,rfl,q1,.tup (.cons q3 (.cons (.same hu) .nil)),q2⟩
end
section
open V3 (dot av cE smul)
def eD(p q:HS K):V3 K:=av p.n q.n
def wb(p q:HS K):V3 K:=smul (smul (av q.n (eD p q)) p.d+smul (av (eD p q) p.n) q.d) (kI 1*(dot (eD p q) (eD p q))⁻¹)
def oD(s:e7 K)(b d:V3 K):List (HS K)->e7 K
 |[]=>s
 |p::l=>oD (rH s (dot p.n d) (p.d-dot p.n b)) b d l
def we(s:e7 K)(b d:V3 K):List (HS K)->Bool
 |[]=>true
 |p::l=>sZ s (dot p.n d) (p.d-dot p.n b)&&we (rH s (dot p.n d) (p.d-dot p.n b)) b d l
theorem aCW{b d:V3 K}{p:HS K}:∀(l:List (HS K)) (s:e7 K),oD s b d (l++[p])=rH (oD s b d l) (dot p.n d) (p.d-dot p.n b)
 |[],s=>rfl
 |q::l,s=>aCW l _
def Ll(ps:List (HS K))(p q:HS K):e7 K:=oD ⟨none,none⟩ (wb p q) (eD p q) ps
def F9(ps:List (HS K))(p q:HS K):Option (V3 K×V3 K):=
 if eD p q=0 then none
 else if we ⟨none,none⟩ (wb p q) (eD p q) ps then(match (Ll ps p q).lo,(Ll ps p q).hi with
  |some l,some h=>some (wb p q+smul (eD p q) l,wb p q+smul (eD p q) h)
  |_,_=>none)
 else none
theorem VP{q:HS K}(hp:bM m p)(hq:bM m q):aw (4*m+9) (eD p q):=(hp.1.av hq.1).mono o_
theorem aCX{q:HS K}(hp:bM m p)(hq:bM m q)(h:eD p q≠0)(hd:dot (eD p q) (eD p q)≠0):aw (300*m+1000) (wb p q):=by have hc:=VP hp hq;have h1:=(hq.1.av hc).smul hp.2;have h2:=(hc.av hp.1).smul hq.2;have h3:=Sz.div (m:=1) hd (o9 (z:=1) d_ d_) (hc.dot hc);exact((h1.add h2).smul h3).mono o_
theorem aMU{s:e7 K}{a b:K}{z C:Nat}(eL:nM z s.lo)(iD:nM z s.hi)(ha:Sz A a)(hb:Sz C b)(hz:C+7*A+28<=z):nM z (rH s a b).lo/\nM z (rH s a b).hi:=by
 unfold rH;by_cases h0:OF.aD a=0
 ·rw[ax h0];exact⟨eL,iD⟩
 ·rw[ao h0];have nE:a≠0:=λe=>h0 ((OF.fp a).2 e);have ht:Sz z (b*a⁻¹):=(Sz.div nE hb ha).mono hz;have PR:nM z (some (b*a⁻¹)):=λy e=>by injection e with e;subst e;exact ht
  obtain⟨lo,hi⟩:=s;dsimp only at eL iD ⊢;split
  ·split
   ·split
    ·exact⟨eL,PR⟩
    ·exact⟨eL,iD⟩
   ·exact⟨eL,PR⟩
  ·split
   ·split
    ·exact⟨PR,iD⟩
    ·exact⟨eL,iD⟩
   ·exact⟨PR,iD⟩
theorem PS{b d:V3 K}{m q z:Nat}(hb:aw q b)(hd:aw q d)(hz:m+(3*(m+q)+14)+1+7*(3*(m+q)+14)+28<=z):∀(l:List (HS K)) (s:e7 K),(∀ p∈l,bM m p)->nM z s.lo->nM z s.hi->nM z (oD s b d l).lo/\nM z (oD s b d l).hi
 |[],s,_,h1,h2=>⟨h1,h2⟩
 |p::l,s,hl,h1,h2=>by have hp:=hl p (aP ..);obtain⟨q1,q2⟩:=aMU h1 h2 (hp.1.dot hd) (hp.2.sub (hp.1.dot hb)) hz;exact PS hb hd hz l _ (λr hr=>hl r (bH _ hr)) q1 q2
theorem aMV{s:e7 K}{b d:V3 K}{t:K}{z:Nat}(hb:aw q b)(hd:aw q d)(ht:Sz z t)(hn:10*q+10*z+100<=az):
  xO prog 210 20 ([bK t]++[aX 7,aX 3]) [(6,.aI (rG s b d) 191),(7,.aI [aX 6] 189),(3,.aI (cr d).cs 38)] [] (aZ (b+smul d t)) [(6,.aI (rG s b d) 191),(7,.aI [aX 6] 189),(3,.aI (cr d).cs 38)]:=by
 have h1:=ua hd ht o_;have h2:=BV hb (hd.smul ht) o_;obtain⟨lo,hi⟩:=s;cases lo<;>cases hi<;>exact oA mixed func210 100 (N:=13) k_ (λ_=>[.cq f210 6 6 0 k_,h1.at 11,h2.at 12]) (λ_=>k_)
theorem aCY(x:Option K):∀ v∈VN x,flat v=true:=by
 cases x with
 |none=>exact RN.nJ zN
 |some y=>exact RN.nJ _
theorem PT(s:e7 K)(b d:V3 K):∀ v∈rG s b d,flat v=true:=λv hv=>by
 simp only[rG,fo,ct]at hv;rcases hv with h|h|rfl|rfl|h|h
 ·exact aCY _ v h
 ·exact aCY _ v h
 ·rfl
 ·rfl
 ·exact RV.nJ _ v h
 ·exact RV.nJ _ v h
theorem xP{x:Obj}(h:∀ v∈x.cells,flat v=true):ni m (k,x)=true:=bd.2 λv hv=>gB (h v hv)
section
variable{Bs:aa}{ps:List (HS K)}
theorem VQ{b d:V3 K}:∀(l:List (HS K)) (s:e7 K),we s b d l=true↔∀(i:Nat) (p:HS K),l[i]?=some p->sZ (oD s b d (l.take i)) (dot p.n d) (p.d-dot p.n b)=true
 |[],s=>by simp[we]
 |q::l,s=>by
  unfold we;rw[cZ,VQ l];constructor
  ·rintro⟨h1,h2⟩ i p hp
   cases i with
   |zero=>simp at hp;subst hp;exact h1
   |succ i=>exact h2 i p (by simpa using hp)
  ·intro h;exact⟨h 0 q rfl,λi p hp=>h (i+1) p (by simpa using hp)⟩
def eI(n i:Nat):aN:=[(54,vI i),(52,sl 0 n),(53,vI n),(0,sl 0 n),(12,aX 7),(8,aX 3)]
def eJ(ps:List (HS K))(s:e7 K)(b d:V3 K):aH:=[(0,.view (bB ps)),(6,.aI (rG s b d) 191),(7,.aI [aX 6] 189)]
theorem aMW{s:e7 K}{b d:V3 K}:∀ x∈eJ ps s b d,fe 8 x.2:=λx hx=>by
 simp only[eJ,ct,iX,iY]at hx;rcases hx with rfl|rfl|rfl
 ·exact λv hv=>gB (bd.1 (dx ps) v hv)
 ·exact λv hv=>gB (PT _ _ _ v hv)
 ·exact KN (p:=(7,.aI [aX 6] 189)) k_
theorem aMX{s:e7 K}{b d:V3 K}{z:Nat}(hp:bM m p)(hb:aw q b)(hd:aw q d)(eL:nM z s.lo)(iD:nM z s.hi)(hn:1000*(m+q)+100*z+10000<=az){x:m_}(ho:dC o.op=some x):
  cA prog Bs o [.func (.func 209) #[] #[],aX 6,dH p] [(6,some (.aI (rG s b d) 191))] (.bool (sZ s (dot p.n d) (p.d-dot p.n b))) [(6,.aI (rG (rH s (dot p.n d) (p.d-dot p.n b)) b d) 191)]:=
 Lg (K:=20) (args:=[aX 6,dH p]) (ca:=[]) (Os:=[(6,.aI (rG s b d) 191)]) (Vs:=[]) (aMT hp hb hd eL iD hn) ho k_ k_ k_ (by simp only[jh,dT,eC,gp];rw[xP (x:=.aI (rG s b d) 191) (PT _ _ _)];rfl)
  (by simp only[dT,eC,gp];exact xP (x:=.aI (rG (rH s (dot p.n d) (p.d-dot p.n b)) b d) 191) (PT _ _ _)) rfl rfl rfl rfl
noncomputable def eS{s:e7 K}{b d:V3 K}{z:Nat}(hi:i<ps.length)(jn:ps[i]?=some p)(hp:bM m p)(hb:aw q b)(hd:aw q d)(eL:nM z s.lo)(iD:nM z s.hi)(hn:1000*(m+q)+100*z+10000<=az)(ht:sZ s (dot p.n d) (p.d-dot p.n b)=t)(more:bL prog Bs 89):bL prog Bs 89:=
 .lt 55 i ps.length true (aE hi)::.cM f182 56 0 ps.length i 40 hi k_::.ld f182 57 50 0 (i*40) (.view (bB ps)) (dH p) rfl (z8 jn) k_::
  .step 60 (aA f182 60) _ _ (.bool t) _ (ht▸aMX (x:=.func 209) hp hb hd eL iD hn k_)::more
theorem aMY{s:e7 K}{b d:V3 K}{z:Nat}(hi:i<ps.length)(jn:ps[i]?=some p)(hp:bM m p)(hb:aw q b)(hd:aw q d)(eL:nM z s.lo)(iD:nM z s.hi)(hn:1000*(m+q)+100*z+10000<=az)(h63:ps.length<9223372036854775807)
  (ht:sZ s (dot p.n d) (p.d-dot p.n b)=true):af prog Bs 89 (aF (ag f182 0)) (eI ps.length i) (eJ ps s b d) 8 ⟨.normal,eI ps.length (i+1),eJ ps (rH s (dot p.n d) (p.d-dot p.n b)) b d,8⟩:=
 qZ mixed 100 (fC:=9) (eS hi jn hp hb hd eL iD hn ht [.sum 62 i 1 (i+1) rfl o_]) k_ rfl k_ aMW k_
theorem aMZ{s:e7 K}{b d:V3 K}{z:Nat}(hi:i<ps.length)(jn:ps[i]?=some p)(hp:bM m p)(hb:aw q b)(hd:aw q d)(eL:nM z s.lo)(iD:nM z s.hi)(hn:1000*(m+q)+100*z+10000<=az)
  (ht:sZ s (dot p.n d) (p.d-dot p.n b)=false):af prog Bs 89 (aF (ag f182 0)) (eI ps.length i) (eJ ps s b d) 8 ⟨.ret,[(6,.slice none 0 0),(7,.bool false)],eJ ps (rH s (dot p.n d) (p.d-dot p.n b)) b d,9⟩:=
 aC (eS hi jn hp hb hd eL iD hn ht [])
theorem aM0{s:e7 K}{b d:V3 K}:af prog Bs 89 (aF (ag f182 0)) (eI ps.length ps.length) (eJ ps s b d) 8 ⟨.exit 0,[(12,aX 7),(8,aX 3)],eJ ps s b d,8⟩:=
 aC [.lt 55 ps.length ps.length false s_]
theorem aCZ{b d:V3 K}(s s':e7 K)(k:Nat):ai (eJ ps s b d) k=none↔ai (eJ ps s' b d) k=none:=Ds (L':=eJ ps s b d) (L:=eJ ps s' b d) rfl k
theorem aM1{b d:V3 K}{z:Nat}(cd:∀ p∈ps,bM m p)(hb:aw q b)(hd:aw q d)(hz:m+(3*(m+q)+14)+1+7*(3*(m+q)+14)+28<=z)(hn:1000*(m+q)+100*z+10000<=az)(h63:ps.length<9223372036854775807):
  (we ⟨none,none⟩ b d ps=true->af prog Bs 89 (.block 0 (ag f182 0)) (eI ps.length 0) (eJ ps ⟨none,none⟩ b d) 8 ⟨.normal,[(12,aX 7),(8,aX 3)],eJ ps (oD ⟨none,none⟩ b d ps) b d,8⟩)/\
  (we ⟨none,none⟩ b d ps=false->∃ s,af prog Bs 89 (.block 0 (ag f182 0)) (eI ps.length 0) (eJ ps ⟨none,none⟩ b d) 8 ⟨.ret,[(6,.slice none 0 0),(7,.bool false)],eJ ps s b d,9⟩):=by
 have PU:∀ i,nM z (oD ⟨none,none⟩ b d (ps.take i)).lo/\nM z (oD ⟨none,none⟩ b d (ps.take i)).hi:=λi=>PS hb hd hz (ps.take i) _ (λp hp=>cd p (Iw hp)) n_ n_;have tk:∀{i:Nat} {p:HS K},ps[i]?=some p->ps.take (i+1)=ps.take i++[p]:=λh=>by rw[sY,h];rfl
 let Lm:Nat->Bool:=λi=>match ps[i]? with|some p=>sZ (oD ⟨none,none⟩ b d (ps.take i)) (dot p.n d) (p.d-dot p.n b)|none=>true
 have PV:∀{i:Nat} {p:HS K},ps[i]?=some p->Lm i=sZ (oD ⟨none,none⟩ b d (ps.take i)) (dot p.n d) (p.d-dot p.n b):=λh=>by simp only[Lm,h]
 have qI:∀ e,e<=ps.length->(∀ i,i<e->Lm i=true)->∀ i,i<e->
   af prog Bs 89 (aF (ag f182 0)) (eI ps.length i) (eJ ps (oD ⟨none,none⟩ b d (ps.take i)) b d) 8 ⟨.normal,eI ps.length (i+1),eJ ps (oD ⟨none,none⟩ b d (ps.take (i+1))) b d,8⟩:=λe he au i hi=>by
  have ak:i<ps.length:=by omega
  have hp:ps[i]?=some ps[i]:=aT ak;have h:=au i hi;rw[PV hp]at h;rw[tk hp,aCW];exact aMY ak hp (cd _ (cY ak)) hb hd (PU i).1 (PU i).2 hn h63 h
 refine⟨λaY=>?_,λfT=>?_⟩
 ·have au:∀ i,i<ps.length->Lm i=true:=λi hi=>by have hp:ps[i]?=some ps[i]:=aT hi;rw[PV hp];exact(VQ ps _).1 aY i _ hp
  have:=ch (P:=prog) (B:=Bs) (N:=89) ps.length (λi=>eI ps.length i) (λi=>eJ ps (oD ⟨none,none⟩ b d (ps.take i)) b d) (λi k _=>aCZ _ _ k) (qI ps.length (bA _) au) aM0 n_;rw[ox]at this;exact bO (id:=0) this
 ·rcases F7 (λi=>!Lm i) (List.range ps.length)with CE|⟨e,y,h1,h2,h3⟩
  ·exfalso;have:we ⟨none,none⟩ b d ps=true:=(VQ ps _).2 λi p hp=>by have ak:=(eA.1 hp).1;have:=CE i (j4.2 ak);rw[PV hp]at this;simpa using this
   rw[this]at fT;cases fT
  ·have ak:e<ps.length:=by have:=(eA.1 h1).1;rwa[yY]at this
   have hy:y=e:=by rw[Lj ak]at h1;injection h1 with h1;exact h1.symm
   subst hy;have hp:ps[y]?=some ps[y]:=aT ak;rw[PV hp]at h2
   have:=ch (P:=prog) (B:=Bs) (N:=89) y (λi=>eI ps.length i) (λi=>eJ ps (oD ⟨none,none⟩ b d (ps.take i)) b d) (λi k _=>aCZ _ _ k)
    (qI y o_ λi hi=>by have:=h3 i i hi (Lj o_);simpa using this) (aMZ ak hp (cd _ (cY ak)) hb hd (PU y).1 (PU y).2 hn (by simpa using h2)) n_
   exact⟨_,bO (id:=0) this⟩
end
theorem aC0{s:e7 K}{b d:V3 K}{t:K}{z:Nat}(hb:aw q b)(hd:aw q d)(ht:Sz z t)(hn:10*q+10*z+100<=az){x:m_}(ho:dC o.op=some x):
  cA prog Bs o [.func (.func 210) #[] #[aX 7,aX 3],bK t] [(6,some (.aI (rG s b d) 191)),(7,some (.aI [aX 6] 189)),(3,some (.aI (cr d).cs 38))] (aZ (b+smul d t)) []:=by
 have l6:ni 20 (6,.aI (rG s b d) 191)=true:=xP (x:=.aI (rG s b d) 191) (PT _ _ _);have l7:ni 20 (7,.aI [aX 6] 189)=true:=k_;have l3:ni 20 (3,.aI (cr d).cs 38)=true:=k_
 exact aMy (K:=20) (args:=[bK t]) (ca:=[aX 7,aX 3]) (Os:=[(6,.aI (rG s b d) 191),(7,.aI [aX 6] 189),(3,.aI (cr d).cs 38)]) (Vs:=[]) (aMV hb hd ht hn) ho k_ k_ k_
  (by simp only[jh,dT,eC,gp,l6,l7,l3];rfl) (by simp only[dT,eC,gp,l6,l7,l3]) rfl rfl
set_option maxRecDepth 8000 in
theorem aM2{q:HS K}(cd:∀ p∈ps,bM m p)(hp:bM m p)(hq:bM m q)(hm:10000000*(m+10)<=az)(h63:ps.length<9223372036854775807)(lR:eD p q≠0->dot (eD p q) (eD p q)≠0):
  match F9 ps p q with
  |some (u,v)=>DH prog 182 [fO ps,.p (dH p),.p (dH q)] 38 30 2 (aG [u,v]) b_
  |none=>bw prog 182 [fO ps,.p (dH p),.p (dH q)] (.tuple #[.slice none 0 0,.bool false]):=by
 have au:([fO ps,.p (dH p),.p (dH q)].all aL.ok)=true:=by simp only[dT,eC,fO,aL.ok,dx,gp,jy];rfl
 have c1:aB prog 95 [aZ p.n,aZ q.n] (aZ (eD p q)):=sU hp.1 hq.1 o_;have hD:=VP hp hq;have z1:=ub hD o_;unfold F9;by_cases h0:eD p q=0
 ·rw[ax h0];rw[aE h0]at z1;exact cC func182 au 89 (λ_=>[c1.at 20,z1.at 22])
 ·rw[ao h0];rw[aO h0]at z1;have kz:=lR h0;obtain⟨r,hr⟩:∃ r,r=300*m+1000:=⟨_,rfl⟩;obtain⟨z,hz⟩:∃ z,z=30*(m+r)+500:=⟨_,rfl⟩;have hB:aw r (wb p q):=hr▸aCX hp hq h0 kz;have Ga:aw r (eD p q):=hD.mono o_;have c2:=sU hq.1 hD o_;have s2:=ua (hq.1.av hD) hp.2 o_;have c3:=sU hD hp.1 o_;have s3:=ua (hD.av hp.1) hq.2 o_;have a1:=BV ((hq.1.av hD).smul hp.2) ((hD.av hp.1).smul hq.2) o_;have o1:=rq (z:=1) d_;have dd:=oz hD hD o_;have one:Sz 1 (kI 1):=o9 d_ d_;have hDD:=hD.dot hD;have dv:=Ie kz one hDD o_;have pI:=Sz.div kz one hDD;have s4:=ua (((hq.1.av hD).smul hp.2).add ((hD.av hp.1).smul hq.2)) pI o_;have lo:=λBs=>aM1 (Bs:=Bs) (ps:=ps) (m:=m) (q:=r) (z:=z) cd hB Ga o_ o_ h63;have zs:=PS (m:=m) (q:=r) (z:=z) hB Ga o_ ps ⟨none,none⟩ cd n_ n_;unfold Ll;have e1:smul (smul (av q.n (eD p q)) p.d+smul (av (eD p q) p.n) q.d) (kI 1*(dot (eD p q) (eD p q))⁻¹)=wb p q:=rfl;rw[e1]at s4;generalize wb p q=eb at *;generalize eD p q=ed at *;by_cases hs:we ⟨none,none⟩ eb ed ps=true
  ·rw[ax hs];have CH:=λBs=>(lo Bs).1 hs;clear lo;obtain⟨zl,zh⟩:=zs;generalize oD ⟨none,none⟩ eb ed ps=sg at *;obtain⟨l,h⟩:=sg;rcases l with _|l
   ·cases h<;>exact cC func182 au 89 (λw=>[c1.at 20,z1.at 22,c2.at 26,s2.at 29,c3.at 33,s3.at 36,a1.at 37,o1.at 39,dd.at 42,dv.at 43,s4.at 48,.code 0 _ _ _ _ _ (CH _),.cq f182 64 6 0 k_])
   ·rcases h with _|h
    ·exact cC func182 au 89 (λw=>[c1.at 20,z1.at 22,c2.at 26,s2.at 29,c3.at 33,s3.at 36,a1.at 37,o1.at 39,dd.at 42,dv.at 43,s4.at 48,.code 0 _ _ _ _ _ (CH _),.cq f182 64 6 0 k_,.cq f182 70 6 0 k_])
    ·exact VO (k:=8) mixed func182 au 100 (N:=89) k_ (λw=>[c1.at 20,z1.at 22,c2.at 26,s2.at 29,c3.at 33,s3.at 36,a1.at 37,o1.at 39,dd.at 42,dv.at 43,s4.at 48,.code 0 _ _ _ _ _ (CH _),.cq f182 64 6 0 k_,.cq f182 70 6 0 k_,.cq f182 78 6 0 k_,.step 81 (aA f182 81) _ _ _ _ (aC0 (s:=⟨some l,some h⟩) (x:=.tmp 76) hB Ga (zl l rfl) o_ k_),.cq f182 84 6 0 k_,.step 87 (aA f182 87) _ _ _ _ (aC0 (s:=⟨some l,some h⟩) (x:=.tmp 82) hB Ga (zh h rfl) o_ k_),.bs f182 88 8 2 38 30 [0,1] zV.v [aZ (eb+smul ed l),aZ (eb+smul ed h)] (aG [eb+smul ed l,eb+smul ed h]).toArray (.row (aG [eb+smul ed l,eb+smul ed h]) 38 30) rfl (bd.1 k_) (bd.1 (cW _)) k_ k_ d_ d_ k_]) (λ_=>k_) (cW _) k_ k_
  ·rw[ao hs];have CH:=λBs=>(lo Bs).2 (by simpa using hs);exact cC func182 au 89 (λw=>[c1.at 20,z1.at 22,c2.at 26,s2.at 29,c3.at 33,s3.at 36,a1.at 37,o1.at 39,dd.at 42,dv.at 43,s4.at 48,.code 0 _ _ _ _ _ (CH _).choose_spec])
def gE(p q:Int):K:=(Fr.mk p 0 0 0 q).val
theorem PW{p q:Int}(hq:q≠0):bK (gE p q)=gH (Fr.mk p 0 0 0 q).low:=by show(rm (bN (Fr.mk p 0 0 0 q).val)).v=(rm _).v;rw[FG (x:=Fr.mk p 0 0 0 q) hq]
theorem B0{p q:Int}{n:Nat}(hq:q≠0)(h1:p.natAbs<2^n)(h2:q.natAbs<2^n):Sz n (gE p q):=by unfold Sz gE;rw[FG (x:=Fr.mk p 0 0 0 q) hq];have hp:0<2^n:=cI d_;exact dL.low ⟨h1,hp,hp,hp,h2⟩ hq
def B3(l:List (V3 K)):V3 K:=l.foldl (·+·) ⟨kI 0,kI 0,kI 0⟩
def B4(l:List (V3 K)):V3 K:=smul (B3 l) (gE 1 l.length)
theorem aM3(l:List (V3 K))(v:V3 K):B3 (l++[v])=B3 l+v:=by unfold B3;rw[aC1];rfl
theorem aC2(l:List (V3 K))(hl:∀ v∈l,aw m v):aw (1+l.length*(m+1)) (B3 l):=by
 have key:∀(l:List (V3 K)) (u:V3 K) (n:Nat),(∀ v∈l,aw m v)->aw n u->aw (n+l.length*(m+1)) (l.foldl (·+·) u):=by
  intro l;induction l with
  |nil=>intro u n _ h;exact h.mono o_
  |cons v l ih=>
   intro u n hl h;have:=ih (u+v) (n+m+1) (λx hx=>hl x (bH _ hx)) (h.add (hl v (aP ..)));refine this.mono ?_;rw[oL,sA];omega
 exact key l _ 1 hl Ir
def xQ(ps:List (HS K))(vs:List (V3 K)):Bool:=!decide (vs.length=0)&&!ps.any λp=>decide (OF.aD (dot p.n (B4 vs)-p.d)>=0)
section
variable{Bs:aa}{ps:List (HS K)}{vs:List (V3 K)}
def Ln(n i:Nat):aN:=[(17,vI i),(15,sl 1 n),(16,vI n),(5,aX 2)]
def uh(vs:List (V3 K))(s:V3 K):aH:=[(1,.view (aG vs)),(2,.aI (cr s).cs 38)]
theorem aM4{s:V3 K}:∀ x∈uh vs s,fe 3 x.2:=λx hx=>by
 simp only[uh,ct,iX,iY]at hx;rcases hx with rfl|rfl
 ·exact λv hv=>gB (bd.1 (cW vs) v hv)
 ·exact λv hv=>gB (RV.nJ _ v hv)
theorem aM5{v s:V3 K}{n:Nat}(hi:i<vs.length)(hv:vs[i]?=some v)(hs:aw n s)(hm:aw m v)(cN:m+n<az)(h63:vs.length<9223372036854775807):
  af prog Bs 38 (aF (ag f144 0)) (Ln vs.length i) (uh vs s) 3 ⟨.normal,Ln vs.length (i+1),uh vs (s+v),3⟩:=
 qZ mixed 100 (fC:=4) [.lt 18 i vs.length true (aE hi),.cM f144 19 1 vs.length i 30 hi k_,.ld f144 20 38 1 (i*30) (.view (aG vs)) (aZ v) rfl (gD hv) k_,(BV hs hm o_).at 23,.sum 24 i 1 (i+1) rfl o_] k_ rfl k_ aM4 k_
theorem aM6{s:V3 K}:af prog Bs 38 (aF (ag f144 0)) (Ln vs.length vs.length) (uh vs s) 3 ⟨.exit 0,[(5,aX 2)],uh vs s,3⟩:=
 aC [.lt 18 vs.length vs.length false s_]
theorem aM7(s s':V3 K)(k:Nat):ai (uh vs s) k=none↔ai (uh vs s') k=none:=Ds (L':=uh vs s) (L:=uh vs s') rfl k
theorem aM8(aQ:∀ v∈vs,aw m v)(hm:m+(1+vs.length*(m+1))<az)(h63:vs.length<9223372036854775807):
  af prog Bs 38 (.block 0 (ag f144 0)) (Ln vs.length 0) (uh vs ⟨kI 0,kI 0,kI 0⟩) 3 ⟨.normal,[(5,aX 2)],uh vs (B3 vs),3⟩:=by
 have:=ch (P:=prog) (B:=Bs) (N:=38) vs.length (λi=>Ln vs.length i) (λi=>uh vs (B3 (vs.take i))) (λi k _=>aM7 _ _ k) (λi hi=>by have hv:vs[i]?=some vs[i]:=aT hi;have hs:=aC2 (m:=m) (vs.take i) λv hv=>aQ v (Iw hv);have hle:(vs.take i).length*(m+1)<=vs.length*(m+1):=eh _ (by rw[jr];omega);rw[sY,hv];show af _ _ _ _ _ _ _ ⟨_,_,uh vs (B3 (vs.take i++[vs[i]])),_⟩;rw[aM3];exact aM5 hi hv hs (aQ _ (cY hi)) o_ h63) (by rw[ox];exact aM6) n_
 exact bO (id:=0) this
theorem aM9(cd:∀ p∈ps,bM m p/\p.n≠0)(aQ:∀ v∈vs,aw q v)(hm:100*(m+vs.length*(q+1))+10000<=az)(h63:vs.length<2^40)(aNa:ps.length<9223372036854775807):bw prog 144 [fO ps,k6 vs] (.bool (xQ ps vs)):=by
 have au:([fO ps,k6 vs].all aL.ok)=true:=by simp only[dT,eC,fO,k6,aL.ok,dx,cW,gp]
 unfold xQ;by_cases h0:vs.length=0
 ·rw[aE h0];exact cC func144 au 38 (λw=>[.fZ 13 vs.length 0 true (by simp[h0])])
 ·rw[aO h0];have Bo:q+1<=vs.length*(q+1):=VR _ o_;have lo:=λBs=>aM8 (Bs:=Bs) aQ o_ o_;have bj:(vs.length:Int)≠0:=by omega
  have rt:=KJ (p:=1) (q:=(vs.length:Int)) (n:=40) bj d_ (by simpa using h63) d_;rw[<-PW bj]at rt;have hr:=B0 (p:=1) (q:=(vs.length:Int)) (n:=40) bj d_ (by simpa using h63);have hs:=aC2 vs aQ;have sc:=ua hs hr o_;have DI:aw (1+vs.length*(q+1)+40+4) (B4 vs):=hs.smul hr;have hc:=VK (g:=186) (caps:=(cr (B4 vs)).cs) (ps:=ps) (b:=λp=>decide (OF.aD (dot p.n (B4 vs)-p.d)>=0)) k_ (bd.2 (RV.nJ _)) aNa λp hp=>aMG (cd p hp).1 DI o_ (cd p hp).2;have e:smul (B3 vs) (gE 1 (vs.length:Int))=B4 vs:=rfl;rw[e]at sc;generalize (ps.any λp=>decide (OF.aD (dot p.n (B4 vs)-p.d)>=0))=t at *;generalize B4 vs=mv at *;exact cC func144 au 38 (λw=>[.fZ 13 vs.length 0 false (by simp[h0]),(vj (a:=0) (b:=0) (c:=0) d_ d_ d_).at 14,.code 0 _ _ _ _ _ (lo _),rt.at 28,sc.at 33,.cR f144 36 [sl 0 ps.length,.func (.func 186) #[] #[aX 4]] hc (.w (x:=.view (bB ps)) rfl (dx ps) jm (.f (x:=.aI (cr mv).cs 38) rfl (bd.2 (RV.nJ _)) .nil))])
end
def rI(ps:List (HS K))(p q:HS K):List (V3 K):=match F9 ps p q with|some (u,v)=>[u,v]|none=>[]
def lD(ps:List (HS K))(p:HS K)(l:List (HS K)):List (V3 K):=l.flatMap (rI ps p)
theorem aNb{q:HS K}(l:List (HS K)):lD ps p (l++[q])=lD ps p l++rI ps p q:=by unfold lD;rw[VE];simp
theorem aNc(ps:List (HS K))(p q:HS K):(rI ps p q).length<=2:=by
 unfold rI;split
 ·exact bA _
 ·exact jH _
theorem VT(ps:List (HS K))(p:HS K):∀ l:List (HS K),(lD ps p l).length<=2*l.length
 |[]=>jH _
 |q::l=>by have h1:=VT ps p l;have h2:=aNc ps p q;show(rI ps p q++lD ps p l).length<=_;rw[kP,oL];omega
theorem nN(l:List (V3 K)):(aG l).length=l.length*30:=by unfold aG;rw[uc fD,dr]
theorem Ix(l m:List (V3 K)):aG l++aG m=aG (l++m):=by unfold aG cV;rw[rW,Lh]
theorem Lo(l:List (V3 K)):∀ v∈aG l,v.oneCell'=true:=λv hv=>by unfold aG cV dy at hv;rw[zY]at hv;obtain⟨x,_,hx⟩:=hv;exact fD.one x v hx
section
variable{Bs:aa}{ps:List (HS K)}
def Lp(n i j L:Nat):aN:=[(21,vI j),(19,sl 0 i),(20,vI i),(0,sl 0 n),(5,aX 2),(3,sl 3 L)]
def Ab(ps:List (HS K))(p:HS K):aH:=[(0,.view (bB ps)),(2,.aI (db p).cs 50)]
def jb(acc:List (V3 K)):List Obj:=[.row (aG acc) 38 30]
theorem aNd{q:HS K}(hj:j<i)(lC:i<=ps.length)(hq:ps[j]?=some q)(cd:∀ p∈ps,bM m p)(hp:bM m p)(hm:10000000*(m+10)<=az)(h63:ps.length<1000)(VU:acc.length<=1000000)(lR:eD p q≠0->dot (eD p q) (eD p q)≠0):
  ∃ σ fC,(∀ B5:List (V3 K),zr (Ab ps p++dB [some 1] (jb B5)) 3 σ (Lp ps.length i (j+1) (acc++rI ps p q).length) (Ab ps p) (jb (acc++rI ps p q))=true)/\
   af prog Bs 42 (aF (ag f143 2)) (Lp ps.length i j acc.length) (Ab ps p++marks 3 (jb acc)) 4 ⟨.normal,fj 3 σ (Lp ps.length i (j+1) (acc++rI ps p q).length),Ab ps p++dB σ (jb (acc++rI ps p q)),fC⟩:=by
 have he:=aM2 cd hp (cd q (cH hq)) hm o_ lR;unfold rI;cases hk:F9 ps p q with
 |none=>
  rw[hk]at he;dsimp only at he ⊢;rw[jh];refine⟨[some 3],5,λB5=>k_,?_⟩;exact aC [.lt 22 j i true (aE hj),.cM f143 23 0 i j 40 hj k_,.ld f143 24 50 0 (j*40) (.view (bB ps)) (dH q) rfl (z8 hq) k_,.cR f143 29 [sl 0 ps.length,dH p,dH q] he (.w (x:=.view (bB ps)) rfl (dx ps) jm (.p k_ (.p k_ .nil))),.sum 36 j 1 (j+1) rfl o_]
 |some uv=>
  obtain⟨u,v⟩:=uv;rw[hk]at he;dsimp only at he ⊢;have hl:(acc++[u,v]).length=acc.length+2:=by simp
  rw[hl];refine⟨[some 6],7,λB5=>k_,?_⟩;exact aC [.lt 22 j i true (aE hj),.cM f143 23 0 i j 40 hj k_,.ld f143 24 50 0 (j*40) (.view (bB ps)) (dH q) rfl (z8 hq) k_,.step 29 (aA f143 29) [.func (.func 182) #[] #[],sl 0 ps.length,dH p,dH q] [(5,none),(0,some (.view (bB ps)))] (.tuple #[sl 5 2,.bool true]) [(5,.row (aG [u,v]) 38 30)]
    (Lk he (.w (x:=.view (bB ps)) rfl (dx ps) jm (.p k_ (.p k_ .nil))) (x:=.func 182) k_ k_ (cW _) k_ 5),
   .oX f143 35 6 3 acc.length 2 (acc.length+2) 38 30 360 (aG acc) 5 (.row (aG [u,v]) 38 30) (aG (acc++[u,v])) rfl rfl (nN _) (nN _) (Ix _ _) (Lo _) d_ (by simp[maxLen];omega) o_ k_,
   .sum 36 j 1 (j+1) rfl o_]
theorem aNe:∀ x∈Ab ps p,fe 3 x.2:=λx hx=>by
 simp only[Ab,ct,iX,iY]at hx;rcases hx with rfl|rfl
 ·exact λv hv=>gB (bd.1 (dx ps) v hv)
 ·exact λv hv=>gB (ja.flat _ v hv)
theorem Lq:∀ x∈jb acc,fe m x:=λx hx=>by simp only[jb,ct,iX,iY]at hx;subst hx;exact λv hv=>gB (bd.1 (cW acc) v hv)
theorem aNf(lC:i<=ps.length)(cd:∀ p∈ps,bM m p)(hp:bM m p)(hm:10000000*(m+10)<=az)(h63:ps.length<=500)(VU:acc.length+2*i<=1000000)
  (lR:∀ p q:HS K,eD p q≠0->dot (eD p q) (eD p q)≠0) :
  af prog Bs 42 (.block 2 (ag f143 2)) (fj 3 [some 1] (Lp ps.length i 0 acc.length)) (Ab ps p++dB [some 1] (jb acc)) 3
   ⟨.normal,[(3,sl 3 (acc++lD ps p (ps.take i)).length)],Ab ps p++marks 3 (jb (acc++lD ps p (ps.take i))),4⟩:=by
 have hlen:∀ j,j<=i->(acc++lD ps p (ps.take j)).length<=1000000:=λj hj=>by have:=VT ps p (ps.take j);rw[jr]at this;rw[kP];omega
 have:=pH (P:=prog) (B:=Bs) (N:=42) (b:=aF (ag f143 2)) (next:=3) (p:=1) (r:=⟨.exit 2,[(3,sl 3 (acc++lD ps p (ps.take i)).length)],Ab ps p++marks 3 (jb (acc++lD ps p (ps.take i))),4⟩) i
  (λj=>Lp ps.length i j (acc++lD ps p (ps.take j)).length) (λ_=>Ab ps p) (λj=>jb (acc++lD ps p (ps.take j))) [some 1] (λ_ _=>rfl) (λj _=>⟨aNe,Lq⟩) k_ k_
  (λj hj=>by
   have hq:ps[j]?=some ps[j]:=aT o_;have e:acc++lD ps p (ps.take (j+1))=(acc++lD ps p (ps.take j))++rI ps p ps[j]:=by
    rw[sY,hq,EU]
    congr 1
    exact aNb _
   obtain⟨σ,fC,h1,h2⟩:=aNd (Bs:=Bs) (acc:=acc++lD ps p (ps.take j)) hj lC hq cd hp hm o_ (hlen j o_) (lR p ps[j]);rw[e];exact⟨σ,fC,h1 _,h2⟩)
  (by generalize acc++lD ps p (ps.take i)=a;exact aC [.lt 22 i i false s_]) n_
 have e0:acc++lD ps p (ps.take 0)=acc:=by simp[lD]
 rw[e0]at this;exact bO (id:=2) this
def Lr(ps:List (HS K))(i:Nat):List (V3 K):=match ps[i]? with|some p=>lD ps p (ps.take i)|none=>[]
def nq(ps:List (HS K))(n:Nat):List (V3 K):=(List.range n).flatMap (Lr ps)
theorem PX(h:ps[i]?=some p):Lr ps i=lD ps p (ps.take i):=by unfold Lr;rw[h]
theorem aC3(n:Nat):nq ps (n+1)=nq ps n++Lr ps n:=by unfold nq;rw[KG,VE];simp
theorem PY:∀ n,n<=ps.length->(nq ps n).length<=n*(2*ps.length)
 |0,_=>by simp[nq]
 |n+1,h=>by have h1:=PY n o_;have hp:ps[n]?=some ps[n]:=aT o_;have h2:=VT ps ps[n] (ps.take n);rw[jr]at h2;rw[aC3,PX hp,kP,sA];omega
def PZ(n i L:Nat):aN:=[(12,vI i),(10,sl 0 n),(11,vI n),(0,sl 0 n),(3,sl 1 L)]
def DJ(ps:List (HS K)):aH:=[(0,.view (bB ps))]
theorem aNg:∀ x∈DJ ps,fe m x.2:=λx hx=>by simp only[DJ,ct,iX,iY]at hx;subst hx;exact λv hv=>gB (bd.1 (dx ps) v hv)
theorem aNh(hi:i<ps.length)(jn:ps[i]?=some p)(cd:∀ p∈ps,bM m p)(hm:10000000*(m+10)<=az)(h63:ps.length<=500)(VU:acc.length+2*i<=1000000)
  (lR:∀ p q:HS K,eD p q≠0->dot (eD p q) (eD p q)≠0) :
  af prog Bs 42 (aF (ag f143 0)) (PZ ps.length i acc.length) (DJ ps++marks 1 (jb acc)) 2
   ⟨.normal,fj 1 [some 3] (PZ ps.length (i+1) (acc++lD ps p (ps.take i)).length),DJ ps++dB [some 3] (jb (acc++lD ps p (ps.take i))),4⟩:=by
 have lo:=aNf (Bs:=Bs) (acc:=acc) (p:=p) (show i<=ps.length by omega) cd (cd p (cH jn)) hm h63 VU lR;generalize acc++lD ps p (ps.take i)=a at *;exact aC [.lt 13 i ps.length true (aE hi),.cM f143 15 0 ps.length i 40 hi k_,.ld f143 16 50 0 (i*40) (.view (bB ps)) (dH p) rfl (z8 jn) k_,.upto f143 19 0 ps.length i 40 o_ k_,.code 2 _ _ _ _ _ lo,.sum 37 i 1 (i+1) rfl o_]
theorem aNi(cd:∀ p∈ps,bM m p)(hm:10000000*(m+10)<=az)(h63:ps.length<=500)(lR:∀ p q:HS K,eD p q≠0->dot (eD p q) (eD p q)≠0):
  af prog Bs 42 (.block 0 (ag f143 0)) (fj 1 [none] (PZ ps.length 0 0)) (DJ ps++dB [none] (jb [])) 1 ⟨.normal,[(3,sl 1 (nq ps ps.length).length)],DJ ps++marks 1 (jb (nq ps ps.length)),2⟩:=by
 have:=pH (P:=prog) (B:=Bs) (N:=42) (b:=aF (ag f143 0)) (next:=1) (p:=1) (r:=⟨.exit 0,[(3,sl 1 (nq ps ps.length).length)],DJ ps++marks 1 (jb (nq ps ps.length)),2⟩) ps.length
  (λi=>PZ ps.length i (nq ps i).length) (λ_=>DJ ps) (λi=>jb (nq ps i)) [none] (λ_ _=>rfl) (λj _=>⟨aNg,Lq⟩) k_ k_
  (λi hi=>by have hp:ps[i]?=some ps[i]:=aT hi;have hl:=PY i (by omega:i<=ps.length);have lH:i*(2*ps.length)<=500*1000:=xi o_ o_;refine⟨[some 3],4,k_,?_⟩;rw[aC3,PX hp];exact aNh hi hp cd hm h63 o_ lR)
  (by generalize nq ps ps.length=a;exact aC [.lt 13 ps.length ps.length false s_]) n_
 exact bO (id:=0) this
end
end
section
open Go Go.RowKit
deriving instance DecidableEq for RI
deriving instance DecidableEq for RN
deriving instance DecidableEq for RV
deriving instance DecidableEq for RP
theorem DK{α:Type}[DecidableEq α]:∀(a b:List α),a.length=b.length->a=b\/∃(e:Nat) (x y:α),a[e]?=some x/\b[e]?=some y/\x≠y/\∀(j:Nat) (u v:α),j<e->a[j]?=some u->b[j]?=some v->u=v
 |[],[],_=>.inl rfl
 |[],_::_,h=>by cases h
 |_::_,[],h=>by cases h
 |x::a,y::b,h=>by
  by_cases kB:x=y
  ·subst kB;rcases DK a b (by simpa using h)with h|⟨e,u,v,h1,h2,h3,h4⟩
   ·exact .inl (by rw[h])
   ·refine .inr ⟨e+1,u,v,by simpa using h1,by simpa using h2,h3,λj p q hj hp hq=>?_⟩;cases j with
    |zero=>simp at hp hq;rw[<-hp,<-hq]
    |succ j=>exact h4 j p q o_ (by simpa using hp) (by simpa using hq)
  ·exact .inr ⟨0,x,y,rfl,rfl,kB,λj u v hj=>by omega⟩
section
variable{Bs:aa}{a b:List RV}
def DL(n i:Nat):aN:=[(13,vI i),(11,sl 0 n),(12,vI n),(0,sl 0 n),(1,sl 1 n)]
def wh(a b:List RV):aH:=[(0,.view (cV a)),(1,.view (cV b))]
noncomputable def aC4{n:Nat}{x y:RV}(hi:i<n)(hx:a[i]?=some x)(hy:b[i]?=some y)(nO:x.Sm)(xR:y.Sm)(ht:(!t)=true↔x=y)(more:bL prog Bs 26):bL prog Bs 26:=
 .lt 14 i n true (aE hi)::.cM f86 18 0 n i 30 hi k_::.ld f86 19 38 0 (i*30) (.view (cV a)) x.v rfl (sV hx) k_::.cM f86 22 1 n i 30 hi k_::.ld f86 23 38 1 (i*30) (.view (cV b)) y.v rfl (sV hy) k_::
  .step 24 (aA f86 24) [x.v,y.v] [] (.bool t) [] (Dm (neg:=false) k_ x y nO xR ht)::more
theorem aC5{n:Nat}{x:RV}(hi:i<n)(hx:a[i]?=some x)(hy:b[i]?=some x)(nO:x.Sm)(h63:n<9223372036854775807):
  af prog Bs 26 (aF (ag f86 0)) (DL n i) (wh a b) 2 ⟨.normal,DL n (i+1),wh a b,2⟩:=
 aC (aC4 (t:=false) hi hx hy nO nO s_ [.sum 25 i 1 (i+1) rfl o_])
theorem aNj{n:Nat}{x y:RV}(hi:i<n)(hx:a[i]?=some x)(hy:b[i]?=some y)(nO:x.Sm)(xR:y.Sm)(bj:x≠y):
  af prog Bs 26 (aF (ag f86 0)) (DL n i) (wh a b) 2 ⟨.ret,[(4,.bool false)],wh a b,2⟩:=
 aC (aC4 (t:=true) hi hx hy nO xR (by simp[bj]) [])
theorem aNk{n:Nat}:af prog Bs 26 (aF (ag f86 0)) (DL n n) (wh a b) 2 ⟨.exit 0,[],wh a b,2⟩:=
 aC [.lt 14 n n false s_]
theorem aNl(ha:∀ x∈a,x.Sm)(hb:∀ x∈b,x.Sm)(h63:a.length<9223372036854775807):bw prog 86 [.r a.length (cV a),.r b.length (cV b)] (.bool (decide (a=b))):=by
 have au:([aL.r a.length (cV a),.r b.length (cV b)].all aL.ok)=true:=by simp only[dT,eC,aL.ok,gK fD,gp]
 by_cases hl:a.length=b.length
 ·have bj:(Value.bool (!((a.length:Int)==(b.length:Int))))=.bool false:=by rw[hl];simp
  rcases DK a b hl with h|⟨e,x,y,h1,h2,h3,h4⟩
  ·rw[aE h];subst h;have lo:∀ B:aa,af prog B 26 (.block 0 (ag f86 0)) (DL a.length 0) (wh a a) 2 ⟨.normal,[],wh a a,2⟩:=λB=>
    bO (id:=0) (ch a.length (λi=>DL a.length i) (λ_=>wh a a) (λi k _=>Iff.rfl) (λi hi=>by have hx:a[i]?=some a[i]:=aT hi;exact aC5 hi hx hx (ha _ (cY hi)) h63) aNk n_)
   exact cC func86 au 26 (λw=>[.rw 10 _ _ bj,.code 0 _ _ _ _ _ (lo _)])
  ·have bZ:a≠b:=λh=>by subst h;rw[h1]at h2;injection h2 with h2;exact h3 h2
   rw[aO bZ];have ak:=(eA.1 h1).1;have lo:∀ B:aa,af prog B 26 (.block 0 (ag f86 0)) (DL a.length 0) (wh a b) 2 ⟨.ret,[(4,.bool false)],wh a b,2⟩:=λB=>
    bO (id:=0) (ch e (λi=>DL a.length i) (λ_=>wh a b) (λi k _=>Iff.rfl) (λi hi=>by have hx:a[i]?=some a[i]:=aT o_;have hy:b[i]?=some b[i]:=aT o_;have:=h4 i _ _ hi hx hy;rw[<-this]at hy;exact aC5 o_ hx hy (ha _ (cY _)) h63) (aNj ak h1 h2 (ha _ (cH h1)) (hb _ (cH h2)) h3) n_)
   have BL:([aL.r a.length (cV a),.r a.length (cV b)].all aL.ok)=true:=by simp only[dT,eC,aL.ok,gK fD,gp]
   rw[<-hl]at bj ⊢;exact cC func86 BL 26 (λw=>[.rw 10 _ _ bj,.code 0 _ _ _ _ _ (lo _)])
 ·have bZ:a≠b:=λh=>hl (by rw[h]);rw[aO bZ];exact cC func86 au 26 (λw=>[.rw 10 (.bool (!((a.length:Int)==(b.length:Int)))) b_ (by congr 1;simp;omega)])
end
end
section
variable{P:j_}{B:aa}{N:Nat}
theorem aC6{ι:Map}{off:Nat}:∀{l l':ah},bW (aK ι) l l'->∀(k:Nat) {cs cg:p_},bW (aK ι) cs.toList cg.toList->
  bW (aK ι) ((l.zipIdx k).foldl (λ(cs:p_) p=>cs.setIfInBounds (off+p.2) p.1) cs).toList ((l'.zipIdx k).foldl (λ(cs:p_) p=>cs.setIfInBounds (off+p.2) p.1) cg).toList
 |_,_,.nil,k,cs,cg,h=>h
 |_,_,.cons (a:=a) (b:=b) bZ ht,k,cs,cg,h=>by simp only[List.zipIdx_cons,vH];refine aC6 ht (k+1) ?_;simp only[aHN];exact h.set bZ _
theorem P0{ι:Map}{place:Nat->Option (Nat×Nat)}:∀(idx:l_) {vs cQ:ah} {cs cg r:p_},bW (aK ι) vs cQ->bW (aK ι) cs.toList cg.toList->Instr.fill place cs (idx.zip vs)=some r->
  ∃ r',Instr.fill place cg (idx.zip cQ)=some r'/\bW (aK ι) r.toList r'.toList
 |[],vs,cQ,cs,cg,r,_,hc,h=>by simp only[List.zip_nil_left,Instr.fill]at h ⊢;injection h with h;subst h;exact⟨cg,rfl,hc⟩
 |i::idx,_,_,cs,cg,r,.nil,hc,h=>by simp only[List.zip_nil_right,Instr.fill]at h ⊢;injection h with h;subst h;exact⟨cg,rfl,hc⟩
 |i::idx,_,_,cs,cg,r,.cons (a:=v) (b:=v') hv ht,hc,h=>by
  simp only[List.zip_cons_cons,Instr.fill]at h ⊢;split at h
  ·cases h
  ·rename_i off size hp;have jt:=hv.cells;have bC:v'.cells.size=v.cells.size:=by have:=jt.length;simpa using this.symm
   have fQ:cg.size=cs.size:=by have:=hc.length;simpa using this.symm
   split at h
   ·cases h
   ·rename_i qe;rw[bC,fQ,ao qe];refine P0 idx ht ?_ h;have:=aC6 (off:=off) jt 0 hc;rw[<-aBI,<-aBI,Array.toList_zipIdx,Array.toList_zipIdx];exact this
def aC7(o:Oper):Option (TypeId×List Nat):=match o.op with
 |.build t parts=>some (t,parts.toList.map (·.1))
 |_=>none
theorem P1{t:TypeId}{idx:l_}(ho:aC7 o=some (t,idx)){cells:p_}(hz:∀ it z,P.info? t=some it->it.zero=some z->∀ v∈z.cells.toList,flat v=true)(h:P.built t (idx.zip vs)=some cells):
  cA P B o vs [] (.agg cells) []:=by
 unfold aC7 at ho;split at ho
 ·rename_i t' parts bY;injection ho with ho;injection ho with h1 h2;subst h1;subst h2;refine iC.step λι c ρ w aQ hm hn=>?_;rw[bY]at aQ;have aQ:bW (aK ι) vs ((parts.toList.map (·.2)).map ρ):=by simpa[Op.operands]using aQ
  have hex:∃ cells',P.built t' ((parts.toList.map (·.1)).zip ((parts.toList.map (·.2)).map ρ))=some cells'/\bW (aK ι) cells.toList cells'.toList:=by
   unfold Program.built at h ⊢;split at h
   ·rename_i it n e hi hu;split at h
    ·rename_i z ie B6 Lt;exact P0 _ aQ (kM (hz it z hi B6)) h
    ·cases h
   ·rename_i it fields hi hu;split at h
    ·rename_i z places B6 Lt;exact P0 _ aQ (kM (hz it z hi B6)) h
    ·cases h
   ·cases h
  obtain⟨cells',e1,e2⟩:=hex;refine⟨ι,.agg cells',w,Map.le.refl _,?_,hm,.inl ?_⟩
  ·have:=aK.agg (ι:=ι) e2;simpa using this
  ·have cd:(parts.map λ(i,x)=>(i,ρ x)).toList=(parts.toList.map (·.1)).zip ((parts.toList.map (·.2)).map ρ):=by rw[<-NP parts.toList rfl];simp
   have:=run_build (P:=P) w t' (parts.map λ(i,x)=>(i,ρ x)) cells' (by rw[cd];exact e1);simp only[execOp,bY];simp[this]
 ·cases ho
end
def iL:Value->Option Nat
 |.slice (some a) _ _=>some a.block
 |_=>none
def xT(w w':h_)(b:Nat):Prop:=∀ cs ty f,w.heap[b]?=some (Go.Obj.cells cs ty f)->w'.heap[b]?=some (Go.Obj.cells cs ty f)
theorem VV{o:Nat}(h:xT w w' b)(hc:w.cell? ⟨b,o,none⟩=some u):w'.cell? ⟨b,o,none⟩=some u:=by
 unfold World.cell? at hc ⊢;dsimp only at hc ⊢;split at hc
 ·rename_i cs ty f he;rw[h _ _ _ he];exact hc
 ·cases hc
theorem dp.kept{v:i_}{n:Nat}(h:dp w v n xs)(hs:w.heap.size<=w'.heap.size)(hk:∀ b,iL v=some b->xT w w' b):dp w' v n xs:=by
 rcases h with h|⟨b,o,c,h1,h2,h3,h4⟩
 ·exact .inl h
 ·exact .inr ⟨b,o,c,h1,h2,cF h3 hs,λj u hj=>VV (hk b (by rw[h1];rfl)) (h4 j u hj)⟩
theorem dp.lt{v:i_}{n:Nat}(h:dp w v n xs)(hb:iL v=some b):b<w.heap.size:=by
 rcases h with ⟨h,_⟩|⟨b',o,c,h1,h2,h3,h4⟩
 ·rw[h]at hb;cases hb
 ·rw[h1]at hb;injection hb with hb;subst hb;exact h3
def al(l:l_):ah:=l.map vI
def iV(z:Int):Value:=.int .i64 z
def fE(l:List Int):ah:=l.map iV
inductive oE(w:h_):f_->ah->Prop
 |nil:oE w [] []
 |cons {i:Int} {l:List Int} {u:i_} {fs:f_} {cs:ah}:dp w u l.length (fE l)->flat u=true->oE w fs cs->oE w ((i,l)::fs) (iV i::u::cs)
theorem oE.length{cs:ah}(h:oE w fs cs):cs.length=fs.length*2:=by
 induction h with
 |nil=>rfl
 |cons _ _ _ ih=>simp only[oL,ih];omega
theorem oE.kept{cs:ah}(h:oE w fs cs)(hs:w.heap.size<=w'.heap.size)(hk:∀ u∈cs,∀ b,iL u=some b->xT w w' b):oE w' fs cs:=by
 induction h with
 |nil=>exact .nil
 |cons h1 h2 _ ih=>exact .cons (h1.kept hs (hk _ (bH _ (aP ..)))) h2 (ih λu hu=>hk u (bH _ (bH _ hu)))
theorem oE.lt{cs:ah}(h:oE w fs cs):∀ u∈cs,∀ b,iL u=some b->b<w.heap.size:=by
 induction h with
 |nil=>intro u hu;cases hu
 |cons h1 _ _ ih=>
  intro u hu b hb;rcases ct.1 hu with rfl|hu
  ·cases hb
  ·rcases ct.1 hu with rfl|hu
   ·exact h1.lt hb
   ·exact ih u hu b hb
def Lu(w:h_)(v:i_)(fs:f_):Prop:=∃ cs,dp w v fs.length cs/\oE w fs cs
def P2(n:Nat)(v:i_)(w:h_)(k:Nat):Prop:=
 iL v=some k\/∃ b o c j u,v=.slice (some ⟨b,o,none⟩) n c/\j<n*2/\w.cell? ⟨b,o+j,none⟩=some u/\iL u=some k
theorem P3{v:i_}{cs:ah}(h1:dp w v fs.length cs)(h2:oE w fs cs){o c:Nat}(hv:v=.slice (some ⟨b,o,none⟩) fs.length c)(hj:j<fs.length*2)(hu:w.cell? ⟨b,o+j,none⟩=some u):u∈cs:=by
 rcases h1 with ⟨h,_⟩|⟨b',o',c',e,_,_,h4⟩
 ·rw[h]at hv;cases hv
 ·rw[e]at hv;injection hv with hv _ _;injection hv with hv;injection hv with e1 e2 _;subst e1;subst e2;have ak:j<cs.length:=by rw[h2.length];exact hj
  have pO:cs[j]?=some cs[j]:=aT ak;have:=h4 j _ pO;rw[hu]at this;injection this with this;rw[this];exact cY ak
theorem aC8{v:i_}(h:Lu w v fs)(hs:w.heap.size<=w'.heap.size)(hk:∀ k,P2 fs.length v w k->xT w w' k):
  Lu w' v fs/\∀ k,P2 fs.length v w' k->P2 fs.length v w k:=by
 obtain⟨cs,h1,h2⟩:=h;have Iy:∀ b,iL v=some b->xT w w' b:=λb hb=>hk b (.inl hb);have P4:∀ u∈cs,∀ b,iL u=some b->xT w w' b:=λu hu b hb=>by
  rcases h1 with ⟨_,_,h⟩|⟨b',o',c',e,_,_,h4⟩
  ·rw[h]at hu;cases hu
  ·obtain⟨j,hj,rfl⟩:=k7 hu;refine hk b (.inr ⟨b',o',c',j,_,e,by rw[<-h2.length];exact hj,h4 j _ (aT hj),hb⟩)
 refine⟨⟨cs,h1.kept hs Iy,h2.kept hs P4⟩,λk hF=>?_⟩;rcases hF with hF|⟨b,o,c,j,u,e,hj,hc,hb⟩
 ·exact .inl hF
 ·have:=P3 (h1.kept hs Iy) (h2.kept hs P4) e hj hc;rcases h1 with ⟨h,_⟩|⟨b',o',c',e',_,_,h4⟩
  ·rw[h]at e;cases e
  ·rw[e']at e;injection e with e1 _ e3;injection e1 with e1;injection e1 with e1 e2 _;subst e1;subst e2;subst e3;have ak:j<cs.length:=by rw[h2.length];exact hj
   have h5:=h4 j _ (aT ak);have h6:=VV (Iy b' (by rw[e'];rfl)) h5;rw[hc]at h6;injection h6 with h6;exact .inr ⟨b',o',c',j,u,e',hj,by rw[h6];exact h5,hb⟩
def iu(fs:f_):Fact where
 G v w:=Lu w v fs
 cS v w k:=P2 fs.length v w k
 lt v w k h hF:=by
  obtain⟨cs,h1,h2⟩:=h;rcases hF with hF|⟨b,o,c,j,u,e,hj,hc,hb⟩
  ·exact h1.lt hF
  ·exact h2.lt u (P3 h1 h2 e hj hc) k hb
 dep v w w' h hs hk:=aC8 h hs λk hF cs ty f hc=>(hk k hF).trans hc
 soft _ v w w' h hs hk:=aC8 h hs hk
theorem aC9(l:List Int):(fE l).all flat=true:=by rw[bd];intro v hv;obtain⟨z,_,rfl⟩:=dj.1 hv;rfl
theorem Gb(cells:ah)(i:Nat):dO prog 3 cells i=cells[i]?:=by kernel_rfl
theorem P5{l:List Int}(h:l[i]?=some z):dO prog 3 (fE l) i=some (iV z):=by rw[Gb];show(l.map iV)[i]?=_;rw[qW,h];rfl
section
variable{Bs:aa}{a b:List Int}
def DM(n i:Nat):aN:=[(13,vI i),(11,sl 0 n),(12,vI n),(0,sl 0 n),(1,sl 1 n)]
def wi(a b:List Int):aH:=[(0,.view (fE a)),(1,.view (fE b))]
noncomputable def aDa{n:Nat}{x y:Int}(hi:i<n)(hx:a[i]?=some x)(hy:b[i]?=some y)(ht:(!(x==y))=t)(more:bL prog Bs 26):bL prog Bs 26:=
 .lt 14 i n true (aE hi)::.ix f85 18 0 n i hi k_::.ld f85 19 3 0 i (.view (fE a)) (iV x) rfl (P5 hx) k_::.ix f85 22 1 n i hi k_::.ld f85 23 3 1 i (.view (fE b)) (iV y) rfl (P5 hy) k_::
  .rw 24 (.bool (!(x==y))) (.bool t) (by rw[ht])::more
theorem aDb{n:Nat}{x:Int}(hi:i<n)(hx:a[i]?=some x)(hy:b[i]?=some x)(h63:n<9223372036854775807):
  af prog Bs 26 (aF (ag f85 0)) (DM n i) (wi a b) 2 ⟨.normal,DM n (i+1),wi a b,2⟩:=
 aC (aDa (t:=false) hi hx hy s_ [.sum 25 i 1 (i+1) rfl o_])
theorem aNm{n:Nat}{x y:Int}(hi:i<n)(hx:a[i]?=some x)(hy:b[i]?=some y)(bj:x≠y):
  af prog Bs 26 (aF (ag f85 0)) (DM n i) (wi a b) 2 ⟨.ret,[(4,.bool false)],wi a b,2⟩:=
 aC (aDa (t:=true) hi hx hy (by simp[bj]) [])
theorem aNn{n:Nat}:af prog Bs 26 (aF (ag f85 0)) (DM n n) (wi a b) 2 ⟨.exit 0,[],wi a b,2⟩:=
 aC [.lt 14 n n false s_]
theorem aNo(h63:a.length<9223372036854775807):bw prog 85 [.r a.length (fE a),.r b.length (fE b)] (.bool (decide (a=b))):=by
 have au:([aL.r a.length (fE a),.r b.length (fE b)].all aL.ok)=true:=by simp only[dT,eC,aL.ok,aC9,gp]
 by_cases hl:a.length=b.length
 ·have bj:(Value.bool (!((a.length:Int)==(b.length:Int))))=.bool false:=by rw[hl];simp
  rcases DK a b hl with h|⟨e,x,y,h1,h2,h3,h4⟩
  ·rw[aE h];subst h;have lo:∀ B:aa,af prog B 26 (.block 0 (ag f85 0)) (DM a.length 0) (wi a a) 2 ⟨.normal,[],wi a a,2⟩:=λB=>
    bO (id:=0) (ch a.length (λi=>DM a.length i) (λ_=>wi a a) (λi k _=>Iff.rfl) (λi hi=>by have hx:a[i]?=some a[i]:=aT hi;exact aDb hi hx hx h63) aNn n_)
   exact cC func85 au 26 (λw=>[.rw 10 _ _ bj,.code 0 _ _ _ _ _ (lo _)])
  ·have bZ:a≠b:=λh=>by subst h;rw[h1]at h2;injection h2 with h2;exact h3 h2
   rw[aO bZ];have ak:=(eA.1 h1).1;have lo:∀ B:aa,af prog B 26 (.block 0 (ag f85 0)) (DM a.length 0) (wi a b) 2 ⟨.ret,[(4,.bool false)],wi a b,2⟩:=λB=>
    bO (id:=0) (ch e (λi=>DM a.length i) (λ_=>wi a b) (λi k _=>Iff.rfl) (λi hi=>by have hx:a[i]?=some a[i]:=aT o_;have hy:b[i]?=some b[i]:=aT o_;have:=h4 i _ _ hi hx hy;rw[<-this]at hy;exact aDb o_ hx hy h63) (aNm ak h1 h2 h3) n_)
   have BL:([aL.r a.length (fE a),.r a.length (fE b)].all aL.ok)=true:=by simp only[dT,eC,aL.ok,aC9,gp]
   rw[<-hl]at bj ⊢;exact cC func85 BL 26 (λw=>[.rw 10 _ _ bj,.code 0 _ _ _ _ _ (lo _)])
 ·have bZ:a≠b:=λh=>hl (by rw[h]);rw[aO bZ];exact cC func85 au 26 (λw=>[.rw 10 (.bool (!((a.length:Int)==(b.length:Int)))) b_ (by congr 1;simp;omega)])
end
section
variable{P:j_}{B:aa}{N:Nat}
def aDc(P:j_)(o:Oper):Bool:=match o.op with
 |.binOp .eql t _ _ _=>(match P.underlying t with|some (.slice _)=>true|_=>false)
 |_=>false
theorem aDd(ho:aDc P o=true){n:Nat}(kz:0<n):cA P B o [.slice (some ⟨k,off,some 7⟩) n cc,.slice none 0 0] [] a_ []:=by
 unfold aDc at ho;split at ho
 ·rename_i t x y ty bY;split at ho
  ·rename_i e ht;refine iC.step λι c ρ w aQ hm hn=>?_;rw[bY]at aQ;obtain⟨u,v,P6,hu,hv⟩:=js aQ;have P6:ρ x=u/\ρ y=v:=by simpa[Op.operands]using P6
   have qT:=hv.fk rfl;rcases hu.hZ rfl with ⟨_,h0,_⟩|⟨b,oo,cap,c',hb,lJ,mL,he⟩
   ·omega
   ·refine⟨ι,.bool false,w,Map.le.refl _,.same rfl,hm,.inl ?_⟩;simp only[execOp,bY,P6.1,P6.2,he,qT];have h2:=Lib.run_eql_slice_nil (P:=P) w t e (some ⟨b,oo+off,none⟩) n c' 0 0 ht;simp only[Option.isNone_some]at h2;simp[eqGuard,h2]
  ·cases ho
 ·cases ho
end
abbrev bz:Nat:=16777216
theorem mD(l:l_):∀ u∈al l,flat u=true:=λu hu=>by obtain⟨x,_,rfl⟩:=dj.1 hu;rfl
theorem iv(l:l_):(al l).all flat=true:=bd.2 (mD l)
theorem nP(l:l_):(al l).length=l.length:=by simp[al]
theorem dZ{l:l_}{x:Nat}(h:l[i]?=some x):dO prog 3 (al l) i=some (vI x):=by rw[Gb];simp[al,h]
theorem P7(cells:ah)(i:Nat)(z:Int)(h:i<cells.length):e9 prog 3 cells i (.int .i64 z)=some (cells.set i (.int .i64 z)):=by
 have e:e9 prog 3 cells i (.int .i64 z)=if(Nat.ble (i+1) cells.length&&true)then some (jc cells i [.int .i64 z])else none:=by kernel_rfl
 rw[e,Se h];rfl
theorem P8(l:l_)(i d:Nat):(al l).set i (vI d)=al (l.set i d):=by simp[al,List.map_set]
theorem wj{l:l_}(h:i<l.length):e9 prog 3 (al l) i (vI d)=some (al (l.set i d)):=by rw[<-P8];exact P7 _ _ _ (by rw[nP];exact h)
theorem Lv(n:Nat):List.replicate n (vI 0)=al (List.replicate n 0):=by simp[al]
def cD(a:Nat):ah:=al (ae bz (nd bz a) a)
def jM(a:Nat):aL:=.r (nd bz a) (cD a)
theorem VW(a:Nat):(cD a).length=nd bz a:=by unfold cD;rw[nP,oT]
theorem s7(a:Nat):(cD a).all flat=true:=iv _
theorem aNp(h:nd bz a=0):cD a=[]:=kO (by rw[VW,h])
theorem aNq{n:Nat}:a/bz^n%bz<bz:=cJ _ d_
theorem aNr{n:Nat}(hm:m+1<=n)(ha:a<bz^m)(h63:n<=9223372036854775807):
  af prog Bs 21 (aF (ag f138 0)) [(0,sl 0 (m+1))] [(0,.view (al (ae bz n a)))] 1 ⟨.normal,[(0,sl 0 m)],[(0,.view (al (ae bz n a)))],1⟩:=by
 have hd:a/bz^m%bz=0:=(He d_ (cF ha (df d_ (yO m)))).2 ha;exact aC [.gt 5 (m+1) 0 true s_,.fh 10 (m+1) 1 m rfl o_,.ix f138 11 0 (m+1) m o_ k_,.ld f138 12 3 0 m (.view (al (ae bz n a))) (vI (a/bz^m%bz)) rfl (dZ (eM o_)) k_,.fZ 13 (a/bz^m%bz) 0 true (by simp[hd]),.fh 18 (m+1) 1 m rfl o_,.upto f138 19 0 (m+1) m 1 o_ k_]
theorem aNs{n:Nat}(hm:m<=n)(ha:a<bz^m)(hl:m=nd bz a)(h63:n<=9223372036854775807):
  af prog Bs 21 (aF (ag f138 0)) [(0,sl 0 m)] [(0,.view (al (ae bz n a)))] 1 ⟨.exit 0,[(0,sl 0 m)],[(0,.view (al (ae bz n a)))],1⟩:=by
 cases m with
 |zero=>exact aC [.gt 5 0 0 false s_]
 |succ m=>
  have hd:a/bz^m%bz≠0:=λe=>by have:=jv (B:=bz) d_ ((He d_ ha).1 e);omega
  exact aC [.gt 5 (m+1) 0 true s_,.fh 10 (m+1) 1 m rfl o_,.ix f138 11 0 (m+1) m o_ k_,.ld f138 12 3 0 m (.view (al (ae bz n a))) (vI (a/bz^m%bz)) rfl (dZ (eM o_)) k_,.fZ 13 (a/bz^m%bz) 0 false (by simp[hd])]
theorem aNt{n:Nat}(ha:a<bz^n)(h63:n<=9223372036854775807):
  af prog Bs 21 (.block 0 (ag f138 0)) [(0,sl 0 n)] [(0,.view (al (ae bz n a)))] 1 ⟨.normal,[(0,sl 0 (nd bz a))],[(0,.view (al (ae bz n a)))],1⟩:=by
 have hle:=jv (B:=bz) d_ ha;have ak:=ek (B:=bz) d_ a
 have:=ch (P:=prog) (B:=Bs) (N:=21) (b:=aF (ag f138 0)) (next:=1) (n-nd bz a) (λi=>[(0,sl 0 (n-i))]) (λ_=>[(0,.view (al (ae bz n a)))])
  (r:=⟨.exit 0,[(0,sl 0 (nd bz a))],[(0,.view (al (ae bz n a)))],1⟩) (λ_ _ _=>Iff.rfl)
  (λi hi=>by
   have e:n-i=(n-(i+1))+1:=by omega
   simp only[e];exact aNr o_ (cF ak (df d_ o_)) h63)
  (by
   have e:n-(n-nd bz a)=nd bz a:=by omega
   simp only[e];exact aNs hle ak rfl h63) n_
 exact bO this
theorem aDe{v:i_}{n:Nat}(hv:dp w v n (al (ae bz n a)))(ha:a<bz^n)(h63:n<=9223372036854775807):
  Calls prog 138 #[v] w λe w'=>e=.returned (NC v (nd bz a))/\Below w.heap.size w w':=by
 refine lN (Q:=λe w'=>e=.returned (NC v (nd bz a))/\Below w.heap.size w w') mixed func138 [.row v n (al (ae bz n a))] (λs hs=>by simp at hs;subst hs;exact⟨hv,mD _⟩) 100 (N:=21) k_
  (rs:=[.code 0 _ _ _ _ _ (aNt ha h63)]) (v:=sl 0 (nd bz a)) (ms:=[]) k_ λay b9 v' w' hc hm _ dK=>⟨?_,hm.base⟩
 cases dK with
 |cons h1 _=>
 congr 1
 rcases hc.hZ rfl with ⟨q1,q2,_,_,q5⟩|⟨b,o,cap,c',q1,q2,q3,q5⟩<;>rcases h1.hZ rfl with ⟨p1,p2,_,_,p5⟩|⟨b2,o2,qb,c2,p1,p2,p3,p5⟩
 ·have p5:v=.slice none 0 0:=p5;rw[q5,p5,q2];rfl
 ·rw[q1]at p1;cases p1
 ·rw[q1]at p1;cases p1
 ·rw[q1]at p1;injection p1 with p1;injection p1 with e1 e2 e3;subst e1;subst e2;subst e3;have p5:v=_:=p5;rw[q5,p5,show c'=c2 by omega];rfl
theorem aDf{y:m_}(ho:dC o.op=some y){n:Nat}{x:Obj}(hx:x.reads=true)(cK:(x.cells.all flat)=true)(hc:(x.cells.drop off).take n=al (ae bz n a))(ha:a<bz^n)(h63:n<=9223372036854775807)(yM:n=0->off=0\/True):
  cA prog Bs o [.func (.func 138) #[] #[],.slice (some ⟨k,off,some 7⟩) n 0] [(k,some x)] (.slice (some ⟨k,off,some 7⟩) (nd bz a) 0) []:=by
 refine j7 (fi:=[]) (ca:=[]) ho k_ λι c w hm hn args' dK=>?_;obtain⟨v,rfl,h1⟩:=nB dK;have hk:c k=some x:=hn _ (aP ..);have hr:=oS (len:=n) hm hk hx (bd.1 cK) (λh=>h) h1;rw[hc]at hr;refine(aDe hr ha h63).mono ?_
 rintro e w' ⟨rfl,hb⟩
 refine⟨ι,_,rfl,Map.le.refl _,?_,hm.call hb⟩;have jK:=jv (B:=bz) d_ ha;rcases h1.hZ rfl with ⟨q1,q2,_,q4,q5⟩|⟨b,oo,cap,c',q1,q2,q3,q5⟩
 ·rw[q5];have:nd bz a=0:=by omega
  dsimp only at q4;rw[this,q4];exact .slcN q1
 ·rw[q5];exact .slc q1 o_ q3
def aU.DN(fn:Func)(key k n a:Nat)(x:Obj)(hx:x.reads=true)(hc:x.cells=al (ae bz n a))(ha:a<bz^n)(h63:n<=9223372036854775807)(ho:dC (aA fn key).op=some (.func 138)):aU prog Bs N:=
 .step key (aA fn key) [.func (.func 138) #[] #[],sl k n] [(k,some x)] (sl k (nd bz a)) [] (aDf ho hx (by rw[hc];exact iv _) (by rw[hc,mg,j8 (by simp[al,oT])]) ha h63 (λ_=>.inr trivial))
section
open Go.Sort (flatK putRowK HoldsK putRow putCells Holds mapBlock grow ahead PermIn SortedIn SWO swp)
section
variable{α:Type}[Inhabited α]{enc:α->ah}{s:Nat}
omit [Inhabited α] in
theorem aDg(h:rE enc s){l:List α}{r:Nat}{x:α}(hx:l[i]?=some x)(hr:r<s):(dy enc l)[i*s+r]?=(enc x)[r]?:=by have e:=PH h hx;rw[<-e,uG,ax hr,EC]
theorem aDh(h:rE enc s)(hs:0<s)(d:Array α):(flatK enc s d).toList=dy enc d.toList:=by
 apply Tu;intro t;by_cases ht:t<d.size*s
 ·have hi:t/s<d.size:=(iG hs).2 ht;have hr:t%s<s:=cJ _ hs;have hx:d.toList[t/s]?=some d[t/s]:=by simp[hi]
  have e:=aDg h hx hr;rw[cP,jx]at e;rw[e];have hl:t%s<(enc d[t/s]).length:=by rw[h.len];exact hr
  have e2:=Go.Sort.get_flatK enc s d t ht;have bC:t<(flatK enc s d).size:=by rw[VX];exact ht
  rw[B7 (flatK enc s d) t bC,B7 d (t/s) hi,B7 (enc d[t/s]) (t%s) hl]at e2;rw[Array.getElem?_toList,yQ bC,e2,aT hl]
 ·rw[AM (by simp;omega),AM (by rw[uc h];simp;omega)]
def aDi(P:j_)(f:FuncId)(g:i_)(enc:α->ah)(s:Nat)(lt:α->α->Bool)(l:List α):Prop:=
 ∀(aI cap:Nat) (w:h_),HoldsK enc s w aI 0 l.toArray->aI<w.heap.size->Calls P f #[.slice (some ⟨aI,0,none⟩) l.length cap,g] w λe w'=>
  e=.returned (.tuple #[])/\∃ d' n os,PermIn 0 l.length l.toArray d'/\SortedIn lt 0 l.length d'/\w'=Go.Proofs.sortWorldK enc s w aI 0 n d' os
theorem aNu{g:FuncId}{cf:α->α->Int}(h:∀ x y:α,aB P g [.agg (enc x).toArray,.agg (enc y).toArray] (.int .i64 (cf x y)))(aI off size:Nat)(w:h_):Go.Proofs.CmpLays P g #[] enc s cf aI off size w:=by
 intro m os dk _ x y;refine(h x y _).mono ?_
 rintro e w' ⟨rfl,hb⟩
 generalize Go.Proofs.sortWorldK enc s w aI off m dk os=W at *;refine⟨rfl,w'.drawn-W.drawn,w'.heap.extract W.heap.size w'.heap.size,?_⟩;obtain⟨heap,tape,drawn,osW,out⟩:=W;obtain⟨aNv,aV6,aV7,os',aV8⟩:=w';obtain⟨⟨h1,h2⟩,h3,h4,h5,h6⟩:=hb;dsimp only at h1 h2 h3 h4 h5 h6;subst h1;subst h3;subst h4;unfold grow World.drewN;dsimp only
 congr 1
 ·apply Array.ext_getElem?;intro k;by_cases hk:k<heap.size
  ·rw[h6 k hk,aDj hk]
  ·rw[Array.getElem?_append_right o_,Array.getElem?_extract];by_cases gv:k<aNv.size
   ·rw[ax o_];congr 1;omega
   ·rw[ao o_,YX o_]
 ·omega
theorem aNw{g:i_}{lt:α->α->Bool}{l l':List α}{x:m_}(h:rE enc s)(hs:0<s)(hso:aDi P f g enc s lt l)(hg:flat g=true)(ho:dC o.op=some x)(eY:fN P f=true)(k:Nat)
  (aNx:l=[]->aB P f [.slice none 0 0,g] (.tuple #[])) (dh:∀ d:List α,d.Perm l->(∀ i j,i<j->j<d.length->∀ x y,d[i]?=some x->d[j]?=some y->lt y x=false)->d=l') :
  cA P B o [.func (.func f) #[] #[],.slice (some ⟨k,0,some 7⟩) l.length 0,g] [(k,some (.row (dy enc l) ty s))] (.tuple #[]) [(k,.row (dy enc l') ty s)]:=by
 refine j7 (fi:=[]) (ca:=[]) ho eY λι c w hm hn args' dK=>?_;obtain⟨v,u,rfl,h1,h2⟩:=js (by simpa using dK);have hu:=h2.fk hg;subst hu;have hk:=hn (k,_) (aP ..);rcases h1.hZ rfl with ⟨q1,q2,_,_,q5⟩|⟨b,oo,cap,c',q1,q2,q3,q5⟩
 ·have hl:l=[]:=kO q2;subst hl;have e:l'=[]:=(dh [] (.refl _) λi j _ hj=>by simp at hj).symm;subst e;rw[q5];refine(aNx rfl w).mono ?_
  rintro e w' ⟨rfl,hb⟩
  refine⟨ι,_,rfl,Map.le.refl _,.same rfl,((hm.call hb).ext λj=>?_)⟩;show bh c k _ j=c j;unfold bh;by_cases hj:j=k
  ·rw[ax hj,hj];exact hk.symm
  ·rw[ao hj]
 ·obtain⟨lo,p1,p2⟩:=hm.born k _ hk;dsimp only at q1;rw[q1]at p1;injection p1 with p1;subst p1;rcases p2 with p2|⟨b',bE,cur,e1,l4,dP,fQ,jt⟩
  ·cases p2.1
  injection e1 with e1 e2 e3;subst e1;subst e2;subst e3;have iB:=(hm.own k _ b 0 cap hk rfl q1).1;have aDk:cur.toList.take (dy enc l).length=dy enc l:=nC jt (Li h l);have hlen:(dy enc l).length=l.length*s:=uc h l;have hle:l.length*s<=cur.size:=by have:=cL List.length aDk;rw[jr,hlen]at this;simp at this;omega
  have mP:(flatK enc s l.toArray).toList=dy enc l:=aDh h hs l.toArray;have hold:HoldsK enc s w b 0 l.toArray:=by
   intro j hj;rw[VX]at hj;simp only[MR]at hj;have P9:j<cur.size:=by omega
   have bC:j<(flatK enc s l.toArray).size:=by rw[VX];simpa using hj
   have e:cur[j]=(flatK enc s l.toArray)[j]:=by
    have e1:(cur.toList.take (dy enc l).length)[j]?=(dy enc l)[j]?:=by rw[aDk]
    rw[uG,ax (by rw[hlen];exact hj),<-mP]at e1;rw[Array.getElem?_toList,Array.getElem?_toList,yQ P9,yQ bC]at e1;injection e1
   refine⟨?_,?_⟩
   ·rw[B7 _ j bC];simp[World.cell?,l4,P9,e]
   ·simp[World.frozen?,l4]
  rw[q5];refine(hso b c' w hold iB).mono ?_
  rintro e w' ⟨rfl,d',n,os,hp,VY,rfl⟩
  obtain⟨iN,EH,hp3⟩:=hp;have OH:d'.toList=l':=by
   refine dh _ ?_ λi j pz hj x y hx hy=>?_
   ·have e1:d'.extract 0 l.length=d':=by rw[<-MR,<-iN];exact Array.extract_size
    have e2:l.toArray.extract 0 l.length=l.toArray:=by rw[<-MR];exact Array.extract_size
    rw[e1,e2]at hp3;simpa using hp3
   ·have fK:j<d'.size:=by simpa using hj
    have hz:d'.size=l.length:=by rw[iN];simp
    have:=VY i j (jH _) pz o_;rw[B7 d' i o_,B7 d' j fK]at this;rw[Array.getElem?_toList,yQ o_]at hx;rw[Array.getElem?_toList,yQ fK]at hy;injection hx with hx;injection hy with hy;rw[hx,hy]at this;exact this
  have hz:d'.size=l.length:=by rw[iN];simp
  have Bl:l'.length=l.length:=by rw[<-OH];simpa using hz
  refine⟨ι,_,rfl,Map.le.refl _,.same rfl,?_⟩;have A5:(flatK enc s d').toList=dy enc l':=by rw[aDh h hs,OH]
  have hF:(flatK enc s d').size=l.length*s:=by rw[VX,hz]
  show aM B ι (bh c k (.row (dy enc l') ty s)) _;have hW:(Go.Proofs.sortWorldK enc s w b 0 n d' os).heap=w.heap.modify b (Go.Sort.onCells (putCells id 0 (flatK enc s d')))++os:=rfl;have aNy:(Go.Proofs.sortWorldK enc s w b 0 n d' os).heap[b]?=some (.cells (putCells id 0 (flatK enc s d') cur) ty (0,0)):=by rw[hW,aDj (by simpa using iB),Ys,ax rfl,l4];rfl
  have hcz:(putCells id 0 (flatK enc s d') cur).size=cur.size:=by simp[putCells]
  refine hm.write hk rfl q1 ⟨rfl,J7 _ _⟩ rfl rfl ?_ (λj hj E8=>?_) (.inr ⟨b,cap,_,rfl,aNy,dP,by rw[hcz,fQ],?_⟩) n_ rfl
  ·rw[hW];simp
  ·rw[hW,aDj (by simpa using hj),Ys,ao (λe=>E8 e.symm)]
  ·have e:(putCells id 0 (flatK enc s d') cur).toList.take (dy enc l').length=dy enc l':=by
    rw[uc h,Bl,<-A5];apply Tu;intro j;rw[uG];by_cases hj:j<l.length*s
    ·rw[ax hj];have P9:j<cur.size:=by omega
     have bC:j<(flatK enc s d').size:=by rw[hF];exact hj
     rw[Array.getElem?_toList,Array.getElem?_toList,yQ bC];unfold putCells;rw[Array.getElem?_mapIdx,yQ P9];simp only[RU,Hc,id_eq];rw[ax ⟨jH _,by rw[hF];omega⟩,B7 _ j bC]
    ·rw[ao hj,AM (by simp[hF];omega)]
   rw[e];exact kM (Li h l')
end
end
section
variable{P:j_}{B:aa}{N:Nat}
def Qa(P:j_)(o:Oper):Option (TypeId×Nat×Value):=match o.op with
 |.call c=>match c.callee,c.args.toList,c.argTypes.toList with
  |.builtin .clear,[_],[t]=>(match P.underlying t with
   |some (.slice e)=>(match P.info? e with|some i=>(match i.zero with|some z=>some (e,i.size,z)|none=>none)|none=>none)
   |_=>none)
  |_,_,_=>none
 |_=>none
theorem aNz{s:Nat}{z:i_}(ho:Qa P o=some (e,s,z)):∃ x t i,o.op=.call { callee:=.builtin .clear,args:=#[x],argTypes:=#[t]}/\P.underlying t=some (.slice e)/\P.info? e=some i/\i.zero=some z/\i.size=s:=by
 unfold Qa at ho;split at ho
 ·rename_i c bY;split at ho
  ·rename_i x t h1 h2 h3;split at ho
   ·rename_i e' ht;split at ho
    ·rename_i i hi;split at ho
     ·rename_i z' hz;injection ho with ho;injection ho with q1 ho;injection ho with q2 q3;subst q1;subst q2;subst q3;refine⟨x,t,i,?_,ht,hi,hz,rfl⟩;rw[bY];obtain⟨ce,ar,at'⟩:=c;dsimp only at h1 h2 h3;subst h1;have e1:ar=#[x]:=by rw[<-zK (xs:=ar),h2]
      have e2:at'=#[t]:=by rw[<-zK (xs:=at'),h3]
      rw[e1,e2]
     ·cases ho
    ·cases ho
   ·cases ho
  ·cases ho
 ·cases ho
theorem aNA{s:Nat}{z:i_}(ho:Qa P o=some (e,s,z))(h1:∀ v∈z.cells.toList,v.oneCell'=true/\flat v=true){n:Nat}{cells new:ah}(hn:0<n)(hlen:off+n*z.cells.size<=cells.length)
  (je:jc cells off (Builtin.zeroCells z.cells n).toList=new):cA P B o [.slice (some ⟨k,off,some 7⟩) n cc] [(k,some (.row cells e s))] (.tuple #[]) [(k,.row new e s)]:=by
 subst je;obtain⟨x,t,i,bY,ht,hi,hz,rfl⟩:=aNz ho;refine iC.step λι c ρ w aQ hm oP=>?_;have hk:c k=some (.row cells e i.size):=oP _ (aP ..);rw[bY]at aQ;obtain⟨u,hu,hc⟩:=nB aQ;have hu:ρ x=u:=by simpa[Op.operands,Call.operands]using hu
 rcases hc.hZ rfl with ⟨_,q2,_⟩|⟨b,oo,cap,c',hb,lJ,mL,he⟩
 ·omega
 dsimp only at hb he;have Bl:((Builtin.zeroCells z.cells n).toList).length=n*z.cells.size:=by rw[yJ,MN]
 have Iz:∀ v∈(Builtin.zeroCells z.cells n).toList,v.oneCell'=true/\flat v=true:=by
  intro v hv;unfold Builtin.zeroCells at hv;rw[Array.toList_map,dj]at hv;obtain⟨j,hj,rfl⟩:=hv;have hjs:j<n*z.cells.size:=by simpa using hj
  have h0:0<z.cells.size:=by
   rcases nF z.cells.size with h|h
   ·rw[h]at hjs;omega
   ·exact h
  rw[B7 z.cells _ (cJ _ h0)];exact h1 _ s_
 obtain⟨h0,bT,cg,ty,l4,uH⟩:=hm.store hk rfl hb (kM λv hv=>(Iz v hv).2) (o:=off) (by rw[Bl];exact hlen);subst h0;rw[ko]at he;refine⟨ι,.tuple #[],_,Map.le.refl _,.same rfl,bT,.inl ?_⟩
 have run:=run_storeCells_cells (P:=P) b off (Builtin.zeroCells z.cells n).toList 0 w
  (λj hj=>by
   have:j+off<cg.length:=by omega
   simp[World.cell?,l4];omega)
  (λj hj=>by simp[World.frozen?,l4]) λv hv=>(Iz v hv).1
 simp only[jd]at run;obtain⟨m,rfl⟩:∃ m,n=m+1:=⟨n-1,by omega⟩;have ig:(Builtin.clear_ #[t] o.type #[.slice (some ⟨b,off,none⟩) (m+1) c']).run P w=.ok (.tuple #[]) (w.setCells b off (Builtin.zeroCells z.cells (m+1)).toList):=by simp[Builtin.clear_,jF ht,zeroValue,typeInfo,hi,hz,run]
 simp[execOp,bY,resolve,invoke,builtin,hu,he,ig]
theorem aNB{enc:α->ah}{s:Nat}(h:rE enc s){x:α}{z:p_}(hz:z.toList=enc x)(hs:0<s)(n:Nat):(Builtin.zeroCells z n).toList=dy enc (List.replicate n x):=by
 have bC:z.size=s:=by rw[<-yJ,hz,h.len]
 apply Tu;intro t;by_cases ht:t<n*s
 ·have hi:t/s<n:=(iG hs).2 ht;have hr:t%s<s:=cJ _ hs;have e:=aDg h (l:=List.replicate n x) (i:=t/s) (x:=x) (by simp[hi]) hr;rw[cP,jx]at e;rw[e,<-hz];unfold Builtin.zeroCells;rw[Array.toList_map,qW];have:(Array.range (n*z.size)).toList[t]?=some t:=by rw[bC];simp[ht]
  rw[this,RU,bC,B7 z _ o_,Array.getElem?_toList,yQ o_]
 ·rw[AM (by rw[yJ,MN,bC];omega),AM (by rw[uc h];simp;omega)]
def aU.pQ(fn:Func)(key k a n cc i j s:Nat)(hi:i<n)(hj:a+i=j)(ho:w6 P (aA fn key)=some s):aU P B N:=
 .step key (aA fn key) [.slice (some ⟨k,a*s,some 7⟩) n cc,vI i] [] (.pointer (some ⟨k,j*s,some 7⟩)) [] (by have:=Nn (B:=B) ho (k:=k) (off:=a*s) (cc:=cc) (kd:=.i64) hi;rw[<-fF,hj]at this;exact this)
def aU.behind(fn:Func)(key k n a m s:Nat)(hm:a+m=n)(h0:0<m)(ho:su P (aA fn key)=some (true,false,s)):aU P B N:=
 .step key (aA fn key) [.slice (some ⟨k,0,some 7⟩) n 0,vI a] [] (.slice (some ⟨k,a*s,some 7⟩) m a) [] (by have:=Hd (B:=B) ho (k:=k) (off:=0) (n:=n) (cc:=0) (l:=a) (h:=n) n_ (λ_=>rfl) o_ (bA _) (.inl o_);rw[show n-a=m by omega]at this;simpa using this)
def aU.clear(fn:Func)(key k off n cc e s:Nat)(z:i_)(cells new:ah)(h1:∀ v∈z.cells.toList,v.oneCell'=true/\flat v=true)(hn:0<n)(hlen:off+n*z.cells.size<=cells.length)(je:jc cells off (Builtin.zeroCells z.cells n).toList=new)
  (ho:Qa P (aA fn key)=some (e,s,z)):aU P B N:=
 .step key (aA fn key) [.slice (some ⟨k,off,some 7⟩) n cc] [(k,some (.row cells e s))] (.tuple #[]) [(k,.row new e s)] (aNA ho h1 hn hlen je)
end
def aa.jO(B:aa)(ks:List (Value×ah)):aa where
 G w:=B.G w/\∀ p∈ks,dp w p.1 p.2.length p.2
 cS k:=B.cS k\/∃ p∈ks,iL p.1=some k
 ds:=B.ds
 Fa:=B.Fa
 mp:=B.mp
 lt w k h hk:=by
  rcases hk with hk|⟨p,hp,hb⟩
  ·exact B.lt w k h.1 hk
  ·exact(h.2 p hp).lt hb
 dep w w' h h1 h2 h3 h4 h5:=⟨B.dep w w' h.1 h1 h2 h3 h4 λk hk=>h5 k (.inl hk),λp hp=>(h.2 p hp).kept h4 λb hb _ _ _ e=>(h5 b (.inr ⟨p,hp,hb⟩)).trans e⟩
theorem aDl(h:aM B ι c w):aM (B.jO []) ι c w:=
 ⟨⟨h.base,λp hp=>by cases hp⟩,h.dJ,h.born,λk x b o cap e hx hl=>⟨(h.own k x b o cap e hx hl).1,λhF=>by
  rcases hF with hF|⟨p,hp,_⟩
  ·exact(h.own k x b o cap e hx hl).2 hF
  ·cases hp⟩,h.inj,h.apart,h.seen,h.fa,h.one,h.rV⟩
theorem Qb(h:aM (B.jO ks) ι c w)(hm:c m=some (.row xs ty 1))(cK:∀ v∈xs,flat v=true)
  (hu:aK ι (.slice (some ⟨m,0,some 7⟩) xs.length 0) u):aM (B.jO ((u,xs)::ks)) ι (bh c m .dead) w/\flat u=true/\∀ b,iL u=some b->¬B.cS b:=by
 have jE:=oS (len:=xs.length) h hm rfl cK (λe=>e) hu;have jE:dp w u xs.length xs:=by
  have e:((Obj.row xs ty 1).cells.drop 0).take xs.length=xs:=by rw[mg];exact ox
  rwa[e]at jE
 have hk:=h.kill m (by rw[hm];exact n_);have hb:∀ b,iL u=some b->∃ o cap,ι m=some (.at b o cap):=by
  intro b hb;rcases hu.hZ rfl with ⟨_,_,_,_,q5⟩|⟨b',oo,cap,c',q1,_,_,q5⟩
  ·rw[q5]at hb;cases hb
  ·rw[q5]at hb;injection hb with hb;subst hb;exact⟨oo,cap,q1⟩
 have c9:∀ j z,j≠m->bh c m .dead j=some z->c j=some z:=λj z hj e=>by unfold bh at e;rwa[ao hj]at e
 refine⟨⟨⟨h.base.1,λp hp=>?_⟩,hk.dJ,hk.born,λk x b o cap e hx hl=>⟨(hk.own k x b o cap e hx hl).1,λhF=>?_⟩,hk.inj,hk.apart,hk.seen,hk.fa,hk.one,hk.rV⟩,?_,λb hbu hF=>?_⟩
 ·rcases ct.1 hp with rfl|hp
  ·exact jE
  ·exact h.base.2 p hp
 ·rcases hF with hF|⟨p,hp,Kh⟩
  ·exact(hk.own k x b o cap e hx hl).2 (.inl hF)
  ·rcases ct.1 hp with rfl|hp
   ·obtain⟨o',bE,dh⟩:=hb b Kh;by_cases IA:k=m
    ·subst IA;unfold bh at e;rw[ax rfl]at e;injection e with e;subst e;cases hx
    ·exact IA (h.inj k m x _ b o cap o' bE (c9 k x IA e) hx hm rfl hl dh)
   ·exact(hk.own k x b o cap e hx hl).2 (.inr ⟨p,hp,Kh⟩)
 ·rcases hu.hZ rfl with ⟨_,_,_,_,q5⟩|⟨b',oo,cap,c',q1,_,_,q5⟩
  ·rw[q5];rfl
  ·rw[q5];rfl
 ·obtain⟨o,cap,hl⟩:=hb b hbu;exact(h.own m _ b o cap hm rfl hl).2 (.inl hF)
def kJ:List (Nat×Nat)->Nat->Option Nat
 |[],_=>none
 |(j,m)::l,k=>if Nat.beq j k then some m else kJ l k
def rJ(ι:Map)(r:List (Nat×Nat)):Map:=λj=>(kJ r j).bind ι
def Lw:List (Nat×Nat)->Bool
 |[]=>true
 |(_,m)::l=>(l.all λp=>!Nat.beq m p.2)&&Lw l
theorem VZ:∀{r:List (Nat×Nat)} {j m:Nat},kJ r j=some m->(j,m)∈r
 |(i,q)::l,j,m,h=>by
  unfold kJ at h;split at h
  ·rename_i hb;injection h with h;subst h;rw[kt hb];exact aP ..
  ·exact bH _ (VZ h)
theorem V0:∀{r:List (Nat×Nat)},Lw r=true->∀ i j m:Nat,kJ r i=some m->kJ r j=some m->i=j
 |(a,q)::l,h,i,j,m,h1,h2=>by
  unfold Lw at h;rw[cZ,bd]at h;have ih:=V0 h.2;have no:∀ k,kJ l k=some q->False:=λk hk=>by have:=h.1 _ (VZ hk);simp at this
  unfold kJ at h1 h2;split at h1<;>split at h2
  ·rename_i e1 e2;rw[<-kt e1,<-kt e2]
  ·injection h1 with h1;subst h1;exact(no j h2).elim
  ·injection h2 with h2;subst h2;exact(no i h1).elim
  ·exact ih i j m h1 h2
 |[],_,i,j,m,h,_=>by cases h
def IB(a:Addr):Bool:=match a.spot with|some s=>Nat.beq s 7||Nat.beq s 9|none=>false
def xU(r:List (Nat×Nat)):Value->Value
 |.slice (some ad) n c=>if mI ad then(match kJ r ad.block with|some m=>.slice (some ⟨m,ad.off,some 7⟩) n c|none=>.slice (some ad) n c)else .slice (some ad) n c
 |.pointer (some ad)=>if IB ad then(match kJ r ad.block with|some m=>.pointer (some ⟨m,ad.off,ad.spot⟩)|none=>.pointer (some ad))else .pointer (some ad)
 |v=>v
def Ac(r:List (Nat×Nat)):Value->Value
 |.func f fi ca=>.func f (fi.toList.map (xU r)).toArray (ca.toList.map (xU r)).toArray
 |v=>xU r v
def Gc(r:List (Nat×Nat)):Value->Bool
 |.slice (some ad) _ _=>if mI ad then(kJ r ad.block).isSome else lZ ad
 |.pointer (some ad)=>if IB ad then(kJ r ad.block).isSome else lZ ad
 |v=>flat v&&!mJ v
def Ad(r:List (Nat×Nat)):Value->Bool
 |.func _ fi ca=>fi.toList.all (Gc r)&&ca.toList.all (Gc r)
 |v=>Gc r v
theorem aDm{a:Addr}(h:IB a=true):lZ a=false:=by
 unfold IB at h;unfold lZ;cases hs:a.spot with
 |none=>rw[hs]at h;cases h
 |some s=>rfl
theorem aNC{r:List (Nat×Nat)}{v:i_}(h:flat v=true):xU r v=v:=by
 unfold xU;split
 ·rename_i ad n c;split
  ·rename_i ho;have:lZ ad=true:=h;rw[MG ho]at this;cases this
  ·rfl
 ·rename_i ad;split
  ·rename_i ho;have:lZ ad=true:=h;rw[aDm ho]at this;cases this
  ·rfl
 ·rfl
theorem aDn{r:List (Nat×Nat)}{v:i_}(au:Gc r v=true)(h:aK ι (xU r v) v'):aK (rJ ι r) v v':=by
 have fl:∀ v:Value,flat v=true->aK ι (xU r v) v'->aK (rJ ι r) v v':=λv hv hc=>by rw[aNC hv]at hc;rw[hc.fk hv];exact .same hv
 unfold Gc at au;split at au
 ·rename_i ad n c;split at au
  ·rename_i ho;cases hr:kJ r ad.block with
   |none=>rw[hr]at au;cases au
   |some m=>
    have IC:xU r (.slice (some ad) n c)=.slice (some ⟨m,ad.off,some 7⟩) n c:=by show(if mI ad=true then(match kJ r ad.block with|some m=>Value.slice (some ⟨m,ad.off,some 7⟩) n c|none=>.slice (some ad) n c)else .slice (some ad) n c)=_;rw[ax ho,hr]
    rw[IC]at h;have hm:rJ ι r ad.block=ι m:=by unfold rJ;rw[hr];rfl
    obtain⟨bl,off,sp⟩:=ad;have uZ:=GX ho;dsimp only at uZ;subst uZ;rcases h.hZ rfl with ⟨q1,q2,q3,q4,q5⟩|⟨b,oo,cap,c',q1,q2,q3,q5⟩
    ·dsimp only at q1 q4 hm;rw[q5,q2,q3,q4];exact .slcN (hm.trans q1)
    ·dsimp only at q1 hm q5;rw[q5];exact .slc (hm.trans q1) q2 q3
  ·exact fl _ au h
 ·rename_i ad;split at au
  ·rename_i ho;cases hr:kJ r ad.block with
   |none=>rw[hr]at au;cases au
   |some m=>
    have IC:xU r (.pointer (some ad))=.pointer (some ⟨m,ad.off,ad.spot⟩):=by show(if IB ad=true then(match kJ r ad.block with|some m=>Value.pointer (some ⟨m,ad.off,ad.spot⟩)|none=>.pointer (some ad))else .pointer (some ad))=_;rw[ax ho,hr]
    rw[IC]at h;have hm:rJ ι r ad.block=ι m:=by unfold rJ;rw[hr];rfl
    obtain⟨bl,off,sp⟩:=ad;dsimp only at hm h;generalize hp:Value.pointer (some ⟨m,off,sp⟩)=p at h;cases h with
    |same hf=>subst hp;have:lZ ⟨m,off,sp⟩=true:=hf;rw[aDm (a:=⟨m,off,sp⟩) ho]at this;cases this
    |ptr q=>injection hp with hp;injection hp with hp;injection hp with h1 h2 h3;subst h1;subst h2;subst h3;exact .ptr (hm.trans q)
    |slc q=>cases hp
    |slcN q=>cases hp
    |opq q1 q2 q3=>injection hp with hp;injection hp with hp;injection hp with h1 h2 h3;subst h1;subst h2;subst h3;exact .opq (hm.trans q1) q2 q3
    |fn=>cases hp
    |agg=>cases hp
    |tup=>cases hp
  ·exact fl _ au h
 ·rw[cZ]at au;exact fl _ au.1 h
theorem V1{ι:Map}{r:List (Nat×Nat)}:∀{l l':ah},(l.all (Gc r))=true->bW (aK ι) (l.map (xU r)) l'->bW (aK (rJ ι r)) l l'
 |[],_,_,h=>by cases h;exact .nil
 |v::l,_,au,h=>by
  rw[dT,cZ]at au;cases h with
  |cons h1 h2=>exact .cons (aDn au.1 h1) (V1 au.2 h2)
theorem aDo{r:List (Nat×Nat)}{v:i_}(au:Ad r v=true)(h:aK ι (Ac r v) v'):aK (rJ ι r) v v':=by
 unfold Ad at au;split at au
 ·rename_i f fi ca;rw[cZ]at au;obtain⟨j0,gM,rfl,h1,h2⟩:=h.AH;have g1:=V1 au.1 h1;have g2:=V1 au.2 h2;have:=aK.fn (f:=f) g1 g2;simpa using this
 ·rename_i hn;have:Ac r v=xU r v:=by
   unfold Ac;split
   ·exact absurd rfl (hn _ _ _)
   ·rfl
  rw[this]at h;exact aDn au h
theorem aND(r:List (Nat×Nat)){v:i_}(h:mJ v=false):mJ (Ac r v)=false:=by
 cases v with
 |slice a n c=>
  cases a with
  |none=>rfl
  |some ad=>
   show mJ (if mI ad=true then(match kJ r ad.block with|some m=>Value.slice (some ⟨m,ad.off,some 7⟩) n c|none=>.slice (some ad) n c)else .slice (some ad) n c)=false;split
   ·split<;>rfl
   ·rfl
 |pointer a=>
  cases a with
  |none=>rfl
  |some ad=>
   show mJ (if IB ad=true then(match kJ r ad.block with|some m=>Value.pointer (some ⟨m,ad.off,ad.spot⟩)|none=>.pointer (some ad))else .pointer (some ad))=false;split
   ·split<;>rfl
   ·rfl
 |func f fi ca=>rfl
 |_=>exact h
theorem aDp{ι:Map}{r:List (Nat×Nat)}:∀{l l':ah},(l.all (Ad r))=true->bW (aK ι) (l.map (Ac r)) l'->bW (aK (rJ ι r)) l l'
 |[],_,_,h=>by cases h;exact .nil
 |v::l,_,au,h=>by
  rw[dT,cZ]at au;cases h with
  |cons h1 h2=>exact .cons (aDo au.1 h1) (aDp au.2 h2)
def DO(r:List (Nat×Nat)):Obj->Obj
 |.aI cs ty=>.aI (cs.map (Ac r)) ty
 |x=>x
def ID(r:List (Nat×Nat)):Obj->Prop
 |.aI cs _=>(cs.all (Ad r))=true
 |.fact _=>True
 |.dead=>True
 |x=>∀ v∈x.cells,flat v=true
theorem IE(r:List (Nat×Nat))(x:Obj):(DO r x).owns=x.owns/\(DO r x).jN=x.jN:=by cases x<;>exact⟨rfl,rfl⟩
theorem aNE{l:pY}{r:List (Nat×Nat)}{x:Obj}(au:ID r x)(h:iM ι w l (DO r x)):iM (rJ ι r) w l x:=by
 have fl:∀{cs cg:ah},(∀ v∈cs,flat v=true)->bW (aK ι) cs cg->bW (aK (rJ ι r)) cs cg:=λhf h=>by rw[nC h hf];exact kM hf
 cases x with
 |aI cells ty=>
  obtain⟨b,cg,e1,e2,e3⟩:=h;exact⟨b,cg,e1,aDp au e2,e3⟩
 |row cells ty size=>
  rcases h with h|⟨b,cap,cur,e1,e2,e3,e4,e5⟩
  ·exact .inl h
  ·exact .inr ⟨b,cap,cur,e1,e2,e3,e4,fl au e5⟩
 |view cells=>
  rcases h with h|⟨b,o,cap,cs,e1,e2,e3⟩
  ·exact .inl h
  ·exact .inr ⟨b,o,cap,cs,e1,fl au e2,e3⟩
 |fact F=>exact h
 |dead=>trivial
theorem aNF(h:aM B ι c w)(rk:∀ k,B.mp k=none){r:List (Nat×Nat)}(jK:Lw r=true)(lk:∀ j,ai L j=none↔kJ r j=none)
  (hL:∀ j x m,ai L j=some x->kJ r j=some m->ID r x/\c m=some (DO r x)):aM B (rJ ι r) (ai L) w:=by
 have src:∀ j x,ai L j=some x->∃ m,kJ r j=some m/\ID r x/\c m=some (DO r x)/\rJ ι r j=ι m:=λj x e=>by
  cases hr:kJ r j with
  |none=>rw[(lk j).2 hr]at e;cases e
  |some m=>
   obtain⟨h1,h2⟩:=hL j x m e hr;exact⟨m,rfl,h1,h2,by unfold rJ;rw[hr];rfl⟩
 refine⟨h.base,λk e=>?_,λk x e=>?_,λk x b o cap e hx hl=>?_,λk j x y b o cap o' bE e hx e' hy hl dh=>?_,λk j x F b o cap v e hx hl e' hv=>?_,λk x b o cap e hx hl=>?_,λj F e=>?_,λj k F F' e e' h1 h2=>?_,λk l e=>?_⟩
 ·unfold rJ;rw[(lk k).1 e];rfl
 ·obtain⟨m,_,h2,h3,h4⟩:=src k x e;obtain⟨l,q1,q2⟩:=h.born m _ h3;exact⟨l,h4.trans q1,aNE h2 q2⟩
 ·obtain⟨m,_,_,h3,h4⟩:=src k x e;exact h.own m _ b o cap h3 ((IE r x).1.trans hx) (h4▸hl)
 ·obtain⟨m,h1,_,h3,h4⟩:=src k x e;obtain⟨m',oM,_,Gd,Lx⟩:=src j y e';have:=h.inj m m' _ _ b o cap o' bE h3 ((IE r x).1.trans hx) Gd ((IE r y).1.trans hy) (h4▸hl) (Lx▸dh);subst this;exact V0 jK k j m h1 oM
 ·obtain⟨m,_,_,h3,h4⟩:=src k x e;obtain⟨m',_,_,Gd,Lx⟩:=src j _ e';exact h.apart m m' _ F b o cap v h3 ((IE r x).1.trans hx) (h4▸hl) Gd (Lx▸hv)
 ·obtain⟨m,_,_,h3,h4⟩:=src k x e;obtain⟨p1,p2⟩:=h.seen m _ b o cap h3 ((IE r x).2.trans hx) (h4▸hl);refine⟨p1,λj y o' bE e' hy dh=>?_⟩;obtain⟨m',_,_,Gd,Lx⟩:=src j y e';exact p2 m' _ o' bE Gd ((IE r y).1.trans hy) (Lx▸dh)
 ·obtain⟨m,_,_,h3,_⟩:=src j _ e;exact h.fa m F h3
 ·obtain⟨m,q1,_,h3,_⟩:=src j _ e;obtain⟨m',AL,_,Gd,_⟩:=src k _ e';have:=h.one m m' F F' h3 Gd h1 h2;subst this;exact V0 jK j k m q1 AL
 ·rw[rk k]at e;cases e
def St(B:aa)(N:Nat)(fr:aN)(M:aH)(next:Nat)(a:Act)(w:h_):Prop:=∃ ι cc,fA B ι (bI fr) N a/\aM B ι cc w/\da cc M/\eU cc next
section
variable{P:j_}{B:aa}{N:Nat}
theorem qL{c:Code}{next:Nat}{r:lK}{a:Act}{Q:Exit->Act->World->Prop}(g:af P B N c fr M next r)(h:St B N fr M next a w)
  (hQ:∀ a' w',St B N r.fr r.M r.next a' w'->Q r.ex.AU a' w'):c.wpIn (FW none) 0 P Q a w:=by
 obtain⟨ι,cc,h1,h2,h3,h4⟩:=h;exact g none ι cc a w Q h1 h2 h3 h4 λay b9 a' w' _ q2 q3 q4 q5 _ _=>hQ a' w' ⟨ay,b9,q2,q3,q4,q5⟩
theorem aDq{b:Code}{Q:Exit->Act->World->Prop}{a:Act}(n:Nat)(Inv:Nat->Act->World->Prop)(h0:Inv 0 a w)
  (body:∀ i,i<n->∀ a w,Inv i a w->∀ K:Act->World->Prop,(∀ a' w',Inv (i+1) a' w'->K a' w')->b.wpIn (FW none) 0 P (Exit.then K Q) a w)
  (last:∀ a w,Inv n a w->b.wpIn (FW none) 0 P (Exit.then (λ_ _=>False) Q) a w):(Code.loop b).wpIn (FW none) 0 P Q a w:=by
 refine SC (n+1) ?_;have key:∀ d i,i+d=n->∀ a w,Inv i a w->Code.roundsIn (FW none) 0 P b Q (d+1) a w:=by
  intro d;induction d with
  |zero=>
   intro i hi a w h;have:i=n:=by omega
   subst this;rw[EX];exact last a w h
  |succ d ih=>
   intro i hi a w h;rw[EX];exact body i o_ a w h _ λa' w' h'=>ih (i+1) o_ a' w' h'
 exact key n 0 o_ a w h0
theorem St.Ly{s8:aN}{next:Nat}{a:Act}(h:St B N fr M next a w)(rk:∀ k,B.mp k=none)(r:List (Nat×Nat))(jK:Lw r=true)(lk:L.map (·.1)=r.map (·.1))
  (au:∀ p∈L,ID r p.2) (hL:(r.map λp=>ai M p.2)=L.map λp=>some (DO r p.2)) (Zl:(L.map λp=>ai L p.1)=L.map λp=>some p.2) (mP:(s8.all λp=>Ad r p.2)=true) (hs:(s8.map λp=>bI fr p.1)=s8.map λp=>Ac r p.2) (hn:(r.all λp=>Nat.blt p.1 n2)=true):St B N s8 L n2 a w:=by
 obtain⟨ι,cc,h1,h2,h3,h4⟩:=h;have hk:∀{L:aH} {r:List (Nat×Nat)},L.map (·.1)=r.map (·.1)->∀ j,ai L j=none↔kJ r j=none:=by
  intro L;induction L with
  |nil=>intro r e j;cases r with
   |nil=>exact⟨λ_=>rfl,λ_=>rfl⟩
   |cons p r=>cases e
  |cons q L ih=>intro r e j;cases r with
   |nil=>cases e
   |cons p r=>
    injection e with e1 e2;obtain⟨q1,q2⟩:=q;obtain⟨p1,p2⟩:=p;dsimp only at e1;subst e1;unfold ai kJ;cases Nat.beq q1 j with
    |true=>simp
    |false=>simpa using ih e2 j
 have aNG:∀{L:aH} {r':List (Nat×Nat)},L.map (·.1)=r'.map (·.1)->(r'.map λp=>ai M p.2)=L.map (λp=>some (DO r p.2))->∀ j x m,ai L j=some x->kJ r' j=some m->ai M m=some (DO r x):=by
  intro L;induction L with
  |nil=>intro r' _ _ j x m e;cases e
  |cons q L ih=>intro r' e e' j x m hx hm;cases r' with
   |nil=>cases e
   |cons p r'=>
    injection e with e1 e2;injection e' with e3 e4;obtain⟨q1,q2⟩:=q;obtain⟨p1,p2⟩:=p;dsimp only at e1 e3;subst e1;unfold ai at hx;unfold kJ at hm;cases hb:Nat.beq q1 j with
    |true=>
     rw[hb]at hx hm;simp only[qS]at hx hm;injection hx with hx;injection hm with hm;subst hx;subst hm;exact e3
    |false=>
     rw[hb]at hx hm;simp only[uR,uT]at hx hm;exact ih e2 e4 j x m hx hm
 refine⟨rJ ι r,ai L,⟨h1.defers,h1.size,λt=>?_⟩,aNF h2 rk jK (hk lk) (λj x m e hr=>⟨au _ (jf e),h3 m _ (aNG lk hL j x m e hr)⟩),λk x e=>e,λk qY=>?_⟩
 ·have aY:∀{s8:aN},(s8.all λp=>Ad r p.2)=true->(s8.map λp=>bI fr p.1)=(s8.map λp=>Ac r p.2)->(mJ (bI s8 t)=true)\/(Ad r (bI s8 t)=true/\bI fr t=Ac r (bI s8 t)):=by
   intro s8;induction s8 with
   |nil=>exact λ_ _=>.inl rfl
   |cons p l ih=>
    intro ho he;rw[dT,cZ]at ho;injection he with e1 e2;obtain⟨p1,p2⟩:=p;rw[show bI ((p1,p2)::l) t=if Nat.beq p1 t=true then p2 else bI l t from rfl];by_cases hb:Nat.beq p1 t=true
    ·have:=kt hb;subst this;rw[ax hb];exact .inr ⟨ho.1,e1⟩
    ·rw[ao hb];exact ih ho.2 e2
  rcases aY mP hs with h|⟨q1,q2⟩
  ·exact .inl h
  ·have tA:=h1.slot t;rw[q2]at tA;have Ft:mJ (Ac r (bI s8 t))=false:=by
    refine aND r ?_;generalize bI s8 t=v at *;unfold Ad at q1;split at q1
    ·rfl
    ·unfold Gc at q1;split at q1
     ·rfl
     ·rfl
     ·rw[cZ]at q1;simpa using q1.2
   exact .inr (aDo q1 (tA.AJ Ft))
 ·refine(hk lk k).2 ?_;cases e:kJ r k with
  |none=>rfl
  |some m=>
   have:=bd.1 hn _ (VZ e);simp at this;omega
theorem aDs{c:Code}{next:Nat}{cc:g_}
  (hf:P.funcs[f]?=some fn) (hb:fn.body=some c) (hN:N=args.length+(fn.ntmps-args.length)) (dK:bW (aK ι) args args') (hm:aM B ι cc w) (ha:da cc M) (hu:eU cc next) (mQ:B.ds=[])
  (h:∀ a,St B N (jR 0 args) M next a w->c.wpIn (FW none) 0 P (bodyPost P fn Q) a w):Calls P f args'.toArray w Q:=by
 refine calls_of_wp hf hb (Zw (h _ ⟨ι,cc,⟨mQ.symm,by simp[hN,dK.length],λt=>?_⟩,hm,ha,hu⟩));rcases Ni dK 0 t (List.replicate (fn.ntmps-args'.length) undef)with h|h
 ·simp only[jH,qS,Hc]at h;have e:(args'.toArray++Array.replicate (fn.ntmps-args'.toArray.size) undef).getD t undef=(args'++List.replicate (fn.ntmps-args'.length) undef).getD t undef:=by simp[qg,EK,<-Array.getElem?_toList]
  dsimp only;rw[e];exact h
 ·exact .inl h
theorem aDt{next:Nat}{v:i_}{a:Act}(h:St B N fr M next a w)(mQ:B.ds=[])(hv:A2 P fn fr M=some v)
  (hQ:∀ ι cc v',aM B ι cc w->da cc M->aK ι v v'->Q (.returned v') w):bodyPost P fn Q .ret a w/\bodyPost P fn Q .normal a w:=by
 obtain⟨ι,cc,h1,h2,h3,_⟩:=h;obtain⟨v',hc,qd⟩:=Nh (fn:=fn) h1 h2 h3 hv;have:=hQ ι cc v' h2 h3 hc;exact⟨⟨h1.defers.trans mQ,v',qd,this⟩,⟨h1.defers.trans mQ,v',qd,this⟩⟩
end
section
variable{P:j_}{B:aa}{N:Nat}
theorem aNH{z:i_}(ho:Ba P o=some (0,[],e,size,z))(k:Nat):cA P B o [] [(k,none)] (.slice (some ⟨k,0,some 7⟩) 0 0) [(k,.row [] e size)]:=by
 unfold Ba at ho;split at ho
 ·rename_i t lP parts bY;split at ho
  ·rename_i e' ht;split at ho
   ·rename_i i hi;split at ho
    ·rename_i z' hz;injection ho with ho;injection ho with h1 ho;injection ho with h2 ho;injection ho with h3 ho;injection ho with h4 h5;subst h1;subst h3;subst h4;subst h5;refine iC.step λι c ρ w aQ hm hn=>?_;have hk:c k=none:=hn _ (aP ..);have hp:parts=#[]:=by
      have:parts.toList=[]:=by simpa using h2
      exact Il.1 this
     subst hp;have uH:Map.le ι _:=gN (l:=.at w.heap.size 0 0) (hm.dJ k hk);have je:=G3 (ty:=e') (size:=i.size) (cap:=0) (rest:=#[]) hm hk (.nil:bW (aK ι) [] []) (jH _) s_;refine⟨_,.slice (some ⟨w.heap.size,0,none⟩) 0 0,_,uH,.slc (o:=0) (off:=0) (fP _ _ _) (bA _) rfl,je,.inl ?_⟩;simp only[execOp,bY];simp[Instr.buildSlice,jF ht,sizeOf,typeInfo,hi,newRow,Instr.fill,newObj,Sem.run];have e0:∀ f:Nat->Value,Array.map f (Array.range 0)=#[]:=λf=>Il.1 (by rw[Array.toList_map,Array.toList_range];rfl);rw[e0]
    ·cases ho
   ·cases ho
  ·cases ho
 ·cases ho
theorem aNI{idx:l_}{z:i_}(ho:Ba P o=some (len,idx,e,size,z)){cells:p_}(Iz:∀ v∈z.cells.toList,flat v=true)(wK:0<z.cells.size)
  (CZ:J8 size len z (idx.zip vs)=some cells) (bC:cells.size=len*size) (zn:0<len*size) (hle:len*size<=16777216) (k:Nat) :
  cA P B o vs [(k,none)] (.slice (some ⟨k,0,some 7⟩) len 0) [(k,.row cells.toList e size)]:=by
 unfold Ba at ho;split at ho
 ·rename_i t lP parts bY;split at ho
  ·rename_i e' ht;split at ho
   ·rename_i i hi;split at ho
    ·rename_i z' hz;injection ho with ho;injection ho with h1 ho;injection ho with h2 ho;injection ho with h3 ho;injection ho with h4 h5;subst h1;subst h2;subst h3;subst h4;subst h5;refine iC.step λι c ρ w aQ hm hn=>?_;have hk:c k=none:=hn _ (aP ..);rw[bY]at aQ;obtain⟨cQ,aDu⟩:∃ cQ,List.map ρ (parts.toList.map (·.2))=cQ:=⟨_,rfl⟩;have tA:bW (aK ι) vs cQ:=by rw[<-aDu];simpa[Op.operands]using aQ
     have cd:List.map (λx=>(x.fst,ρ x.snd)) parts.toList=(parts.toList.map (·.1)).zip cQ:=NP parts.toList aDu;have h0z:bW (aK ι) ((Array.range (lP*i.size)).map (z'.cells[·%z'.cells.size]!)).toList ((Array.range (lP*i.size)).map (z'.cells[·%z'.cells.size]!)).toList:=kM λv hv=>by rw[Array.toList_map,dj]at hv;obtain⟨j,_,rfl⟩:=hv;rw[B7 z'.cells _ (cJ _ wK)];exact Iz _ s_
     obtain⟨cells',aNJ,jt⟩:=P0 (ι:=ι) (place:=λj=>some (j*i.size,i.size)) (parts.toList.map λp:Nat×Operand=>p.1) tA h0z CZ;have aNK:cells'.size=lP*i.size:=by rw[<-yJ,<-jt.length,yJ,bC]
     have NQ:lP<=maxLen:=by have:lP<=lP*i.size:=Ff _ (Nat.pos_of_mul_pos_left zn);simp[maxLen];omega
     have uH:Map.le ι _:=gN (l:=.at w.heap.size 0 lP) (hm.dJ k hk);have je:=G3 (ty:=e') (size:=i.size) (cap:=lP) (rest:=#[]) hm hk jt NQ (by simpa using aNK);refine⟨_,.slice (some ⟨w.heap.size,0,none⟩) lP lP,_,uH,.slc (o:=0) (off:=0) (fP _ _ _) (bA _) o_,je,.inl ?_⟩;have h0:¬(lP*i.size=0):=by omega
     have h1:¬(16777216<lP*i.size):=by omega
     simp only[execOp,bY];simp[Instr.buildSlice,jF ht,sizeOf,typeInfo,hi,zeroValue,hz,h0,h1,newRow];rw[cd,aNJ];simp[newObj,Sem.run]
    ·cases ho
   ·cases ho
  ·cases ho
 ·cases ho
def aU.Lz(fn:Func)(key k e size:Nat)(z:i_)(ho:Ba P (aA fn key)=some (0,[],e,size,z)):aU P B N:=
 .step key (aA fn key) [] [(k,none)] (.slice (some ⟨k,0,some 7⟩) 0 0) [(k,.row [] e size)] (aNH ho k)
def aU.bsM(fn:Func)(key k len e size:Nat)(idx:l_)(z:i_)(vs:ah)(cells:p_)(x:Obj)(hx:Obj.row cells.toList e size=x)(Iz:∀ v∈z.cells.toList,flat v=true)(wK:0<z.cells.size)
  (CZ:J8 size len z (idx.zip vs)=some cells) (bC:cells.size=len*size) (zn:0<len*size) (hle:len*size<=16777216) (ho:Ba P (aA fn key)=some (len,idx,e,size,z)):aU P B N:=
 .step key (aA fn key) vs [(k,none)] (.slice (some ⟨k,0,some 7⟩) len 0) [(k,x)] (by subst hx;exact aNI ho Iz wK CZ bC zn hle k)
def aU.ap0(fn:Func)(key k m e size bytes q:Nat)(x:Obj)(new:ah)(hx:x.reads=true)(hlen:x.cells.length=m*size)(je:x.cells=new)
  (bC:0<size) (h63:m<=maxLen) (hb:m*bytes<=140737488355328) (ho:Fg P (aA fn key)=some (e,size,bytes,size,true)):aU P B N:=
 .step key (aA fn key) [.slice none 0 0,.slice (some ⟨q,0,some 7⟩) m 0] [(k,none),(q,some x)] (.slice (some ⟨k,0,some 7⟩) m 0) [(k,.row new e size)] (by
  subst je;have hs:Cw B (.slice (some ⟨q,0,some 7⟩) m 0) m x.cells [(q,some x)]:=by have:=ML (B:=B) (k:=q) (off:=0) (m:=m) (cc:=0) hx (len:=m*size) (λh=>by rw[h,kS]);rw[mg,j8 (vC hlen)]at this;exact this
  exact aI3 (B:=B) ho bC hs hlen h63 hb k)
theorem aDv{n:Nat}{nd:q_}{x:m_}(h:kY P f l ty size n xs)(hs:fW B l (vs++ca) nd)(ho:dC o.op=some x)(eY:fN P f=true)(hx:(xs.all flat)=true)(k:Nat):
  cA P B o (.func (.func f) #[] ca.toArray::vs) ((k,none)::nd) (.slice (some ⟨k,0,some 7⟩) n 0) [(k,.row xs ty size)]:=by
 have:=j7 (P:=P) (B:=B) (o:=o) (x:=x) (f:=f) (fi:=[]) (args:=vs) (ca:=ca) (need:=(k,none)::nd) (val:=.slice (some ⟨k,0,some 7⟩) n 0) (cX:=[(k,.row xs ty size)]) ho eY ?_
 ·simpa using this
 ·intro ι c w hm hn args' ha;rw[jG]at ha;refine(h w args' (BM hs hm (λp hp=>hn p (bH _ hp)) ha)).mono ?_
  rintro e w' ⟨v,rfl,h1,h2⟩
  obtain⟨ay,q1,q2,q3⟩:=E2 hm h2 (k:=k) (hn (k,none) (aP ..)) h1 (bd.1 hx);exact⟨ay,v,rfl,q1,q3,q2⟩
def LA(P:j_)(o:Oper):Bool:=match o.op with
 |.call c=>match c.callee,c.args.toList,c.argTypes.toList with
  |.builtin .len,[_],[t]=>(match P.underlying t with|some (.slice _)=>true|_=>false)
  |_,_,_=>false
 |_=>false
theorem aDw(ho:LA P o=true):∃ x t e,o.op=.call { callee:=.builtin .len,args:=#[x],argTypes:=#[t]}/\P.underlying t=some (.slice e):=by
 unfold LA at ho;split at ho
 ·rename_i c bY;split at ho
  ·rename_i x t h1 h2 h3;split at ho
   ·rename_i e ht;refine⟨x,t,e,?_,ht⟩;rw[bY];obtain⟨ce,ar,at'⟩:=c;dsimp only at h1 h2 h3;subst h1;have e1:ar=#[x]:=by rw[<-zK (xs:=ar),h2]
    have e2:at'=#[t]:=by rw[<-zK (xs:=at'),h3]
    rw[e1,e2]
   ·cases ho
  ·cases ho
 ·cases ho
theorem aM.less(hm:aM B ι c w){s:Nat}{cells:ah}(hk:c k=some (.row cells ty s))(m:Nat):aM B ι (bh c k (.row (cells.take m) ty s)) w:=by
 obtain⟨l,h1,h2⟩:=hm.born k _ hk;rcases h2 with ⟨h2,h3⟩|⟨b,cap,cur,e1,e2,e3,e4,e5⟩
 ·subst h3;refine hm.ext λj=>?_;unfold bh;by_cases hj:j=k
  ·rw[ax hj,hj,hk,List.take_nil]
  ·rw[ao hj]
 ·subst e1;refine hm.write hk rfl h1 (.refl w) rfl rfl (bA _) (λ_ _ _=>rfl) (.inr ⟨b,cap,cur,rfl,e2,e3,e4,?_⟩) n_ rfl;have:=e5.take m;rw[MP]at this;rw[jr];exact this
theorem aNL{s:Nat}(ho:su P o=some (false,true,s)){n h sz:Nat}{cells:ah}(hh:h<=n):
  cA P B o [.slice (some ⟨k,0,some 7⟩) n 0,vI h] [(k,some (.row cells ty sz))] (.slice (some ⟨k,0,some 7⟩) h 0) [(k,.row (cells.take m) ty sz)]:=by
 have:=Hd (B:=B) ho (k:=k) (off:=0) (n:=n) (cc:=0) (l:=0) (h:=h) (λ_=>rfl) n_ (jH _) hh (.inr rfl);have h0:cA P B o [.slice (some ⟨k,0,some 7⟩) n 0,vI h] [] (.slice (some ⟨k,0,some 7⟩) h 0) []:=by simpa using this
 intro R ι c a w hv hm hn K Q hK;refine h0 R ι c a w hv hm n_ K Q λay v' w' h1 h2 h3=>hK ay v' w' h1 h2 ?_;exact aM.less h3 (hn (k,_) (aP ..)) m
def aU.cut(fn:Func)(key k n h m s sz ty:Nat)(cells new:ah)(hh:h<=n)(je:cells.take m=new)(ho:su P (aA fn key)=some (false,true,s)):aU P B N:=
 .step key (aA fn key) [.slice (some ⟨k,0,some 7⟩) n 0,vI h] [(k,some (.row cells ty sz))] (.slice (some ⟨k,0,some 7⟩) h 0) [(k,.row new ty sz)] (by subst je;exact aNL ho hh)
end
def Ae:Code->Code|.seq a _=>a|c=>c
def wk:Code->Code|.seq _ b=>b|c=>c
def dz(fn:Func):Code:=match fn.body with|some c=>c|none=>.skip
theorem aNM(l:l_):al l=fE (l.map λx:Nat=>(x:Int)):=by simp[al,fE];intro _ _;rfl
theorem oE.snoc{cs:ah}{i:Int}{l:List Int}(h:oE w fs cs)(hr:dp w u l.length (fE l))(hu:Go.Proofs.YthjhinbiabcfiaaGreatDoor.flat u=true):oE w (fs++[(i,l)]) (cs++[iV i,u]):=by
 induction h with
 |nil=>exact .cons hr hu .nil
 |cons h1 h2 _ ih=>exact .cons h1 h2 ih
section
variable{P:j_}{B:aa}{N:Nat}
theorem aM.aNN(hm:aM B ι c w){s:Nat}{cells:ah}(hk:c k=some (.row cells ty s))(hl:cells'.length=cells.length)(h:∀ cg,bW (aK ι) cells cg->bW (aK ι) cells' cg):aM B ι (bh c k (.row cells' ty s)) w:=by
 obtain⟨l,h1,h2⟩:=hm.born k _ hk;rcases h2 with ⟨h2,h3⟩|⟨b,cap,cur,e1,e2,e3,e4,e5⟩
 ·subst h3;have:cells'=[]:=kO hl;subst this;refine hm.ext λj=>?_;unfold bh;by_cases hj:j=k
  ·rw[ax hj,hj,hk]
  ·rw[ao hj]
 ·subst e1;refine hm.write hk rfl h1 (.refl w) rfl rfl (bA _) (λ_ _ _=>rfl) (.inr ⟨b,cap,cur,rfl,e2,e3,e4,?_⟩) n_ rfl;rw[hl];exact h _ e5
theorem aNO(hm:aM B ι c w){cells:ah}(hk:c k=some (.row cells ty 1)):∃ u,aK ι (.slice (some ⟨k,0,some 7⟩) cells.length 0) u:=by
 obtain⟨l,h1,h2⟩:=hm.born k _ hk;rcases h2 with ⟨h2,h3⟩|⟨b,cap,cur,e1,e2,e3,e4,e5⟩
 ·subst h2;subst h3;exact⟨_,.slcN h1⟩
 ·subst e1;have hl:=e5.length;simp only[jr,yJ,gC]at hl e4;exact⟨_,.slc (c:=0) (c':=cap) h1 o_ o_⟩
theorem St.nil{fr:aN}{M:aH}{next:Nat}{a:Act}{w:h_}(h:St B N fr M next a w)(t:Nat)(ht:bI fr t=.slice none 0 0)(ty:TypeId)(s:Nat):
  St B N ((t,.slice (some ⟨next,0,some 7⟩) 0 0)::fr) ((next,.row [] ty s)::M) (next+1) a w:=by
 obtain⟨ι,cc,h1,h2,h3,h4⟩:=h;have hn:=h4 next (bA _);have hle:Map.le ι (dR ι next .nil):=gN (h2.dJ next hn);refine⟨dR ι next .nil,bh cc next (.row [] ty s),⟨h1.defers,h1.size,λt'=>?_⟩,h2.add hn (.inl ⟨rfl,rfl⟩) n_ n_ n_,λk x e=>?_,λk hk=>?_⟩
 ·have h0:=h1.slot t';rw[show bI ((t,Value.slice (some ⟨next,0,some 7⟩) 0 0)::fr) t'=if Nat.beq t t'=true then .slice (some ⟨next,0,some 7⟩) 0 0 else bI fr t' from rfl];by_cases hb:Nat.beq t t'=true
  ·rw[ax hb];have:=kt hb;subst this;rw[ht]at h0;rw[(h0.AJ rfl).fk rfl];exact .inr (.slcN (fP _ _ _))
  ·rw[ao hb];exact h0.mono hle
 ·unfold ai at e;split at e
  ·rename_i hb;injection e with e;subst e;unfold bh;rw[ax (kt hb).symm]
  ·have:=h3 k x e;have bj:k≠next:=λe'=>by subst e';rw[hn]at this;cases this
   unfold bh;rw[ao bj];exact this
 ·unfold bh;rw[ao o_];exact h4 k o_
theorem St.Qb{next:Nat}{a:Act}{V2:TypeId}{v0:i_}(h:St (B.jO ks) N fr M next a w)
  (hm:ai M m=some (.row xs ty 1)) (cK:(xs.all flat)=true) (hk:ai M k=some (.row (pre++[v0,.slice (some ⟨m,0,some 7⟩) xs.length 0]) V2 2)) (hmk:m≠k) :
  ∃ u,flat u=true/\(∀ b,iL u=some b->¬B.cS b)/\St (B.jO ((u,xs)::ks)) N fr ((k,.row (pre++[v0,u]) V2 2)::(m,.dead)::M) next a w:=by
 obtain⟨ι,cc,h1,h2,h3,h4⟩:=h;obtain⟨u,hu⟩:=aNO h2 (h3 m _ hm);obtain⟨g1,g2,g3⟩:=Go.Proofs.YthjhinbiabcfiaaGreatDoor.Qb h2 (h3 m _ hm) (bd.1 cK) hu;have Ge:bh cc m .dead k=some (.row (pre++[v0,.slice (some ⟨m,0,some 7⟩) xs.length 0]) V2 2):=by unfold bh;rw[ao (λe=>hmk e.symm)];exact h3 k _ hk
 have g4:=g1.aNN (cells':=pre++[v0,u]) Ge s_ λcg hc=>by
  have hl:(pre++[v0,Value.slice (some ⟨m,0,some 7⟩) xs.length 0]).length=cg.length:=hc.length;have c1:=hc.take (pre.length+1);have c2:=hc.drop (pre.length+1);rw[kP]at hl;have e1:(pre++[v0,Value.slice (some ⟨m,0,some 7⟩) xs.length 0]).take (pre.length+1)=pre++[v0]:=by rw[aCN];simp[j8]
  have e2:(pre++[v0,Value.slice (some ⟨m,0,some 7⟩) xs.length 0]).drop (pre.length+1)=[.slice (some ⟨m,0,some 7⟩) xs.length 0]:=by rw[List.drop_append];simp[List.drop_eq_nil_of_le]
  rw[e1]at c1;rw[e2]at c2;obtain⟨x,hx,hxc⟩:=nB c2;have:=JM hxc hu;subst this;rw[<-LB (pre.length+1) cg,hx,show pre++[v0,x]=(pre++[v0])++[x]by simp];exact c1.append (.cons (.same g2) .nil)
 refine⟨u,g2,g3,ι,_,⟨h1.defers,h1.size,h1.slot⟩,g4,λj x e=>?_,λj hj=>?_⟩
 ·unfold ai at e;split at e
  ·rename_i hb;injection e with e;subst e;unfold bh;rw[ax (kt hb).symm]
  ·rename_i hb;have bX:j≠k:=λe'=>hb (by rw[e'];exact EW k);unfold ai at e;split at e
   ·rename_i gW;injection e with e;subst e;unfold bh;rw[ao bX,ax (kt gW).symm]
   ·rename_i gW;have hjm:j≠m:=λe'=>gW (by rw[e'];exact EW m);unfold bh;rw[ao bX,ao hjm];exact h3 j x e
 ·have qY:k<next:=by
   rcases fm k next with h|h
   ·exact h
   ·have:=h4 k h;rw[h3 k _ hk]at this;cases this
  have cN:m<next:=by
   rcases fm m next with h|h
   ·exact h
   ·have:=h4 m h;rw[h3 m _ hm]at this;cases this
  unfold bh;rw[ao o_,ao o_];exact h4 j hj
def aDx(P:j_)(f:FuncId)(l:List aL)(F:Fact):Prop:=
 ∀ w vs,u9 w l vs->Calls P f vs.toArray w λe w'=>∃ v,e=.returned v/\BK w' v F/\(∀ b,F.cS v w' b->w.heap.size<=b)/\Below w.heap.size w w'
end
def Fact.mE(F:Fact)(S:Nat):Fact where
 G v w:=F.G v w/\∀ b,F.cS v w b->S<=b
 cS:=F.cS
 lt v w k h hk:=F.lt v w k h.1 hk
 dep v w w' h hs hk:=by obtain⟨h1,h2⟩:=F.dep v w w' h.1 hs hk;exact⟨⟨h1,λb hb=>h.2 b (h2 b hb)⟩,h2⟩
 rc:=F.rc
 soft hr v w w' h hs hk:=by obtain⟨h1,h2⟩:=F.soft hr v w w' h.1 hs hk;exact⟨⟨h1,λb hb=>h.2 b (h2 b hb)⟩,h2⟩
section
variable{P:j_}{B:aa}{N:Nat}
theorem aNP{F:Fact}{nd:q_}{x:m_}{S:Nat}(h:aDx P f l F)(hs:fW B l vs nd)(ho:dC o.op=some x)(eY:fN P f=true)(wJ:F.rc=false)(hS:∀ w,B.G w->S<=w.heap.size)(k:Nat):
  cA P B o (.func (.func f) #[] #[]::vs) ((k,none)::nd) (.pointer (some ⟨k,0,some 9⟩)) [(k,.fact (F.mE S))]:=by
 have:=j7 (P:=P) (B:=B) (o:=o) (x:=x) (f:=f) (fi:=[]) (args:=vs) (ca:=[]) (need:=(k,none)::nd) (val:=.pointer (some ⟨k,0,some 9⟩)) (cX:=[(k,.fact (F.mE S))]) ho eY ?_
 ·simpa using this
 ·intro ι c w hm hn args' ha;rw[jG,jh]at ha;refine(h w args' (BM hs hm (λp hp=>hn p (bH _ hp)) ha)).mono ?_
  rintro e w' ⟨v,rfl,⟨h1,h2,h3⟩,h4,h5⟩
  have LC:=hS w hm.base;refine⟨dR ι k (.val v),v,rfl,gN (hm.dJ k (hn (k,none) (aP ..))),.opq (fP _ _ _) h2 h3,hm.new h5 (hn (k,none) (aP ..)) ⟨v,rfl,h1,λb hb=>di LC (h4 b hb)⟩ n_ (λF' v' b e1 e2 hF=>?_) rfl λF' e hr=>?_⟩
  ·injection e1 with e1;subst e1;injection e2 with e2;subst e2;exact .inl (h4 b hF)
  ·injection e with e;subst e;have:F.rc=true:=hr;rw[wJ]at this;cases this
structure aNQ(w w':h_)(k8 s1 n1:Nat)(iK:ah)(vl s2 n2:Nat)(jA:ah)(F:Fact)(v1 v2 v3:i_):Prop where
 r1:w'.ownsRow w.heap.size k8 s1 v1 n1 iK
 r2:w'.ownsRow w.heap.size vl s2 v2 n2 jA
 r3:BK w' v3 F
 f3:∀ b,F.cS v3 w' b->w.heap.size<=b
 a12:∀ b,iL v1=some b->iL v2≠some b
 Qc:∀ b,iL v1=some b->¬F.cS v3 w' b
 a23:∀ b,iL v2=some b->¬F.cS v3 w' b
def B8(P:j_)(f:FuncId)(l:List aL)(k8 s1 n1:Nat)(iK:ah)(vl s2 n2:Nat)(jA:ah)(F:Fact)(us:ah):Prop:=
 ∀ w vs,u9 w l vs->Calls P f vs.toArray w λe w'=>∃ v1 v2 v3,e=.returned (.tuple (.agg #[v1,v2,v3]::us).toArray)/\aNQ w w' k8 s1 n1 iK vl s2 n2 jA F v1 v2 v3/\Below w.heap.size w w'
theorem IF(hm:aM B ι c w){n:Nat}{v:i_}(hc:aK ι (.slice (some ⟨k,0,some 7⟩) n cc) v)(hb:iL v=some b):∃ o cap,ι k=some (.at b o cap):=by
 rcases hc.hZ rfl with ⟨_,_,_,_,q5⟩|⟨b',oo,cap,c',q1,_,_,q5⟩
 ·rw[q5]at hb;cases hb
 ·rw[q5]at hb;injection hb with hb;subst hb;exact⟨oo,cap,q1⟩
theorem V4{k3:Nat}{jA us:ah}{F:Fact}(iE:P.follows .mixedOrders=true)(hf:P.funcs[f]?=some fn)(hl:(l.all aL.ok)=true)(n:Nat){N:Nat}(hN:N=(eG 0 l).length+(fn.ntmps-(eG 0 l).length))
  (rs:∀ w,bL P (aa.at w) N) (h:∀ w,oQ (gO (P:=P) fn n (eG 0 l) (ji 0 l) (jB 0 l) (rs w)) [(k1,.row eT A U),(k2,.row jA a1 m1),(k3,.fact (F.mE w.heap.size))] =
   oR (gO fn n (eG 0 l) (ji 0 l) (jB 0 l) (rs w)) (.tuple (.agg #[.slice (some ⟨k1,0,some 7⟩) n1 0,.slice (some ⟨k2,0,some 7⟩) n2 0,.pointer (some ⟨k3,0,some 9⟩)]::us).toArray) [(k1,.row eT A U),(k2,.row jA a1 m1),(k3,.fact (F.mE w.heap.size))])
  (Pt:k1≠k2) (uV:(eT.all flat)=true) (vB:eT.length=n1*U) (gU:(jA.all flat)=true) (lH:jA.length=n2*m1) (hu:(us.all flat)=true):B8 P f l A U n1 eT a1 m1 n2 jA F us:=by
 intro w vs cv;obtain⟨ι,c,h1,h2,h3,h4,h5,h6,h7⟩:=xJ cv (bd.1 hl) 0 _ _ (tH w) n_ (λ_ _=>rfl);refine uO iE hf hN n (h w) h6 h2 h4 h3 λay b9 v' w' hle hc hm dQ=>?_;obtain⟨cQ,rfl,qf⟩:=hc.uD;have hc:bW (aK ay) (.agg #[.slice (some ⟨k1,0,some 7⟩) n1 0,.slice (some ⟨k2,0,some 7⟩) n2 0,.pointer (some ⟨k3,0,some 9⟩)]::us) cQ.toList:=qf;cases aQ:cQ.toList with
 |nil=>rw[aQ]at hc;cases hc
 |cons a t=>
  rw[aQ]at hc;cases hc with
  |cons ha ht=>
   obtain⟨ags,rfl,gk⟩:=ha.GY;have BF:bW (aK ay) [.slice (some ⟨k1,0,some 7⟩) n1 0,.slice (some ⟨k2,0,some 7⟩) n2 0,.pointer (some ⟨k3,0,some 9⟩)] ags.toList:=gk;obtain⟨v1,v2,v3,e3,c1,c2,c3⟩:=Jy BF;have et:=nC ht (bd.1 hu);have g1:=dQ (k1,_) (aP ..);have g2:=dQ (k2,_) (bH _ (aP ..));have g3:=dQ (k3,_) (bH _ (bH _ (aP ..)));have o1:=wZ hm g1 c1 o_ (bd.1 uV);have o2:=wZ hm g2 c2 o_ (bd.1 gU);rw[<-vB,ox]at o1;rw[<-lH,ox]at o2;have o3:=zJ hm g3 c3;have aDy:ay k3=some (.val v3):=by
    obtain⟨lc,q1,u,q2,q3⟩:=hm.born k3 _ g3;subst q2;generalize hp:Value.pointer (some ⟨k3,0,some 9⟩)=p at c3;cases c3 with
    |same h=>subst hp;cases h
    |ptr h=>injection hp with hp;injection hp with hp;injection hp with _ _ hp;cases hp
    |slc h=>cases hp
    |slcN h=>cases hp
    |opq h4 h5 h6=>injection hp with hp;injection hp with hp;injection hp with iN;subst iN;exact h4
    |fn=>cases hp
    |agg=>cases hp
    |tup=>cases hp
   refine⟨v1,v2,v3,?_,⟨o1,o2,⟨o3.1.1,o3.2⟩,o3.1.2,λb qh gW=>?_,λb hb hF=>?_,λb hb hF=>?_⟩,hm.base⟩
   ·congr 2
    rw[<-zK (xs:=cQ),aQ,et]
    congr 2
    congr 1
    rw[<-zK (xs:=ags),e3]
   ·obtain⟨o,cap,q1⟩:=IF hm c1 qh;obtain⟨o',bE,q2⟩:=IF hm c2 gW;exact Pt (hm.inj k1 k2 _ _ b o cap o' bE g1 rfl g2 rfl q1 q2)
   ·obtain⟨o,cap,q1⟩:=IF hm c1 hb;exact hm.apart k1 k3 _ _ b o cap v3 g1 rfl q1 g3 aDy hF
   ·obtain⟨o,cap,q1⟩:=IF hm c2 hb;exact hm.apart k2 k3 _ _ b o cap v3 g2 rfl q1 g3 aDy hF
theorem V5{S n s:Nat}{v:i_}(hm:aM B ι c w')(hk:c k=none)(hr:w'.ownsRow S ty s v n xs)(cK:(xs.all flat)=true)(hB:∀ b,B.cS b->b<S)
  (hold:∀ j y b o cap,c j=some y->ι j=some (.at b o cap)->y.owns=true\/y.jN=true->iL v≠some b) (aNR:∀ j F u b,c j=some (.fact F)->ι j=some (.val u)->iL v=some b->¬F.cS u w' b) :
  ∃ ay,Map.le ι ay/\aM B ay (bh c k (.row xs ty s)) w'/\aK ay (.slice (some ⟨k,0,some 7⟩) n 0) v/\∀ b o cap,ay k=some (.at b o cap)->iL v=some b:=by
 have hle:∀ l,Map.le ι (dR ι k l):=λl=>gN (hm.dJ k hk);rcases hr.2 with ⟨h1,h2⟩|⟨g,cap,cur,h1,h2,h3,h4,h5,h6,h7⟩
 ·have hl:=hr.1;rw[h2,kS]at hl;have hx:xs=[]:=kO hl;subst h1;subst h2;subst hx;exact⟨dR ι k .nil,hle _,hm.add hk (.inl ⟨rfl,rfl⟩) n_ n_ n_,.slcN (fP _ _ _),λb o cap e=>by rw[fP]at e;cases e⟩
 ·subst h1;refine⟨dR ι k (.at g 0 cap),hle _,hm.add hk (.inr ⟨g,cap,cur,rfl,h3,h5,h6,?_⟩) (λb1 o1 lG _ e=>?_) n_ n_,.slc (o:=0) (off:=0) (fP _ _ _) h4 o_,λb1 o1 lG e=>?_⟩
  ·rw[hr.1,h7];exact kM (bd.1 cK)
  ·injection e with e;subst e;refine⟨(wY.1 h3).1,λhF=>by have:=hB _ hF;omega,λj y o' bE hj hy he=>hold j y g o' bE hj he (.inl hy) rfl,λj F u hj hu hF=>aNR j F u g hj hu rfl hF,λj y o' bE hj hy he=>hold j y g o' bE hj he (.inr hy) rfl⟩
  ·rw[fP]at e;injection e with e;injection e with e;subst e;rfl
theorem LD{s2:Nat}{jA:ah}{F:Fact}{us:ah}{nd:q_}{x:m_}{S:Nat}(h:B8 P f l A U n1 eT a1 s2 n2 jA F us)(hs:fW B l vs nd)(ho:dC o.op=some x)(eY:fN P f=true)(wJ:F.rc=false)
  (f1:(eT.all flat)=true) (f2:(jA.all flat)=true) (fu:(us.all flat)=true) (hS:∀ w,B.G w->S<=w.heap.size) (k:Nat) :
  cA P B o (.func (.func f) #[] #[]::vs) ((k,none)::(k+1,none)::(k+2,none)::nd) (.tuple (.agg #[.slice (some ⟨k,0,some 7⟩) n1 0,.slice (some ⟨k+1,0,some 7⟩) n2 0,.pointer (some ⟨k+2,0,some 9⟩)]::us).toArray)
   [(k+2,.fact (F.mE S)),(k+1,.row jA a1 s2),(k,.row eT A U)]:=by
 have:=j7 (P:=P) (B:=B) (o:=o) (x:=x) (f:=f) (fi:=[]) (args:=vs) (ca:=[]) (need:=(k,none)::(k+1,none)::(k+2,none)::nd)
  (val:=.tuple (.agg #[.slice (some ⟨k,0,some 7⟩) n1 0,.slice (some ⟨k+1,0,some 7⟩) n2 0,.pointer (some ⟨k+2,0,some 9⟩)]::us).toArray) (cX:=[(k+2,.fact (F.mE S)),(k+1,.row jA a1 s2),(k,.row eT A U)]) ho eY ?_
 ·simpa using this
 ·intro ι c w hm hn args' ha;rw[jG,jh]at ha;have k0:c k=none:=hn (k,none) s_;have k1:c (k+1)=none:=hn (k+1,none) s_;have k2:c (k+2)=none:=hn (k+2,none) s_;refine(h w args' (BM hs hm (λp hp=>hn p (by simp[hp])) ha)).mono ?_
  rintro e w' ⟨v1,v2,v3,rfl,⟨r1,r2,r3,f3,a12,Qc,a23⟩,hb⟩
  have LC:=hS w hm.base;have vm:=hm.call hb
  -- where aV9 lie
  have c9:∀ j y b o cap,c j=some y->ι j=some (.at b o cap)->y.owns=true\/y.jN=true->b<w.heap.size:=λj y b o cap hj hl hy=>by
   rcases hy with hy|hy
   ·exact(hm.own j y b o cap hj hy hl).1
   ·exact(hm.seen j y b o cap hj hy hl).1
  have Qd:∀ j F u b,c j=some (.fact F)->ι j=some (.val u)->F.cS u w' b->b<w.heap.size:=λj F u b hj hu hF=>by have hF:=hm.Ez hj hu hb.size (λk hk _=>hb.block k hk) hF;obtain⟨l,q1,q2⟩:=hm.born j _ hj;rw[hu]at q1;injection q1 with q1;exact q2.Ey q1.symm hF
  have LF:∀ b,iL v1=some b->w.heap.size<=b:=λb hb=>by
   rcases r1.2 with ⟨h1,_⟩|⟨g,cap,cur,h1,h2,_⟩
   ·rw[h1]at hb;cases hb
   ·rw[h1]at hb;injection hb with hb;subst hb;exact h2
  have aDz:∀ b,iL v2=some b->w.heap.size<=b:=λb hb=>by
   rcases r2.2 with ⟨h1,_⟩|⟨g,cap,cur,h1,h2,_⟩
   ·rw[h1]at hb;cases hb
   ·rw[h1]at hb;injection hb with hb;subst hb;exact h2
  have Qe:∀ b,B.cS b->b<w.heap.size:=λb hF=>B.lt w b hm.base hF;obtain⟨bP,l1,m1,c1,p1⟩:=V5 vm k0 r1 f1 Qe (λj y b o cap hj hl hy e=>by have a:=c9 j y b o cap hj hl hy;have b:=LF b e;omega) (λj F u b hj hu e hF=>by have a:=Qd j F u b hj hu hF;have b:=LF b e;omega);have bn:∀{ι:Map} {c:g_},aM B ι c w'->∀ j y,c j=some y->∃ l,ι j=some l:=λh j y hj=>by obtain⟨l,q,_⟩:=h.born j y hj;exact⟨l,q⟩
  have back:∀{ι bP:Map} {c:g_},aM B ι c w'->Map.le ι bP->∀ j y l,c j=some y->bP j=some l->ι j=some l:=λh hle j y l hj hl=>by obtain⟨l',dh⟩:=bn h j y hj;have:=hle j l' dh;rw[hl]at this;injection this with this;rw[this];exact dh
  have Qf:bh c k (.row eT A U) (k+1)=none:=by unfold bh;rw[ao o_];exact k1
  have LG:∀ j y,bh c k (.row eT A U) j=some y->(j=k/\y=.row eT A U)\/(j≠k/\c j=some y):=λj y hj=>by
   unfold bh at hj;by_cases bX:j=k
   ·rw[ax bX]at hj;injection hj with hj;exact .inl ⟨bX,hj.symm⟩
   ·rw[ao bX]at hj;exact .inr ⟨bX,hj⟩
  obtain⟨dG,l2,m2,c2,p2⟩:=V5 m1 Qf r2 f2 Qe (λj y b o cap hj hl hy e=>by
   rcases LG j y hj with ⟨rfl,rfl⟩|⟨_,hj⟩
   ·exact a12 b (p1 b o cap hl) e
   ·have a:=c9 j y b o cap hj (back vm l1 j y _ hj hl) hy;have b:=aDz b e;omega) (λj F u b hj hu e hF=>by
   rcases LG j _ hj with ⟨_,h⟩|⟨_,hj⟩
   ·cases h
   ·have a:=Qd j F u b hj (back vm l1 j _ _ hj hu) hF;have b:=aDz b e;omega)
  have k2':bh (bh c k (.row eT A U)) (k+1) (.row jA a1 s2) (k+2)=none:=by unfold bh;rw[ao o_,ao o_];exact k2
  have m3:aM B (dR dG (k+2) (.val v3)) (bh (bh (bh c k (.row eT A U)) (k+1) (.row jA a1 s2)) (k+2) (.fact (F.mE S))) w':=
   m2.add k2' ⟨v3,rfl,r3.1,λb hF=>di LC (f3 b hF)⟩ n_ (λF' v b e1 e2 hF j y o' bE hj hy he=>by
    injection e1 with e1;subst e1;injection e2 with e2;subst e2;have hF:F.cS v3 w' b:=hF;have Bf:=hj;unfold bh at hj;by_cases bX:j=k+1
    ·subst bX;exact a23 b (p2 b o' bE he) hF
    ·rw[ao bX]at hj;have he1:=back m1 l2 j y _ hj he;rcases LG j y hj with ⟨rfl,rfl⟩|⟨_,hj⟩
     ·exact Qc b (p1 b o' bE he1) hF
     ·have h1:=c9 j y b o' bE hj (back vm l1 j y _ hj he1) (.inl hy);have h2:=f3 b hF;omega) n_ λF' e hr=>by
    injection e with e;subst e;have:F.rc=true:=hr;rw[wJ]at this;cases this
  have l3:Map.le dG (dR dG (k+2) (.val v3)):=gN (m2.dJ _ k2');refine⟨_,_,rfl,l1.trans (l2.trans l3),.tup ?_,m3⟩;refine .cons (.agg (.cons (c1.mono (l2.trans l3)) (.cons (c2.mono l3) (.cons (.opq (fP _ _ _) r3.2.1 r3.2.2) .nil)))) (kM λv hv=>bd.1 fu v hv)
end
section
variable{P:j_}{B:aa}{N:Nat}
def aU.s9(key i j p:Nat)(h:p=i*j)(hp:p<9223372036854775808):aU P B N:=
 .rw key (.int .i64 (IntKind.i64.wrap ((i:Int)*(j:Int)))) (vI p) (by
  have e:((i:Int)*(j:Int))=((i*j:Nat):Int):=by simp
  rw[e,<-h];have e:IntKind.i64.wrap (p:Int)=(p:Int):=by rw[dX];omega
  rw[e];rfl)
def aU.Gf(key a b r:Nat)(h:r=a%b):aU P B N:=
 .rw key (.int .i64 (Int.tmod (a:Int) (b:Int))) (vI r) (by rw[zk o_,h];rfl)
def aU.Gg(key a b q:Nat)(h:q=a/b)(ha:a<9223372036854775808):aU P B N:=
 .rw key (.int .i64 (IntKind.i64.wrap (Int.tdiv (a:Int) (b:Int)))) (vI q) (by
  rw[A8 o_,h];have e:((a:Int)/(b:Int))=((a/b:Nat):Int):=by simp
  have hq:a/b<=a:=tP _ _;rw[e];have e:IntKind.i64.wrap ((a/b:Nat):Int)=((a/b:Nat):Int):=by rw[dX];omega
  rw[e];rfl)
theorem LH{cells:ah}(iE:P.follows .mixedOrders=true)(hf:P.funcs[f]?=some fn)(hl:(l.all aL.ok)=true)(n:Nat){N:Nat}(hN:N=(eG 0 l).length+(fn.ntmps-(eG 0 l).length))
  (rs:∀ w,bL P (aa.at w) N) (h:∀ w,oQ (gO (P:=P) fn n (eG 0 l) (ji 0 l) (jB 0 l) (rs w)) [(k,.row cells ty size)]=oR (gO fn n (eG 0 l) (ji 0 l) (jB 0 l) (rs w)) (.slice (some ⟨k,0,some 7⟩) m 0) [(k,.row cells ty size)])
  (hx:(cells.all flat)=true) (hlen:m*size<=cells.length) (nO:cells.take (m*size)=xs):kY P f l ty size m xs:=by
 intro w vs cv;obtain⟨ι,c,h1,h2,h3,h4,h5,h6,h7⟩:=xJ cv (bd.1 hl) 0 _ _ (tH w) n_ (λ_ _=>rfl);refine uO iE hf hN n (h w) h6 h2 h4 h3 λay b9 v' w' hle hc hm dQ=>⟨v',rfl,?_,hm.base⟩;have:=wZ hm (dQ (k,_) (aP ..)) hc hlen (bd.1 hx);rwa[nO]at this
end
theorem B9{n:Nat}(h:a<bz^n):(al (ae bz n a)).take (nd bz a*1)=cD a:=by have hle:=jv (B:=bz) d_ h;unfold cD al;rw[gC,<-CI,JS hle]
theorem Gh{n:Nat}(h:a<bz^n):nd bz a*1<=(al (ae bz n a)).length:=by have hle:=jv (B:=bz) d_ h;rw[nP,oT];omega
theorem IG(a:Nat):(jM a).ok=true:=s7 a
theorem IH:(16777216:Nat)=256^3:=by decide
theorem aNS:(a%256^i/bz^(i/3)%bz)+(a/256^i%256*2^(8*(i%3)))=a%256^(i+1)/bz^(i/3)%bz:=by
 have e1:bz^(i/3)=256^(3*(i/3)):=by rw[show bz=256^3 from IH,<-sD]
 have e2:(2:Nat)^(8*(i%3))=256^(i%3):=by rw[sD]
 have e3:256^i=256^(3*(i/3))*256^(i%3):=by rw[<-eP];congr 1;omega
 have hr:256^(i%3)*256<=bz:=by rw[show bz=256^3 from IH,<-dD];exact df d_ o_
 rw[e1,e2];have m1:a%256^i/256^(3*(i/3))=a/256^(3*(i/3))%256^(i%3):=by rw[e3,A7]
 have m2:a%256^(i+1)/256^(3*(i/3))=a/256^(3*(i/3))%(256^(i%3)*256):=by rw[dD,e3,fU,A7]
 have m3:a/256^i%256=a/256^(3*(i/3))/256^(i%3)%256:=by rw[e3,kT]
 rw[m1,m2,m3];generalize a/256^(3*(i/3))=c;have hp:0<256^(i%3):=cI d_;have h1:=cJ c hp;have h3:c%(256^(i%3)*256)=c%256^(i%3)+256^(i%3)*(c/256^(i%3)%256):=Ns;have h4:c%(256^(i%3)*256)<256^(i%3)*256:=cJ _ o_;rw[dU (cF h4 hr),h3,dU (cF h1 (di (Ff _ d_) hr)),cP (c/256^(i%3)%256)]
theorem aNT(h:j≠i/3):a%256^i/bz^j%bz=a%256^(i+1)/bz^j%bz:=by
 have e1:bz^j=256^(3*j):=by rw[show bz=256^3 from IH,<-sD]
 rw[e1];rcases EO h with h1|h1
 ·have k:∀ i,3*j+3<=i->a%256^i/256^(3*j)%bz=a/256^(3*j)%bz:=by
   intro i hi;have e3:256^i=256^(3*j)*(bz*256^(i-3*j-3)):=by rw[show bz=256^3 from IH,<-eP,<-eP];congr 1;omega
   rw[e3,A7,J4]
  rw[k i o_,k (i+1) o_]
 ·have hp:∀ i,i<=3*j->a%256^i/256^(3*j)=0:=by intro i hi;exact mf (cF (cJ _ (cI d_)) (df d_ hi))
  rw[hp i o_,hp (i+1) o_]
theorem aNU{n:Nat}(hi:i/3<n):(ae bz n (a%256^i)).set (i/3) (a%256^(i+1)/bz^(i/3)%bz)=ae bz n (a%256^(i+1)):=by
 apply xa
 ·simp[ae]
 ·intro j h1 h2;simp only[ae,dr,yY]at h2;rw[Hg];simp only[ae,CJ,CK];by_cases hj:i/3=j
  ·rw[ax hj,hj]
  ·rw[ao hj];exact aNT (mN hj)
section
variable{Bs:aa}{N a:Nat}{s:ByteArray}
def aXn(s:ByteArray)(N i:Nat):aN:=[(4,vI i),(0,.string s),(3,sl 0 N)]
def aWM(N a i:Nat):aH:=[(0,.row (al (ae bz N (a%256^i))) 3 1)]
theorem aNV(hN:N=(s.size+2)/3)(ha:a=kC s)(hi:i<s.size)(h63:s.size<35184372088832):
  af prog Bs 38 (aF (ag f119 0)) (aXn s N i) (aWM N a i) 1 ⟨.normal,aXn s N (i+1),aWM N a (i+1),1⟩:=by
 obtain⟨c,gw,dq⟩:=S4 s hi;rw[<-ha]at dq;have xh:i/3<N:=by omega
 have hb:=aNS (a:=a) (i:=i);have h1:a%256^(i+1)/bz^(i/3)%bz<bz:=aNq;have h3:c.toNat*2^(8*(i%3))<=bz:=by rw[dq];omega
 have bT:=wj (l:=ae bz N (a%256^i)) (i:=i/3) (d:=a%256^(i+1)/bz^(i/3)%bz) (by rw[oT];exact xh);rw[aNU xh]at bT;have hg:(ae bz N (a%256^i))[i/3]?=some (a%256^i/bz^(i/3)%bz):=eM xh;have vn:IntKind.i64.wrap ((c.toNat:Int)*2^(min (8*(i%3)) IntKind.i64.bits))=((c.toNat*2^(8*(i%3)):Nat):Int):=by
  have e:(c.toNat:Int)*2^(8*(i%3))=((c.toNat*2^(8*(i%3)):Nat):Int):=by simp
  rw[show min (8*(i%3)) IntKind.i64.bits=8*(i%3)from nZ (show 8*(i%3)<=64 by omega),dX,e];unfold bz at h3;omega
 rw[<-dq]at hb;unfold aWM;generalize al (ae bz N (a%256^(i+1)))=r1 at *;generalize oj:al (ae bz N (a%256^i))=r0 at *;have iI:=dZ hg;rw[oj]at iI;generalize a%256^i/bz^(i/3)%bz=x at *;generalize a%256^(i+1)/bz^(i/3)%bz=y at *;generalize hp:c.toNat*2^(8*(i%3))=p at *;exact aC [.rw 13 (.int .i64 (s.size:Int)) (vI s.size) rfl,.lt 14 i s.size true (aE hi),.rw 18 (.int .i64 (s.size:Int)) (vI s.size) rfl,.fh 19 s.size 1 (s.size-1) o_ o_,.fh 21 (s.size-1) i (s.size-1-i) o_ o_,.Gg 24 i 3 (i/3) rfl o_,.ix f119 25 0 N (i/3) xh k_,.ld f119 26 3 0 (i/3) (.row r0 3 1) (vI x) rfl iI k_,.sx f119 29 s (s.size-1-i) c gw k_,.wr 30 .i64 (c.toNat:Int) (c.toNat:Int) (by rw[dX];have:=c.toNat_lt;omega),.Gf 32 i 3 (i%3) rfl,.s9 33 8 (i%3) (8*(i%3)) rfl o_,.shl f119 34 .i64 (c.toNat:Int) (p:Int) (8*(i%3)) vn k_,.sum 35 x p y hb.symm (by unfold bz at h1;omega),.ix f119 36 0 N (i/3) xh k_,.st f119 100036 3 0 (i/3) (.row r0 3 1) (vI y) (.row r1 3 1) rfl bT rfl k_,.sum 16 i 1 (i+1) rfl o_]
theorem aNW(hN:N=(s.size+2)/3)(ha:a=kC s)(h63:s.size<35184372088832):
  af prog Bs 38 (.block 0 (ag f119 0)) (aXn s N 0) (aWM N a 0) 1 ⟨.normal,[(3,sl 0 N)],aWM N a s.size,1⟩:=
 bO (id:=0) (ch (b:=aF (ag f119 0)) (r:=⟨.exit 0,[(3,sl 0 N)],aWM N a s.size,1⟩) s.size (aXn s N) (aWM N a)
  (λi k _=>j6 (l:=aWM N a i) (m:=aWM N a 0) rfl k) (λi hi=>aNV hN ha hi h63) (aC [.rw 13 (.int .i64 (s.size:Int)) (vI s.size) rfl,.lt 14 s.size s.size false s_]) n_)
end
theorem aNX{s:ByteArray}(h63:s.size<35184372088832):kY prog 119 [.p (.string s)] 3 1 ((s.size+2)/3) (al (ae bz ((s.size+2)/3) (kC s))):=by
 have lo:=λBs=>aNW (Bs:=Bs) (N:=(s.size+2)/3) (a:=kC s) rfl rfl h63;have h0:al (ae bz ((s.size+2)/3) (kC s%256^0))=List.replicate ((s.size+2)/3) (vI 0):=by
  rw[sC,tL,Lv]
  congr 1
  unfold ae;rw[List.eq_replicate_iff];simp
 have h1:kC s%256^s.size=kC s:=dU (ZX s);unfold aWM at lo;rw[h0,h1]at lo;have fl:=iv (ae bz ((s.size+2)/3) (kC s));have hl:(al (ae bz ((s.size+2)/3) (kC s))).length=(s.size+2)/3*1:=by rw[nP,oT];omega
 generalize al (ae bz ((s.size+2)/3) (kC s))=r1 at *;exact vT (k:=0) mixed func119 k_ 100 (N:=38) k_ (λ_=>[.rw 7 (.int .i64 (s.size:Int)) (vI s.size) rfl,.sum 8 s.size 2 (s.size+2) rfl o_,.Gg 9 (s.size+2) 3 ((s.size+2)/3) rfl o_,.qj f119 10 0 ((s.size+2)/3) 3 8 (vI 0) (List.replicate ((s.size+2)/3) (vI 0)) rfl rfl rfl o_ (by simp[maxLen];omega) k_,.code 0 _ _ _ _ _ (lo _)]) (λ_=>k_) fl hl
end Go.Proofs.YthjhinbiabcfiaaGreatDoor
