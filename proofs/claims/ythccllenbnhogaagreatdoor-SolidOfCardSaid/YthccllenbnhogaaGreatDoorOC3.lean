/- Solids of lists of planes: the proof of SolidOfCardSaid (the law's function answers true at every list of planes; theorem solidOf_card, last part), part 3 of 6; no condition. -/
import Derived.Test.YthccllenbnhogaaGreatDoorOC2
namespace Go.Proofs.YthccllenbnhogaaGreatDoor
open Go Go.RowKit Tryz
variable{i m a q b j size e d off cc r N len k1 n1 k2 D n2 A U a1 m1:Nat}{w w':h_}{ι κ bF:Map}{o:Oper}{c:g_}{f:FuncId}{B Bs:ae}{t:Bool}{fr:aL}{ty:TypeId}{M L Os Vs ck:aC}{z:Int}{xs args vs ca cells' args' eg pre:ak}{α:Type}{fn:Func}{fs:f_}{u v' res:i_}{P:j_}{F:Fact}{Q:Ending->World->Prop}{ks:List (Value×ak)}{ns:l_}{dZ:Code}
def Et(D:Nat):Deferred:={ target:=.collected D,args:=#[]}
def ae.held(B:ae)(D:Nat):ae where
 G w:=B.G w/\w.heap[D]?=some (.deferred (some []))
 cI k:=B.cI k\/k=D
 ds:=Et D::B.ds
 Fa:=B.Fa
 mp:=B.mp
 lt w k h hk:=by
  rcases hk with hk|rfl
  ·exact B.lt w k h.1 hk
  ·exact(zK.1 h.2).1
 dep w w' h h1 h2 h3 h4 h5:=⟨B.dep w w' h.1 h1 h2 h3 h4 λk hk=>h5 k (.inl hk),(h5 D (.inr rfl)).trans h.2⟩
section
variable{P:j_}{B:ae}{N next:Nat}
def aI0(P:j_)(Q:Exit->Act->World->Prop)(j:Option Code)(a:Act)(w:h_):Prop:=
 match j with
 |none=>Q .normal a w
 |some c=>c.wpIn (FW none) 0 P Q a w
def Jt(P:j_)(next N:Nat)(ps:Array Tmp)(dZ dx:Code)(fr:aL)(Os Vs ck:aC)(ι:Map)(T:p_)(gf:FuncId)(ca:ak)(j:Option Code):Prop:=
 Aw next N fr ι T->∀(cv l D:Nat) (W1:h_) (S:Nat->Prop) (κ:Map) (c:g_) (W:h_) (gp:ak),aI (n9 W1 l S ι) κ c W->
   cT c ((next,.fact (fe l (gj cv T ps dZ dx D)))::(Os++Vs))->eA c (next+1)->bJ (aG κ) ca gp->
   Calls P gf (.func (.yield l) #[] #[]::gp).toArray W λe W'=>∃ v Ct c',e=.returned v/\Map.le κ Ct/\aI (n9 W1 l S ι) Ct c' W'/\cT c' ((next,.fact (fe l (tQ (gj cv T ps dZ dx D) j)))::(ck++Vs))/\
    ∀ k,k<next->c k=none->c' k=none
theorem Tg{next':Nat}{cc:g_}{a:Act}{g:m_}{gf:FuncId}{ps:Array Tmp}{dx:Code}{j:Option Code}{Q:Exit->Act->World->Prop}
  (hf:fk B ι (bt fr) N a) (hm:aI B ι cc w) (hL:cT cc (Os++Vs)) (hu:eA cc next) (ek:(Os.all λp=>p.2.owns)=true) (jG:(Vs.all λp=>p.2.soft)=true)
  (hg:fK (bt fr) g=.func (.func gf) #[] ca.toArray) (aI1:Ll g=true) (eB:fN P gf=true)
  (kE:(ck.all λp=>S1 Os p.1||ns.contains p.1)=true) (Th:(ns.all (S1 ck))=true) (iw:(ns.all λk=>Nat.blt next k&&Nat.blt k next')=true) (Dq:next<=next') (tP:(ck.all λp=>p.2.owns)=true) (di:∀ p∈ck++Vs,∀ v∈p.2.cells,pF next ns v=true)
  (uI:Jt P next N ps dZ dx fr Os Vs ck ι a.tmps gf ca j)
  (hQ:∀ D κ bP w',(∀ k,B.cI k->k≠D)->w.heap.size<=D->Map.le ι κ->fk (B.held D) κ (bt fr) N { a with defers:=Et D::a.defers }->aI (B.held D) κ bP w'->cT bP (ck++Vs)->eA bP next'->aI0 P Q j { a with defers:=Et D::a.defers } w'):(Code.rangeFunc g ps dZ dx).wpIn (FW none) 0 P Q a w:=by
 have hO:cT cc Os:=λk x e=>hL k x (by rw[jh,e]);have ek:∀ k x,ah Os k=some x->x.owns=true:=λk x h=>Au ek h;have jG:∀ k x,ah Vs k=some x->x.soft=true:=λk x h=>Au jG h;have tP:∀ k x,ah ck k=some x->x.owns=true:=λk x h=>Au tP h;have di:∀ k x,ah (ck++Vs) k=some x->∀ v∈x.cells,pF next ns v=true:=λk x h=>di _ (iy h);have iw:∀ k,ns.contains k=true->next<k/\k<next':=λk h=>by have:=aX.1 iw k (by simpa using h);simpa[xP]using this
 have Th:∀ k,ns.contains k=true->ah ck k≠none:=λk h=>ZE (aX.1 Th k (by simpa using h));have kE:∀ k x,ah ck k=some x->ah Os k≠none\/ns.contains k=true:=λk x e=>by have:=aX.1 kE _ (iy e);rw[qV]at this;exact this.imp ZE id
 have ZX:=λk x e hx=>S2 (Os:=Os) jG (k:=k) (x:=x) e hx;have ZY:=λk F e=>Nj (Os:=Os) ek jG (k:=k) (F:=F) e;have ZZ:∀ k lc,ι k=some lc->k<next:=λk lc e=>by
  rcases eQ k next with h|h
  ·exact h
  ·rw[hm.dp k (hu k h)]at e;cases e
 have DD:=WE hf aI1 (by rw[hg];rfl);rw[hg]at DD;obtain⟨ju,gp,he,h1,h2⟩:=DD.zo;have ef:ju=#[]:=by
  cases oc:ju.toList with
  |nil=>exact GR.1 oc
  |cons _ _=>rw[oc]at h1;cases h1
 subst ef;refine wpIn_rangeFunc ?_;intro cv _;obtain⟨W1,Ju⟩:∃ W1,(w.alloc (.deferred (some []))).alloc (.loop (gj cv a.tmps ps dZ dx w.heap.size))=W1:=⟨_,rfl⟩;have BV:=run_enterLoop_outer (P:=P) (w:=w) cv a.tmps ps dZ dx;rw[show({ state:=.ready,pending:=none,fn:=cv,tmps:=a.tmps,params:=ps,assign:=dZ,body:=dx,defers:=w.heap.size }:Loop)=gj cv a.tmps ps dZ dx w.heap.size from rfl,Ju]at BV;have pc:Below w.heap.size w W1:=by rw[<-Ju];exact((Below.refl _ w).alloc (aZ _) _).alloc s_ _
 have Z0:W1.heap.size=w.heap.size+2:=by rw[<-Ju];simp
 have Z1:W1.heap[w.heap.size+1]?=some (.loop (gj cv a.tmps ps dZ dx w.heap.size)):=by rw[<-Ju];have:=World.alloc_heap_new (w.alloc (.deferred (some []))) (.loop (gj cv a.tmps ps dZ dx w.heap.size));rwa[World.size_alloc]at this
 have hK1:W1.heap[w.heap.size]?=some (.deferred (some [])):=by rw[<-Ju];exact(P0 _ _ _ s_).trans (World.alloc_heap_new w _)
 obtain⟨S,hS⟩:∃ S:Nat->Prop,∀ b,S b↔∃ k x o cap,ah Os k=some x/\ι k=some (.at b o cap):=⟨_,λb=>Iff.rfl⟩;have Ns:∀ b,S b->b<w.heap.size/\¬B.cI b:=λb hb=>by obtain⟨k,x,o,cap,e1,e2⟩:=(hS b).1 hb;exact hm.own k x b o cap (hO k x e1) (ek k x e1) e2
 have aI2:∀ k x,ah (Os++Vs) k=some x->∃ lc,ι k=some lc:=λk x e=>by obtain⟨lc,q,_⟩:=hm.born k x (hL k x e);exact⟨lc,q⟩
 refine⟨w.heap.size+1,[{ target:=.collected w.heap.size,args:=#[]}],W1,{ target:=.fn (.func gf) gp,args:=#[.func (.yield (w.heap.size+1)) #[] #[]]},W1,gf,#[.func (.yield (w.heap.size+1)) #[] #[]]++gp,W1,BV,?_,λ_ _=>trivial,?_,λe=>(by cases e),?_⟩
 ·simp only[resolve,he];simp[go_sem]
 ·have:=Lp (P:=P) eB (#[.func (.yield (w.heap.size+1)) #[] #[]]++gp) W1;simpa[invoke,go_sem]using this
 ·have hmW:=hm.call pc
  -- the aSA memory
  have cP:aI (n9 W1 (w.heap.size+1) S ι) ι (λk=>match ah (Os++Vs) k with|some x=>some x|none=>(cc k).map λ_=>.dead) W1:=by
   refine Ng (L:=Os++Vs) hmW hL (λ_ _ _=>rfl) (λk x lc _ _ h=>h) ⟨.refl _,rfl,rfl,aZ _,λ_ _ _ _=>rfl⟩ (λk x b o cap e hx hl hF=>?_) (aZ _) (λk e=>?_) (λk x e=>?_) (λk F e hr=>by rw[ZY k F e]at hr;cases hr) (λ_ _ _ _ _ _ h=>h) (Map.le.refl _)
   ·exact hF.2.1 ((hS b).2 ⟨k,x,o,cap,ZX k x e hx,hl⟩)
   ·split at e
    ·cases e
    ·cases hc:cc k with
     |none=>exact hm.dp k hc
     |some y=>rw[hc]at e;cases e
   ·split at e
    ·rename_i y hy;injection e with e;subst e;exact .inl hy
    ·cases hc:cc k with
     |none=>rw[hc]at e;cases e
     |some y=>
      rw[hc]at e;injection e with e;obtain⟨lc,q,_⟩:=hm.born k y hc;exact .inr ⟨e.symm,lc,q⟩
  generalize fU:(λk=>match ah (Os++Vs) k with|some x=>some x|none=>(cc k).map λ_=>Obj.dead:g_)=c1 at cP;have Jv:ah (Os++Vs) next=none:=GO hL (hu next (aZ _));have Z2:∀ k,next<=k->c1 k=none:=λk hk=>by rw[<-fU];simp only[GO hL (hu k hk),hu k hk,Z3]
  have aI3:∀ k x,ah (Os++Vs) k=some x->c1 k=some x:=λk x e=>by rw[<-fU];simp only[e]
  have aI4:∀ k F,c1 k=some (.fact F)->F.rc=false:=λk F e=>by
   rw[<-fU]at e;dsimp only at e;split at e
   ·rename_i y hy;injection e with e;subst e;exact ZY k F hy
   ·cases hc:cc k with
    |none=>rw[hc]at e;cases e
    |some y=>rw[hc]at e;cases e
  have dz:=cP.add (k:=next) (x:=.fact (fe (w.heap.size+1) (gj cv a.tmps ps dZ dx w.heap.size))) (l:=.val undef) (Z2 next (aZ _)) ⟨undef,rfl,Z1⟩ n_
   (λF v b e _ hF jj y o' bf hj hy hl=>by
    injection e with e;subst e;have hF:b=w.heap.size+1:=hF;obtain⟨q1,q2⟩:=cP.own jj y b o' bf hj hy hl;have:∃ lc,ι jj=some lc:=⟨_,hl⟩;have gy:b<w.heap.size:=by
     refine(Ns b ?_).1;have oQ:=hj;rw[<-fU]at oQ;dsimp only at oQ;split at oQ
     ·rename_i z hz;injection oQ with oQ;subst oQ;exact(hS b).2 ⟨jj,z,o',bf,ZX jj z hz hy,hl⟩
     ·cases hc:cc jj with
      |none=>rw[hc]at oQ;cases oQ
      |some z=>rw[hc]at oQ;injection oQ with oQ;subst oQ;cases hy
    omega)
   n_ (λF e _=>⟨by injection e with e;exact⟨_,e.symm⟩,λjj F' hj=>aI4 jj F' hj⟩)
  have ke:Map.le ι (dy ι next (.val undef)):=fZ (hm.dp next (hu next (aZ _)));have ob:Aw next N fr ι a.tmps:=⟨hf.size,hf.slot,ZZ⟩
  have ga:=uI ob cv (w.heap.size+1) w.heap.size W1 S (dy ι next (.val undef)) (aT c1 next (.fact (fe (w.heap.size+1) (gj cv a.tmps ps dZ dx w.heap.size)))) W1 gp.toList dz
   (λk x e=>by
    unfold aT;by_cases hk:k=next
    ·subst hk;rw[aq rfl];have:ah ((k,Obj.fact (fe (w.heap.size+1) (gj cv a.tmps ps dZ dx w.heap.size)))::(Os++Vs)) k=some (.fact (fe (w.heap.size+1) (gj cv a.tmps ps dZ dx w.heap.size))):=by show(if Nat.beq k k then _ else _)=_;simp
     rw[this]at e;exact e
    ·rw[al hk];have:ah ((next,Obj.fact (fe (w.heap.size+1) (gj cv a.tmps ps dZ dx w.heap.size)))::(Os++Vs)) k=ah (Os++Vs) k:=by show(if Nat.beq next k then _ else _)=_;rw[nM (lQ hk)];rfl
     rw[this]at e;exact aI3 k x e)
   (λk hk=>by unfold aT;rw[al o_];exact Z2 k o_) (by
    have:bJ (aG ι) ca gp.toList:=by simpa using h2
    exact mC ke this)
  have aI5:(.func (.yield (w.heap.size+1)) #[] #[]::gp.toList:ak).toArray=#[.func (.yield (w.heap.size+1)) #[] #[]]++gp:=by apply Dr;simp
  rw[aI5]at ga;refine H8.2 (ga.mono ?_)
  rintro e W2 ⟨v,Ct,c',rfl,tn,bh,il,gM⟩
  have Z4:c' next=some (.fact (fe (w.heap.size+1) (tQ (gj cv a.tmps ps dZ dx w.heap.size) j))):=il next _ (by show(if Nat.beq next next then _ else _)=_;simp);have Z5:ah Os next=none:=by
   rw[jh]at Jv;cases e:ah Os next with
   |none=>rfl
   |some x=>rw[e]at Jv;cases Jv
  have hV2:ah Vs next=none:=by rw[jh,Z5]at Jv;exact Jv
  have aI6:ah ck next=none:=by
   cases e:ah ck next with
   |none=>rfl
   |some x=>
    rcases kE next x e with h|h
    ·exact absurd Z5 h
    ·have:=(iw next h).1;omega
  have aI7:ah (ck++Vs) next=none:=by rw[jh,aI6];exact hV2
  have fO:cT c' (ck++Vs):=λk x e=>il k x (by
   by_cases hk:k=next
   ·subst hk;rw[aI7]at e;cases e
   ·show(if Nat.beq next k then _ else _)=_;rw[nM (lQ hk)];exact e)
  have tS:=run_endLoop (P:=P) (Ep bh Z4) (by cases j<;>simp[tQ]);refine⟨j,_,tS,?_⟩
  -- the marks of the list
  have Z6:∀ k x,ah (ck++Vs) k=some x->ns.contains k=true\/∃ y,ah (Os++Vs) k=some y:=λk x e=>by
   rw[jh]at e;cases e1:ah ck k with
   |some z=>
    rcases kE k z e1 with h|h
    ·cases e2:ah Os k with
     |none=>exact absurd e2 h
     |some y=>exact .inr ⟨y,by rw[jh,e2]⟩
    ·exact .inl h
   |none=>
    rw[e1]at e;cases e2:ah Os k with
    |some y=>exact .inr ⟨y,by rw[jh,e2]⟩
    |none=>exact .inr ⟨x,by rw[jh,e2];exact e⟩
  have aI8:∀ k x,ah (ck++Vs) k=some x->iT ι Ct ns k=Ct k:=λk x e=>by
   unfold iT;by_cases hc:ns.contains k=true
   ·rw[aq hc]
   ·rw[al hc];rcases Z6 k x e with h|⟨y,e1⟩
    ·exact absurd h hc
    ·obtain⟨lc,q⟩:=aI2 k y e1;rw[q,tn k lc (ke k lc q)]
  have Nt:Map.le ι (iT ι Ct ns):=λk lc e=>by
   unfold iT;by_cases hc:ns.contains k=true
   ·have:=ZZ k lc e;have:=(iw k hc).1;omega
   ·rw[al hc];exact e
  have aI9:∀ k,k<next->∀ lc,Ct k=some lc->ι k=some lc:=λk hk lc e=>by
   cases q:ι k with
   |some GP=>have:=tn k GP (ke k GP q);rw[e]at this;exact this.symm
   |none=>
    exfalso;have Ay:cc k=none:=by
     cases hc:cc k with
     |none=>rfl
     |some y=>obtain⟨GP,q',_⟩:=hm.born k y hc;rw[q]at q';cases q'
    have Bw:ah (Os++Vs) k=none:=by
     cases e1:ah (Os++Vs) k with
     |none=>rfl
     |some y=>rw[hL k y e1]at Ay;cases Ay
    have:c' k=none:=gM k hk (by unfold aT;rw[al o_,<-fU];simp only[Bw,Ay,Z3])
    rw[bh.dp k this]at e;cases e
  have rG:=SY (Ep bh Z4);have hDS:¬S w.heap.size:=λh=>by have:=(Ns _ h).1;omega
  have Z7:∀ b,b<w.heap.size+2->¬S b->b≠w.heap.size+1->W2.heap[b]?=W1.heap[b]?:=λb hb hs hl=>bh.base.2.2.2.2 b (by rw[Z0];exact hb) hs hl;have aSB:w.heap.size+2<=W2.heap.size:=by rw[<-Z0];exact bh.base.2.2.2.1
  have Jw:∀(o:Go.Obj) b,b≠w.heap.size+1->(W2.putObj (w.heap.size+1) o).heap[b]?=W2.heap[b]?:=λo b hb=>S0 hb;have Cu:∀ k,B.cI k->k≠w.heap.size:=λk hk=>by have:=B.lt w k hm.base hk;omega
  have Ti:=λk F e=>Nj (Os:=ck) tP jG (k:=k) (F:=F) e;have uy:∀ o:Go.Obj,aI (B.held w.heap.size) (iT ι Ct ns) (λk=>match ah (ck++Vs) k with|some x=>some x|none=>(cc k).map λ_=>.dead) (W2.putObj (w.heap.size+1) o):=λo=>by
   refine Ng (L:=ck++Vs) bh fO aI8 (λk x lc e q ho=>?_) ⟨?_,?_⟩ (λk x b oo cap e hx hl hF=>?_) (by rw[qy];exact aZ _) (λk e=>?_) (λk x e=>?_) (λk F e hr=>by rw[Ti k F e]at hr;cases hr) (λk F v b e q hF=>?_) (hm.qR.trans Nt)
   ·exact Nf rG (ZI (K:=next) aI9 (di k x e) ho) (λF ef=>Ti k F (ef▸e)) (by rw[qy];exact aZ _) (λb _ _ _ _=>(Nat.decEq b (w.heap.size+1)).casesOn (λhb=>.inr (Jw o b hb)) λhb=>.inl hb) λF v b _ _ _=>(Nat.decEq b (w.heap.size+1)).casesOn (λhb=>.inr (Jw o b hb)) λhb=>.inl hb
   ·refine B.dep w _ hm.base ?_ ?_ ?_ ?_ λk hk=>?_
    ·exact bh.base.1.trans pc.os
    ·exact bh.base.2.1.trans pc.tape
    ·exact bh.base.2.2.1.trans pc.output
    ·rw[qy];omega
    ·have Jp:=B.lt w k hm.base hk;rw[Jw o k o_,Z7 k o_ (λhs=>(Ns k hs).2 hk) o_];exact pc.block k Jp
   ·rw[Jw o _ o_,Z7 _ o_ hDS o_];exact hK1
   ·have q:=(bh.own k x b oo cap (fO k x e) hx hl).2;have gy:b≠w.heap.size+1:=λhb=>by obtain⟨lc,q1,q2⟩:=bh.born k x (fO k x e);rw[hl]at q1;injection q1 with q1;subst q1;obtain⟨cs,ty,q3⟩:=ZB q2 hx;subst hb;exact rG _ _ _ q3
    by_cases hs:S b
    ·obtain⟨p1,p2⟩:=Ns b hs;rcases hF with hF|hF
     ·exact p2 hF
     ·omega
    ·have fJ:¬b<W1.heap.size:=λhb=>q ⟨hb,hs,gy⟩;rcases hF with hF|hF
     ·have:=B.lt w b hm.base hF;omega
     ·omega
   ·split at e
    ·cases e
    ·rename_i fP;have aJa:ns.contains k=false:=by
      cases hx:ns.contains k with
      |false=>rfl
      |true=>
       have:=Th k hx;rw[jh]at fP;cases e1:ah ck k with
       |none=>exact absurd e1 this
       |some z=>rw[e1]at fP;cases fP
     unfold iT;rw[aJa];cases hc:cc k with
     |none=>exact hm.dp k hc
     |some y=>rw[hc]at e;cases e
   ·split at e
    ·rename_i y hy;injection e with e;subst e;exact .inl hy
    ·rename_i fP;cases hc:cc k with
     |none=>rw[hc]at e;cases e
     |some y=>
      rw[hc]at e;injection e with e;obtain⟨lc,q,_⟩:=hm.born k y hc;exact .inr ⟨e.symm,lc,Nt k lc q⟩
   ·obtain⟨lc,q1,v',q2,q3⟩:=bh.born k _ (fO k _ e);rw[q]at q1;injection q1 with q1;subst q1;injection q2 with q2;subst q2;refine(F.soft (Ti k F e) v W2 _ q3 (by rw[qy];exact aZ _) λk2 fT cs ty f hc=>?_).2 b hF;rw[Jw o k2 (λe=>by subst e;exact rG _ _ _ hc)];exact hc
  have fin:=hQ w.heap.size _ _ _ Cu (aZ _) Nt ⟨by show Et _::a.defers=Et _::B.ds;rw[hf.defers],hf.size,λt=>(hf.slot t).mono Nt⟩ (uy (.loop { tQ (gj cv a.tmps ps dZ dx w.heap.size) j with state:=.exhausted })) (λk x e=>by simp only[e]) (λk hk=>by
   have:ah (ck++Vs) k=none:=by
    cases e:ah (ck++Vs) k with
    |none=>rfl
    |some x=>
     rcases Z6 k x e with h|⟨y,e1⟩
     ·have:=(iw k h).2;omega
     ·have:=hL _ _ e1;rw[hu k o_]at this;cases this
   simp only[this,hu k (c9 Dq hk),Z3])
  cases j with
  |none=>exact fin
  |some cj=>exact fin
theorem Z8{W:h_}(h:aI (B.held D) ι c W)(o5:∀ F,¬B.Fa F)(hD:∀ k,B.cI k->k≠D):aI B ι c (W.putObj D (.deferred none)):=by
 have rG:=aIR h.base.2;have ne:∀ b,b≠D->(W.putObj D (.deferred none)).heap[b]?=W.heap[b]?:=λb hb=>S0 hb;refine⟨B.dep W _ h.base.1 ⟨rfl,aZ _⟩ rfl rfl (by rw[qy];exact aZ _) λk hk=>ne k (hD k hk),h.dp,?_,?_,h.inj,?_,?_,h.fa,h.one,h.qR⟩
 ·intro k x hk;obtain⟨l,q1,q2⟩:=h.born k x hk;refine⟨l,q1,Nf rG q2 (λF e=>?_) (by rw[qy];exact aZ _) (λb _ _ _ _=>(Nat.decEq b D).casesOn (λhb=>.inr (ne b hb)) λhb=>.inl hb) λF v b _ _ _=>(Nat.decEq b D).casesOn (λhb=>.inr (ne b hb)) λhb=>.inl hb⟩;subst e;cases hr:F.rc with
  |false=>rfl
  |true=>exact absurd (h.fa k F hk hr) (o5 F)
 ·intro k x b o cap hk hx hl;rw[qy];exact⟨(h.own k x b o cap hk hx hl).1,λhF=>(h.own k x b o cap hk hx hl).2 (.inl hF)⟩
 ·intro k j x F b o cap v hk hx hl hj hv hF;obtain⟨lc,q1,v',q2,q3⟩:=h.born j _ hj;rw[hv]at q1;injection q1 with q1;subst q1;injection q2 with q2;subst q2;have hr:F.rc=false:=by
   cases hr:F.rc with
   |false=>rfl
   |true=>exact absurd (h.fa j F hj hr) (o5 F)
  refine h.apart k j x F b o cap v hk hx hl hj hv ((F.soft hr v W _ q3 (by rw[qy];exact aZ _) λk2 fT cs ty f hc=>?_).2 b hF);rw[ne k2 (λe=>by subst e;exact rG _ _ _ hc)];exact hc
 ·intro k x b o cap hk hx hl;rw[qy];exact h.seen k x b o cap hk hx hl
theorem Z9{c:Code}{r:kR}{v:i_}{R:Ending->World->Prop}(Ge:∀ B,ag P B N c fr M next r)(hex:(match r.ex with|.exit _=>false|_=>true)=true)(hv:zJ P fn r.fr r.M=some v)
  {ι:Map} {cc:g_} {a:Act} {w:h_} (hf:fk (B.held D) ι (bt fr) N a) (hm:aI (B.held D) ι cc w) (ha:cT cc M) (hu:eA cc next) (lV:B.ds=[]) (o5:∀ F,¬B.Fa F) (hD:∀ k,B.cI k->k≠D)
  (hR:∀ ao bP v' w',aG ao v v'->aI B ao bP w'->cT bP r.M->R (.returned v') w'):c.wpIn (FW none) 0 P (bodyPostM (FW none) 0 P fn R) a w:=by
 refine Ge _ none ι cc a w _ hf hm ha hu λao bP a' w' hle vN bh il _ _ _=>?_;have dz:=Z8 bh o5 hD;obtain⟨v',hc,o8⟩:=LF (fn:=fn) (B:=B) (N:=N) (a:={ a' with defers:=[]}) ⟨lV.symm,vN.size,vN.slot⟩ dz il hv;have hl:LeavesInM (FW none) 0 P fn a'.tmps R a'.defers .returning w':=by rw[vN.defers];show LeavesInM (FW none) 0 P fn a'.tmps R (Et D::B.ds) .returning w';rw[lV];exact⟨λe=>(by cases e),.inl ⟨D,_,rfl,run_takeDeferred bh.base.2,v',o8,hR ao bP v' _ hc dz il⟩⟩
 cases hx:r.ex with
 |normal=>exact hl
 |ret=>exact hl
 |exit id=>rw[hx]at hex;cases hex
end
def yr:Code->Nat->Option Code
 |.region i ops d,k=>if Nat.beq i k then some (.region i ops d)else none
 |.seq x y,k=>match yr x k with|some o=>some o|none=>yr y k
 |.cond _ x y,k=>match yr x k with|some o=>some o|none=>yr y k
 |.block _ b,k=>yr b k
 |.loop b,k=>yr b k
 |.scope b,k=>yr b k
 |.rangeFunc _ _ x y,k=>match yr x k with|some o=>some o|none=>yr y k
 |_,_=>none
def Cv(fn:Func)(k:Nat):Code:=match fn.body with|some c=>(match yr c k with|some o=>o|none=>.skip)|none=>.skip
def Cw:Code->Option Code
 |.seq x y=>match Cw x with|some o=>some o|none=>Cw y
 |.cond _ x y=>match Cw x with|some o=>some o|none=>Cw y
 |.block _ b=>Cw b
 |.loop b=>Cw b
 |.scope b=>Cw b
 |.rangeFunc g p x y=>some (.rangeFunc g p x y)
 |_=>none
def oR(fn:Func):Code:=match fn.body with|some c=>(match Cw c with|some o=>o|none=>.skip)|none=>.skip
def Az:Code->Code|.rangeFunc _ _ x _=>x|c=>c
def AA:Code->Code|.rangeFunc _ _ _ y=>y|c=>c
def bY(k:Nat):Value:=.pointer (some ⟨k,0,some 7⟩)
section
variable{P:j_}{B:ae}{N next:Nat}
theorem Jx{g:Nat}{ps:Array Tmp}{dx:Code}(ns:l_){j:Option Code}(cA:eg.all flat=true)(hlen:eg.length=ps.size)(xR:(ps.toList.all λp=>Nat.blt p N)=true)(hg:g<n2)
  (di:∀ p∈Os++Vs,p.1<n2/\p.1≠g/\lF n2 p=true) (Jy:∀ p∈ck,∀ v∈p.2.cells,pF n2 ns v=true) (ek:(Os.all λp=>p.2.owns)=true) (tP:∀ p∈ck,p.2.owns=true\/p.2=.dead) (jG:(Vs.all λp=>p.2.soft)=true)
  (kE:ck.map (·.1)=Os.map (·.1)++ns) (iw:(ns.all λk=>Nat.ble n2 k)=true)
  {rA rB:kR} (hA:∀ B,ag P B N dZ (Jo (ps.toList.zip eg) fr) (Os++Vs) n2 rA) (S9:rA.ex=.normal) (Ta:Nat.ble n2 rA.next=true) (Nq:ah rA.M g=none)
  (hB:∀ B,ag P B N dx rA.fr rA.M rA.next rB) (Tb:∀ k x,ah ck k=some x->ah rB.M k=some x) (Tc:S5 rB.ex=j):GQ P g n2 N ps dZ dx fr Os Vs ck ns eg j where
 flat:=aX.1 cA
 len:=hlen
 jL p hp:=by have:=aX.1 xR p (by simpa using hp);simpa[xP]using this
 Es:=hg
 low k x h:=by have:=di _ (iy h);exact⟨this.1,this.2.1,Ni this.2.2⟩
 ZP k x h:=Jy _ (iy h)
 own k x h:=Au ek h
 S7 k x h:=tP _ (iy h)
 view k x h:=Au jG h
 keys:=S3 kE
 new k h:=by have:=aX.1 iw k (by simpa using h);exact o7 this
 run:=⟨rA,rB,hA,S9,o7 Ta,Nq,hB,Tb,Tc⟩
theorem Tj{g:Nat}(h:(L.all λp=>Nat.blt p.1 g&&lF (g+1) p)=true):∀ p∈L,p.1<g+1/\p.1≠g/\lF (g+1) p=true:=λp hp=>by have:=aX.1 h p hp;rw[cY,xP]at this;exact⟨by omega,by omega,this.2⟩
theorem GS(h:(L.all (lF n2))=true)(ns:l_):∀ p∈L,∀ v∈p.2.cells,pF n2 ns v=true:=λp hp v hv=>by unfold pF;rw[aX.1 (aX.1 h p hp) v hv];rfl
theorem Jz(h:(L.all λp=>p.2.owns)=true):∀ p∈L,p.2.owns=true\/p.2=.dead:=λp hp=>.inl (aX.1 h p hp)
theorem aAa(dw:bJ (aG ι) args args')(hN:N=args.length+(fn.ntmps-args.length))(lV:B.ds=[]):
  fk B ι (bt (jL 0 args)) N { tmps:=args'.toArray++Array.replicate (fn.ntmps-args'.toArray.size) undef,defers:=[]}:=by
 refine⟨lV.symm,by simp[hN,dw.length],λt=>?_⟩;rcases LG dw 0 t (List.replicate (fn.ntmps-args'.length) undef)with h|h
 ·simp only[kB,pV,FF]at h;have e:(args'.toArray++Array.replicate (fn.ntmps-args'.toArray.size) undef).getD t undef=(args'++List.replicate (fn.ntmps-args'.length) undef).getD t undef:=by simp[pb,Dw,<-Array.getElem?_toList]
  dsimp only;rw[e];exact h
 ·exact .inl h
theorem aAb{v:i_}{R:Ending->World->Prop}(hv:zJ P fn fr M=some v)
  {ι:Map} {cc:g_} {a:Act} {w:h_} (hf:fk (B.held D) ι (bt fr) N a) (hm:aI (B.held D) ι cc w) (ha:cT cc M) (lV:B.ds=[]) (o5:∀ F,¬B.Fa F) (hD:∀ k,B.cI k->k≠D)
  (hR:∀ ao bP v' w',aG ao v v'->aI B ao bP w'->cT bP M->R (.returned v') w'):LeavesInM (FW none) 0 P fn a.tmps R a.defers .returning w:=by
 have dz:=Z8 hm o5 hD;obtain⟨v',hc,o8⟩:=LF (fn:=fn) (B:=B) (N:=N) (a:={ a with defers:=[]}) ⟨lV.symm,hf.size,hf.slot⟩ dz ha hv;rw[hf.defers];show LeavesInM (FW none) 0 P fn a.tmps R (Et D::B.ds) .returning w;rw[lV];exact⟨λe=>(by cases e),.inl ⟨D,_,rfl,run_takeDeferred hm.base.2,v',o8,hR ι cc v' _ hc dz ha⟩⟩
theorem aAc{c:Code}{v:i_}(hf:P.funcs[f]?=some fn)(hb:fn.body=some c)(hN:N=args.length+(fn.ntmps-args.length))(dw:args.all flat=true)
  (h:∀ w a,fk (ae.at w) (λ_=>none) (bt (jL 0 args)) N a->aI (ae.at w) (λ_=>none) (λ_=>none) w->c.wpIn (FW none) 0 P (bodyPostM (FW none) 0 P fn λe w'=>e=.returned v/\Below w.heap.size w w') a w):aB P f args v:=by
 intro w;rw[aX]at dw;exact H8.1 (callsIn_of_wp_marks (F:=FW none) (n:=0) hf hb trivial (h w _ (aAa (j7 dw) hN rfl) (sj w)))
theorem aAd{gf:FuncId}{cells:ak}{x:m_}{k:Nat}(gV:P.follows .mixedOrders=true)(hf:P.funcs[f]?=some fn)(ho:da o.op=some x)(eB:fN P f=true)(n:Nat)
  (rs:∀ w,bK P (ae.at w) (args.length+(fn.ntmps-args.length)))
  (h:∀ w,nO (gu (P:=P) fn n args [] 0 (rs w)) [(0,.aH cells ty)]=nP (gu fn n args [] 0 (rs w)) (.func (.func gf) #[] #[.pointer (some ⟨0,0,some 7⟩)]) [(0,.aH cells ty)]) (dw:args.all flat=true) (cA:cells.all flat=true) :
  ct P B o (.func (.func f) #[] #[]::args) [(k,none)] (.func (.func gf) #[] #[.pointer (some ⟨k,0,some 7⟩)]) [(k,.aH cells ty)]:=by
 have:=jy (P:=P) (B:=B) (o:=o) (x:=x) (f:=f) (fi:=[]) (args:=args) (ca:=[]) (need:=[(k,none)]) (val:=.func (.func gf) #[] #[.pointer (some ⟨k,0,some 7⟩)]) (cK:=[(k,.aH cells ty)]) ho eB ?_
 ·simpa using this
 ·intro ι c w hm hn args' ha;have hk:c k=none:=hn (k,none) (aN ..);rw[aX]at dw cA;have e:args'=args:=mD (by simpa using ha) dw;subst e;refine tA gV hf rfl n (h w) (j7 dw) (sj w) n_ (λ_ _=>rfl) λao bP v' w' _ hc bh dD=>?_;obtain⟨ju,gp,rfl,h1,h2⟩:=hc.zo;have h0:bP 0=some (.aH cells ty):=dD (0,_) (aN ..);obtain⟨l,q1,b,bW,rfl,q2,q3⟩:=bh.born 0 _ h0;obtain⟨q4,q5⟩:=bh.own 0 _ b 0 0 h0 rfl q1;have hbn:w.heap.size<=b:=Nu q5;have ec:bW=cells:=mD q2 cA;subst ec;have ef:ju=#[]:=by
   cases oc:ju.toList with
   |nil=>exact GR.1 oc
   |cons _ _=>rw[oc]at h1;cases h1
  subst ef;have k7:gp.toList=[.pointer (some ⟨b,0,none⟩)]:=by
   have h2:bJ (aG ao) [.pointer (some ⟨0,0,some 7⟩)] gp.toList:=h2;generalize gp.toList=l at h2;cases h2 with
   |cons p q=>
    cases q;obtain⟨b',o',bf,e1,e2⟩:=p.ux rfl;rw[q1]at e1;injection e1 with e1;injection e1 with e1 e3 _;subst e1;subst e3;rw[e2];simp
  have dz:=hm.new (k:=k) (x:=.aH bW ty) (l:=.at b 0 0) bh.base hk ⟨b,bW,rfl,j7 cA,q3⟩ (λb' o' bf _ e=>by injection e with e _ _;subst e;exact⟨hbn,q4⟩) n_ rfl;refine⟨dy ι k (.at b 0 0),_,rfl,fZ (hm.dp k hk),?_,dz⟩;refine .fn .nil ?_;rw[k7];exact .cons (.ptr (fj _ _ _)) .nil
theorem JA{ps:Array Tmp}{dx:Code}{T:p_}{gf:FuncId}{Nv:Func}{j:Option Code}{v:i_}{Nc:Nat}(gV:P.follows .mixedOrders=true)(hf:P.funcs[gf]?=some Nv)
  (hN:Nc=(ca.length+1)+(Nv.ntmps-(ca.length+1))) (n:Nat)
  (h:Aw next N fr ι T->∀(cv l D:Nat) (W1:h_) (S:Nat->Prop),∃ rs:bK P (n9 W1 l S ι) Nc,nO (gu (P:=P) Nv n (.func (.yield l) #[] #[]::ca) ((next,.fact (fe l (gj cv T ps dZ dx D)))::(Os++Vs)) (next+1) rs) ((next,.fact (fe l (tQ (gj cv T ps dZ dx D) j)))::(ck++Vs))=nP (gu Nv n (.func (.yield l) #[] #[]::ca) ((next,.fact (fe l (gj cv T ps dZ dx D)))::(Os++Vs)) (next+1) rs) v ((next,.fact (fe l (tQ (gj cv T ps dZ dx D) j)))::(ck++Vs))) :
  Jt P next N ps dZ dx fr Os Vs ck ι T gf ca j:=by
 intro ob cv l D W1 S κ c W gp hm ha hu k7;obtain⟨rs,h⟩:=h ob cv l D W1 S;refine QG gV hf (by simpa using hN) n h (.cons (.same rfl) k7) hm ha hu λao bP v' w' hle hc bh dD hk=>⟨v',ao,bP,rfl,hle,bh,λk x e=>dD (k,x) (iy e),λk gM Ay=>?_⟩;rw[hk k o_ (GO ha Ay)];exact Ay
end
theorem aJb{x:m_}{k:Nat}(r:RV)(ho:da o.op=some x):ct prog B o (.func (.func 116) #[] #[]::[r.v]) [(k,none)] (.func (.func 173) #[] #[.pointer (some ⟨k,0,some 7⟩)]) [(k,.aH r.cs 42)]:=
 aAd mixed func116 ho k_ 50 (λ_=>[]) (λ_=>k_) k_ k_
def rH(r:RV):aC:=[(0,.aH r.cs 42),(1,.aH [.bool false] 4),(2,.aH r.cs 42)]
def AB:aL:=[(1,bY 0),(2,bY 1),(6,.func (.func 173) #[] #[bY 2])]
theorem aJc(r:RV):ag prog B 12 (Cv f70 0) (jL 0 [r.v]) [] 0 ⟨.normal,[(1,bY 0),(2,bY 1)],[(0,.aH r.cs 42),(1,.aH [.bool false] 4)],2⟩:=
 fo mixed 10 [] k_
theorem aJd(r:RV):ag prog B 12 (Cv f70 1) [(1,bY 0),(2,bY 1)] [(0,.aH r.cs 42),(1,.aH [.bool false] 4)] 2 ⟨.normal,AB,rH r,3⟩:=
 fo mixed 10 [.step 6 (au f70 6) _ _ _ _ (aJb (k:=2) (x:=.func 116) r k_)] k_
theorem aJe(r:RV)(x:RN)(i:Int)(b:Bool)(hx:aB prog 84 [x.v] (.bool b)):
  GQ prog 3 4 12 #[7,8] (Az (oR f70)) (AA (oR f70)) AB (rH r) [] (rH r) [] [.int .i64 i,x.v] (if b then none else some .ret):=by
 have go:∀ ex j,(∀ B,ag prog B 12 (AA (oR f70)) ((4,bY 4)::AB) ((4,.aH x.cs 40)::rH r) 5 ⟨ex,[],rH r,5⟩)->S5 ex=j->GQ prog 3 4 12 #[7,8] (Az (oR f70)) (AA (oR f70)) AB (rH r) [] (rH r) [] [.int .i64 i,x.v] j:=λex j h hj=>
  Jx [] (rA:=⟨.normal,(4,bY 4)::AB,(4,.aH x.cs 40)::rH r,5⟩) (rB:=⟨ex,[],rH r,5⟩) k_ k_ k_ d_ (Tj k_) (GS k_ []) k_ (Jz k_) k_ rfl k_ (λB=>fo mixed 10 [] k_) rfl k_ rfl h (λk x h=>h) hj
 cases b
 ·exact go .ret _ (λB=>fo mixed 10 [hx.at 10] k_) rfl
 ·exact go .normal _ (λB=>fo mixed 10 [hx.at 10] k_) rfl
theorem aJf(r:RV):ag prog B 12 (.seq (Cv f70 5) .ret) AB (rH r) 3 ⟨.ret,[(2,bY 1)],[(1,.aH [.bool true] 4)],3⟩:=fo mixed 10 [] k_
theorem aJg{r:RV}{bx AD bz:Bool}(hx:aB prog 84 [r.x.v] (.bool bx))(hy:aB prog 84 [r.y.v] (.bool AD))(hz:aB prog 84 [r.z.v] (.bool bz)){T:p_}{m:Map}:
  Jt prog 3 12 #[7,8] (Az (oR f70)) (AA (oR f70)) AB (rH r) [] (rH r) m T 173 [bY 2] (if bx&&AD&&bz then none else some .ret):=by
 have st:=λ(hc:Aw 3 12 AB m T) (cv l D:Nat) (W1:h_) (S:Nat->Prop) (x:RN) (i:Int) (b:Bool) (h:aB prog 84 [x.v] (.bool b))=>S8 (S:=S) (W1:=W1) (l:=l) (D:=D) (cv:=cv) (x:=.tmp 16) (o:=au f173 19) (aJe r x i b h) k_ hc
 cases bx
 ·exact JA mixed func173 rfl 100 (v:=.tuple #[]) λhc cv l D W1 S=>⟨[.step 19 _ _ _ _ _ (st hc cv l D W1 S r.x 0 _ hx)],k_⟩
 ·cases AD
  ·exact JA mixed func173 rfl 100 (v:=.tuple #[]) λhc cv l D W1 S=>⟨[.step 19 _ _ _ _ _ (st hc cv l D W1 S r.x 0 _ hx),.step 19 _ _ _ _ _ (st hc cv l D W1 S r.y 1 _ hy)],k_⟩
  ·cases bz<;>exact JA mixed func173 rfl 100 (v:=.tuple #[]) λhc cv l D W1 S=>⟨[.step 19 _ _ _ _ _ (st hc cv l D W1 S r.x 0 _ hx),.step 19 _ _ _ _ _ (st hc cv l D W1 S r.y 1 _ hy),.step 19 _ _ _ _ _ (st hc cv l D W1 S r.z 2 _ hz)],k_⟩
theorem JB{r:RV}{bx AD bz:Bool}(hx:aB prog 84 [r.x.v] (.bool bx))(hy:aB prog 84 [r.y.v] (.bool AD))(hz:aB prog 84 [r.z.v] (.bool bz)):
  aB prog 70 [r.v] (.bool (bx&&AD&&bz)):=by
 refine aAc (N:=12) func70 rfl rfl k_ λw a hf hm=>?_;refine lp (aJc r none _ _ a w _ hf hm n_ (λ_ _=>rfl) λsC cc0 a0 w0 aAe zG jJ mG ye JC _=>?_);refine lp (lp (aJd r none _ _ a0 w0 _ zG jJ mG ye λbF fV a1 w1 iK gN cP dT du gE _=>Ij ?_));refine Tg (next:=3) (next':=3) (ns:=[]) (Os:=rH r) (Vs:=[]) (ck:=rH r) (gf:=173) (ca:=[bY 2]) (j:=if bx&&AD&&bz then none else some .ret) gN cP dT du k_ k_ k_ k_ k_ k_ k_ k_ (aZ _) k_ (GS k_ []) (aJg hx hy hz) λD κ bP w' Cu hDw _ iU dz fO ew=>?_;by_cases hb:(bx&&AD&&bz)=true
 ·rw[aq hb,hb];exact Z9 (B:=ae.at w) (v:=.bool true) (λB=>aJf r) rfl k_ iU dz fO ew rfl (λF h=>h) Cu λao cc v' w' hc hG _=>⟨by rw[hc.eW rfl],hG.base⟩
 ·rw[al hb];refine wpIn_ret (aAb (B:=ae.at w) (fr:=AB) (M:=rH r++[]) (v:=.bool false) k_ iU dz fO rfl (λF h=>h) Cu λao cc v' w' hc hG _=>⟨?_,hG.base⟩);rw[hc.eW rfl];cases hc:bx&&AD&&bz
  ·rfl
  ·exact absurd hc hb
inductive aJ where
 |p (v:i_)
 |r (n:Nat) (xs:ak)
 |q (xs:ak)
 |f (g:FuncId) (xs:ak)
 |b (n:Nat) (xs:ak)
 |o (F:Fact)
 |s (n1:Nat) (hY:ak) (n2:Nat) (iQ:ak) (F:Fact)
 |a (n1:Nat) (hY:ak) (n2:Nat) (iQ:ak) (n3:Nat) (Eu:ak)
 |c (u:i_) (F:Fact)
variable{l:List aJ}
def Nw(w:h_)(v:i_)(xs:ak):Prop:=∃ b o,v=.pointer (some ⟨b,o,none⟩)/\b<w.heap.size/\∀(j:Nat) u,xs[j]?=some u->w.cell? ⟨b,o+j,none⟩=some u
def AE(w:h_)(v:i_)(F:Fact):Prop:=F.G v w/\v.cells=#[v]/\v.oneCell'=true
def aJ.In(w:h_):aJ->Value->Prop
 |.p u,v=>v=u
 |.r n xs,v=>cZ w v n xs
 |.q xs,v=>Nw w v xs
 |.f g xs,v=>∃ u,v=.func (.func g) #[] #[u]/\Nw w u xs
 |.b n xs,v=>∃ b o u,v=.pointer (some ⟨b,o,none⟩)/\b<w.heap.size/\w.cell? ⟨b,o,none⟩=some u/\cZ w u n xs
 |.o F,v=>AE w v F
 |.s n1 hY n2 iQ F,v=>∃ u1 u2 u3,v=.agg #[u1,u2,u3]/\cZ w u1 n1 hY/\cZ w u2 n2 iQ/\AE w u3 F
 |.a n1 hY n2 iQ n3 Eu,v=>∃ u1 u2 u3,v=.agg #[u1,u2,u3]/\cZ w u1 n1 hY/\cZ w u2 n2 iQ/\cZ w u3 n3 Eu
 |.c u F,v=>∃ t,v=.agg #[u,t]/\AE w t F
def aJ.ok:aJ->Bool
 |.p v=>flat v
 |.r _ xs=>xs.all flat
 |.q xs=>xs.all flat
 |.f _ xs=>xs.all flat
 |.b _ xs=>xs.all flat
 |.o F=>!F.rc
 |.s _ hY _ iQ F=>hY.all flat&&(iQ.all flat&&!F.rc)
 |.a _ hY _ iQ _ Eu=>hY.all flat&&(iQ.all flat&&Eu.all flat)
 |.c u F=>flat u&&!F.rc
inductive tT(w:h_):List aJ->ak->Prop
 |nil:tT w [] []
 |cons {a:aJ} {v:i_} {l:List aJ} {vs:ak}:a.In w v->tT w l vs->tT w (a::l) (v::vs)
def eE:Nat->List aJ->ak
 |_,[]=>[]
 |k,.p v::l=>v::eE k l
 |k,.r n _::l=>.slice (some ⟨k,0,some 7⟩) n 0::eE (k+1) l
 |k,.q _::l=>.pointer (some ⟨k,0,some 7⟩)::eE (k+1) l
 |k,.f g _::l=>.func (.func g) #[] #[.pointer (some ⟨k,0,some 7⟩)]::eE (k+1) l
 |k,.b _ _::l=>.pointer (some ⟨k+1,0,some 7⟩)::eE (k+2) l
 |k,.o _::l=>.pointer (some ⟨k,0,some 9⟩)::eE (k+1) l
 |k,.s n1 _ n2 _ _::l=>.agg #[.slice (some ⟨k,0,some 7⟩) n1 0,.slice (some ⟨k+1,0,some 7⟩) n2 0,.pointer (some ⟨k+2,0,some 9⟩)]::eE (k+3) l
 |k,.a n1 _ n2 _ n3 _::l=>.agg #[.slice (some ⟨k,0,some 7⟩) n1 0,.slice (some ⟨k+1,0,some 7⟩) n2 0,.slice (some ⟨k+2,0,some 7⟩) n3 0]::eE (k+3) l
 |k,.c u _::l=>.agg #[u,.pointer (some ⟨k,0,some 9⟩)]::eE (k+1) l
def iY:Nat->List aJ->aC
 |_,[]=>[]
 |k,.p _::l=>iY k l
 |k,.r _ xs::l=>(k,.view xs)::iY (k+1) l
 |k,.q xs::l=>(k,.view xs)::iY (k+1) l
 |k,.f _ xs::l=>(k,.view xs)::iY (k+1) l
 |k,.b n xs::l=>(k,.view xs)::(k+1,.view [.slice (some ⟨k,0,some 7⟩) n 0])::iY (k+2) l
 |k,.o F::l=>(k,.fact F)::iY (k+1) l
 |k,.s _ hY _ iQ F::l=>(k,.view hY)::(k+1,.view iQ)::(k+2,.fact F)::iY (k+3) l
 |k,.a _ hY _ iQ _ Eu::l=>(k,.view hY)::(k+1,.view iQ)::(k+2,.view Eu)::iY (k+3) l
 |k,.c _ F::l=>(k,.fact F)::iY (k+1) l
def jq:Nat->List aJ->Nat
 |k,[]=>k
 |k,.p _::l=>jq k l
 |k,.r _ _::l=>jq (k+1) l
 |k,.q _::l=>jq (k+1) l
 |k,.f _ _::l=>jq (k+1) l
 |k,.b _ _::l=>jq (k+2) l
 |k,.o _::l=>jq (k+1) l
 |k,.s _ _ _ _ _::l=>jq (k+3) l
 |k,.a _ _ _ _ _ _::l=>jq (k+3) l
 |k,.c _ _::l=>jq (k+1) l
theorem aAf(hm:aI B ι c w){k:Nat}{v:i_}(hk:c k=none)(h:Nw w v xs)(cA:∀ u∈xs,flat u=true)(fP:∀ j x,c j=some x->x.owns=false):
  ∃ ao,Map.le ι ao/\aI B ao (aT c k (.view xs)) w/\aG ao (.pointer (some ⟨k,0,some 7⟩)) v:=by
 obtain⟨b,o,rfl,h2,h3⟩:=h;refine⟨dy ι k (.at b o 0),fZ (hm.dp k hk),hm.add hk (.inr ⟨b,o,0,xs,rfl,j7 cA,h3⟩) n_ n_ (λb1 o1 kz _ e=>?_),?_⟩
 ·injection e with e1 e2 e3;subst e1;exact⟨h2,λj y o' bf hj hy=>by rw[fP j y hj]at hy;cases hy⟩
 ·have:=aG.ptr (off:=0) (fj ι k (.at b o 0));rwa[iJ]at this
def yt(B:ae)(w:h_)(k:Nat)(ι:Map)(c:g_)(L:aC)(n:Nat)(ao:Map)(c':g_):Prop:=
 Map.le ι ao/\aI B ao c' w/\(∀ j x,c' j=some x->x.owns=false)/\eA c' n/\cT c' L/\(∀ j,j<k->c' j=c j)/\k<=n/\(∀ j x,ah L j=some x->k<=j/\j<n)
theorem aJh{k:Nat}(hm:aI B ι c w)(ho:∀ j x,c j=some x->x.owns=false)(hu:eA c k):yt B w k ι c [] k ι c:=
 ⟨Map.le.refl _,hm,ho,hu,λj x h=>(by cases h),λ_ _=>rfl,aZ _,λj x h=>(by cases h)⟩
theorem JD{k:Nat}{x:Obj}(ho:∀ j x,c j=some x->x.owns=false)(hu:eA c k)(hle:Map.le ι bF)(hm:aI B bF (aT c k x) w)(hx:x.owns=false):yt B w k ι c [(k,x)] (k+1) bF (aT c k x):=by
 refine⟨hle,hm,λj y hj=>?_,λj hj=>?_,λj y hj=>?_,λj hj=>?_,xM _,λj y hj=>?_⟩
 ·unfold aT at hj;by_cases bL:j=k
  ·rw[aq bL]at hj;injection hj with hj;subst hj;exact hx
  ·rw[al bL]at hj;exact ho j y hj
 ·unfold aT;rw[al o_];exact hu j o_
 ·unfold ah at hj;split at hj
  ·rename_i hb;injection hj with hj;subst hj;unfold aT;rw[aq (jK hb).symm]
  ·cases hj
 ·unfold aT;rw[al o_]
 ·unfold ah at hj;split at hj
  ·rename_i hb;have:=jK hb;omega
  ·cases hj
theorem yt.trans{k n:Nat}{c1 c2:g_}{L2:aC}(h:yt B w k ι c L n bF c1)(h2:yt B w n bF c1 L2 m κ c2):yt B w k ι c (L++L2) m κ c2:=by
 obtain⟨a1,a2,a3,a4,a5,a6,a7,a8⟩:=h;obtain⟨b1,b2,b3,b4,b5,b6,b7,b8⟩:=h2;refine⟨a1.trans b1,b2,b3,b4,λj x hj=>?_,λj hj=>by rw[b6 j o_,a6 j hj],by omega,λj x hj=>?_⟩
 ·rw[jh]at hj;cases e:ah L j with
  |some y=>
   rw[e]at hj;injection hj with hj;subst hj;rw[b6 j (a8 j _ e).2];exact a5 j _ e
  |none=>rw[e]at hj;exact b5 j x hj
 ·rw[jh]at hj;cases e:ah L j with
  |some y=>rw[e]at hj;injection hj with hj;subst hj;have:=a8 j _ e;omega
  |none=>rw[e]at hj;have:=b8 j x hj;omega
theorem Ev{k n:Nat}(hm:aI B ι c w)(ho:∀ j x,c j=some x->x.owns=false)(hu:eA c k)(h:cZ w u n xs)(cA:xs.all flat=true):
  ∃ ao c',yt B w k ι c [(k,.view xs)] (k+1) ao c'/\aG ao (.slice (some ⟨k,0,some 7⟩) n 0) u:=by
 obtain⟨bF,q1,q2,q3⟩:=xT hm (hu k (aZ _)) h (aX.1 cA) λb o c' _ j y o' bf hj hy=>by rw[ho j y hj]at hy;cases hy
 exact⟨bF,_,JD ho hu q1 q2 rfl,q3⟩
theorem Tk{k:Nat}(hm:aI B ι c w)(ho:∀ j x,c j=some x->x.owns=false)(hu:eA c k)(h:AE w u F)(vB:F.rc=false):
  ∃ ao c',yt B w k ι c [(k,.fact F)] (k+1) ao c'/\aG ao (.pointer (some ⟨k,0,some 9⟩)) u:=by
 refine⟨dy ι k (.val u),aT c k (.fact F),JD ho hu (fZ (hm.dp k (hu k (aZ _)))) (hm.add (hu k (aZ _)) ⟨u,rfl,h.1⟩ n_ (λF' v b e1 e2 hF j y o' bf hj hy=>by rw[ho j y hj]at hy;cases hy) n_ λF' e hr=>?_) rfl,.opq (fj _ _ _) h.2.1 h.2.2⟩;injection e with e;subst e;rw[vB]at hr;cases hr
theorem wL{B:ae}{w:h_}:∀{l:List aJ} {vs:ak},tT w l vs->(∀ a∈l,aJ.ok a=true)->∀(k:Nat) (ι:Map) (c:g_),aI B ι c w->(∀ j x,c j=some x->x.owns=false)->eA c k->
  ∃ ao c',Map.le ι ao/\aI B ao c' w/\eA c' (jq k l)/\cT c' (iY k l)/\(∀ j,j<k->c' j=c j)/\bJ (aG ao) (eE k l) vs/\k<=jq k l
 |_,_,.nil,_,k,ι,c,hm,ho,hu=>⟨ι,c,Map.le.refl _,hm,hu,λk x h=>(by cases h),λ_ _=>rfl,.nil,aZ _⟩
 |_,_,.cons (a:=a) (v:=v) (l:=l) (vs:=vs) h hs,ax,k,ι,c,hm,ho,hu=>by
  have AF:∀ a∈l,aJ.ok a=true:=λa ha=>ax a (bB _ ha);have pG:=ax a (aN ..);have go:∀(L:aC) (n:Nat) (u:i_) (bF:Map) (c1:g_),yt B w k ι c L n bF c1->aG bF u v->
    ∃ ao c',Map.le ι ao/\aI B ao c' w/\eA c' (jq n l)/\cT c' (L++iY n l)/\(∀ j,j<k->c' j=c j)/\bJ (aG ao) (u::eE n l) (v::vs)/\k<=jq n l:=by
   intro L n u bF c1 ⟨q1,q2,q3,q4,q5,q6,q7,q8⟩ q9;obtain⟨ao,c',h1,h2,h3,h4,h5,h6,h7⟩:=wL hs AF n bF c1 q2 q3 q4;refine⟨ao,c',q1.trans h1,h2,h3,λj x hj=>?_,λj hj=>by rw[h5 j o_,q6 j hj],.cons (q9.mono h1) h6,by omega⟩;rw[jh]at hj;cases e:ah L j with
   |some y=>
    rw[e]at hj;injection hj with hj;subst hj;rw[h5 j (q8 j _ e).2];exact q5 j _ e
   |none=>rw[e]at hj;exact h4 j x hj
  cases a with
  |p u=>
   cases h;exact go [] k _ ι c (aJh hm ho hu) (.same pG)
  |r n xs=>
   obtain⟨bF,c1,q1,q2⟩:=Ev hm ho hu h pG;exact go _ _ _ bF c1 q1 q2
  |q xs=>
   obtain⟨bF,q1,q2,q3⟩:=aAf hm (hu k (aZ _)) h (aX.1 pG) ho;exact go _ _ _ bF _ (JD ho hu q1 q2 rfl) q3
  |f g xs=>
   obtain⟨u,rfl,oB⟩:=h;obtain⟨bF,q1,q2,q3⟩:=aAf hm (hu k (aZ _)) oB (aX.1 pG) ho;exact go _ _ _ bF _ (JD ho hu q1 q2 rfl) (.fn .nil (.cons q3 .nil))
  |b n xs=>
   obtain⟨b,o,u,rfl,hb,kA,iW⟩:=h;obtain⟨bF,c1,q1,q2⟩:=Ev hm ho hu iW pG;obtain⟨a1,a2,a3,a4,a5,a6,a7,a8⟩:=q1;have dz:aI B (dy bF (k+1) (.at b o 0)) (aT c1 (k+1) (.view [.slice (some ⟨k,0,some 7⟩) n 0])) w:=by
    refine a2.add (a4 _ (aZ _)) (.inr ⟨b,o,0,[u],rfl,.cons (q2.mono (fZ (a2.dp _ (a4 _ (aZ _))))) .nil,λj x hj=>?_⟩) n_ n_ (λb1 o1 kz _ e1=>?_)
    ·cases j with
     |zero=>simp at hj;subst hj;exact kA
     |succ j=>simp at hj
    ·injection e1 with e1 e2 e3;subst e1;exact⟨hb,λj y o' bf hj hy=>by rw[a3 j y hj]at hy;cases hy⟩
   have h2:=JD a3 a4 (fZ (a2.dp _ (a4 _ (aZ _)))) dz rfl;have:=aG.ptr (off:=0) (fj bF (k+1) (.at b o 0));rw[iJ]at this;exact go _ _ _ _ _ (yt.trans ⟨a1,a2,a3,a4,a5,a6,a7,a8⟩ h2) this
  |o F=>
   obtain⟨bF,c1,q1,q2⟩:=Tk hm ho hu h (by simpa[aJ.ok]using pG);exact go _ _ _ bF c1 q1 q2
  |s n1 hY n2 iQ F=>
   simp only[aJ.ok,cY,zy]at pG;obtain⟨u1,u2,u3,rfl,r1,r2,r3⟩:=h;obtain⟨bF,c1,q1,p1⟩:=Ev hm ho hu r1 pG.1;obtain⟨df,c2,q2,p2⟩:=Ev q1.2.1 q1.2.2.1 q1.2.2.2.1 r2 pG.2.1;obtain⟨Nx,c3,q3,p3⟩:=Tk q2.2.1 q2.2.2.1 q2.2.2.2.1 r3 pG.2.2;exact go _ _ _ Nx c3 (q1.trans (q2.trans q3)) (.agg (.cons (p1.mono (q2.1.trans q3.1)) (.cons (p2.mono q3.1) (.cons p3 .nil))))
  |a n1 hY n2 iQ n3 Eu=>
   simp only[aJ.ok,cY]at pG;obtain⟨u1,u2,u3,rfl,r1,r2,r3⟩:=h;obtain⟨bF,c1,q1,p1⟩:=Ev hm ho hu r1 pG.1;obtain⟨df,c2,q2,p2⟩:=Ev q1.2.1 q1.2.2.1 q1.2.2.2.1 r2 pG.2.1;obtain⟨Nx,c3,q3,p3⟩:=Ev q2.2.1 q2.2.2.1 q2.2.2.2.1 r3 pG.2.2;exact go _ _ _ Nx c3 (q1.trans (q2.trans q3)) (.agg (.cons (p1.mono (q2.1.trans q3.1)) (.cons (p2.mono q3.1) (.cons p3 .nil))))
  |c u F=>
   simp only[aJ.ok,cY,zy]at pG;obtain⟨t,rfl,h⟩:=h;obtain⟨bF,c1,q1,q2⟩:=Tk hm ho hu h pG.2;exact go _ _ _ bF c1 q1 (.agg (.cons (.same pG.1) (.cons q2 .nil)))
def cJ(P:j_)(f:FuncId)(l:List aJ)(res:i_):Prop:=
 ∀ w vs,tT w l vs->Calls P f vs.toArray w λe w'=>e=.returned res/\Below w.heap.size w w'
def ko(P:j_)(f:FuncId)(l:List aJ)(ty:TypeId)(size n:Nat)(xs:ak):Prop:=
 ∀ w vs,tT w l vs->Calls P f vs.toArray w λe w'=>∃ v,e=.returned v/\w'.ownsRow w.heap.size ty size v n xs/\Below w.heap.size w w'
section
variable{P:j_}{B:ae}{N:Nat}
theorem jP{v:i_}(gV:P.follows .mixedOrders=true)(hf:P.funcs[f]?=some fn)(hl:(l.all aJ.ok)=true)(n:Nat){N:Nat}(hN:N=(eE 0 l).length+(fn.ntmps-(eE 0 l).length))
  (rs:∀ w,bK P (ae.at w) N) (h:∀ w,nO (gu (P:=P) fn n (eE 0 l) (iY 0 l) (jq 0 l) (rs w)) []=nP (gu fn n (eE 0 l) (iY 0 l) (jq 0 l) (rs w)) v []) (hv:flat v=true):cJ P f l v:=by
 intro w vs cB;obtain⟨ι,c,h1,h2,h3,h4,h5,h6,h7⟩:=wL cB (aX.1 hl) 0 _ _ (sj w) n_ (λ_ _=>rfl);exact tA gV hf hN n (h w) h6 h2 h4 h3 λao bP v' w' hle hc hm _=>⟨by rw[hc.eW hv],hm.base⟩
theorem yu{k:Nat}(gV:P.follows .mixedOrders=true)(hf:P.funcs[f]?=some fn)(hl:(l.all aJ.ok)=true)(n:Nat){N:Nat}(hN:N=(eE 0 l).length+(fn.ntmps-(eE 0 l).length))
  (rs:∀ w,bK P (ae.at w) N) (h:∀ w,nO (gu (P:=P) fn n (eE 0 l) (iY 0 l) (jq 0 l) (rs w)) [(k,.row xs ty size)]=nP (gu fn n (eE 0 l) (iY 0 l) (jq 0 l) (rs w)) (.slice (some ⟨k,0,some 7⟩) m 0) [(k,.row xs ty size)])
  (hx:(xs.all flat)=true) (hlen:xs.length=m*size):ko P f l ty size m xs:=by
 intro w vs cB;obtain⟨ι,c,h1,h2,h3,h4,h5,h6,h7⟩:=wL cB (aX.1 hl) 0 _ _ (sj w) n_ (λ_ _=>rfl);refine tA gV hf hN n (h w) h6 h2 h4 h3 λao bP v' w' hle hc hm dD=>⟨v',rfl,?_,hm.base⟩;have:=uJ hm (dD (k,_) (aN ..)) hc o_ (aX.1 hx);rwa[<-hlen,nB]at this
inductive gk(B:ae):List aJ->ak->List (Nat×Option Obj)->Prop
 |nil:gk B [] [] []
 |p {v:i_} {l:List aJ} {vs:ak} {nd:q_}:flat v=true->gk B l vs nd->gk B (.p v::l) (v::vs) nd
 |w {k n cc:Nat} {x:Obj} {l:List aJ} {vs:ak} {nd:q_}:x.reads=true->(x.cells.all flat)=true->(n=0->x.cells=[])->gk B l vs nd->gk B (.r n x.cells::l) (.slice (some ⟨k,0,some 7⟩) n cc::vs) ((k,some x)::nd)
 |r {k off n cc len:Nat} {x:Obj} {l:List aJ} {vs:ak} {nd:q_}:x.reads=true->(x.cells.all flat)=true->(n=0->len=0)->gk B l vs nd->gk B (.r n ((x.cells.drop off).take len)::l) (.slice (some ⟨k,off,some 7⟩) n cc::vs) ((k,some x)::nd)
 |q {k:Nat} {x:Obj} {l:List aJ} {vs:ak} {nd:q_}:x.reads=true->(x.cells.all flat)=true->gk B l vs nd->gk B (.q x.cells::l) (.pointer (some ⟨k,0,some 7⟩)::vs) ((k,some x)::nd)
 |f {g:FuncId} {k:Nat} {x:Obj} {l:List aJ} {vs:ak} {nd:q_}:x.reads=true->(x.cells.all flat)=true->gk B l vs nd->gk B (.f g x.cells::l) (.func (.func g) #[] #[.pointer (some ⟨k,0,some 7⟩)]::vs) ((k,some x)::nd)
 |b {k m n cc:Nat} {x y:Obj} {l:List aJ} {vs:ak} {nd:q_}:y.reads=true->y.cells=[.slice (some ⟨k,0,some 7⟩) n cc]->x.reads=true->(x.cells.all flat)=true->(n=0->x.cells=[])->gk B l vs nd->gk B (.b n x.cells::l) (.pointer (some ⟨m,0,some 7⟩)::vs) ((m,some y)::(k,some x)::nd)
 |o {k:Nat} {F:Fact} {l:List aJ} {vs:ak} {nd:q_}:gk B l vs nd->gk B (.o F::l) (.pointer (some ⟨k,0,some 9⟩)::vs) ((k,some (.fact F))::nd)
 |e {v:i_} {n:Nat} {xs:ak} {l:List aJ} {vs:ak} {nd:q_}:flat v=true->(∀ w,B.G w->cZ w v n xs)->gk B l vs nd->gk B (.r n xs::l) (v::vs) nd
 |s {k1 n1 c1 k2 n2 c2 k3:Nat} {x1 x2:Obj} {F:Fact} {l:List aJ} {vs:ak} {nd:q_}:x1.reads=true->(x1.cells.all flat)=true->(n1=0->x1.cells=[])->x2.reads=true->(x2.cells.all flat)=true->(n2=0->x2.cells=[])->gk B l vs nd->
   gk B (.s n1 x1.cells n2 x2.cells F::l) (.agg #[.slice (some ⟨k1,0,some 7⟩) n1 c1,.slice (some ⟨k2,0,some 7⟩) n2 c2,.pointer (some ⟨k3,0,some 9⟩)]::vs) ((k1,some x1)::(k2,some x2)::(k3,some (.fact F))::nd)
 |oi {k:Nat} {F F':Fact} {l:List aJ} {vs:ak} {nd:q_}:(∀ v w,F'.G v w->F.G v w)->gk B l vs nd->gk B (.o F::l) (.pointer (some ⟨k,0,some 9⟩)::vs) ((k,some (.fact F'))::nd)
 |si {k1 n1 c1 k2 n2 c2 k3:Nat} {x1 x2:Obj} {F F':Fact} {l:List aJ} {vs:ak} {nd:q_}:(∀ v w,F'.G v w->F.G v w)->x1.reads=true->(x1.cells.all flat)=true->(n1=0->x1.cells=[])->x2.reads=true->(x2.cells.all flat)=true->(n2=0->x2.cells=[])->gk B l vs nd->
   gk B (.s n1 x1.cells n2 x2.cells F::l) (.agg #[.slice (some ⟨k1,0,some 7⟩) n1 c1,.slice (some ⟨k2,0,some 7⟩) n2 c2,.pointer (some ⟨k3,0,some 9⟩)]::vs) ((k1,some x1)::(k2,some x2)::(k3,some (.fact F'))::nd)
 |c {u:i_} {k:Nat} {F F':Fact} {l:List aJ} {vs:ak} {nd:q_}:flat u=true->(∀ v w,F'.G v w->F.G v w)->gk B l vs nd->gk B (.c u F::l) (.agg #[u,.pointer (some ⟨k,0,some 9⟩)]::vs) ((k,some (.fact F'))::nd)
theorem yv(hm:aI B ι c w){k:Nat}{v:i_}(hk:c k=some (.fact F))(hc:aG ι (.pointer (some ⟨k,0,some 9⟩)) v):AE w v F:=by
 obtain⟨l,h1,u,h2,h3⟩:=hm.born k _ hk;subst h2;generalize hp:Value.pointer (some ⟨k,0,some 9⟩)=p at hc;cases hc with
 |same h=>subst hp;cases h
 |ptr h=>injection hp with hp;injection hp with hp;injection hp with _ _ hp;cases hp
 |slc h=>cases hp
 |slcN h=>cases hp
 |opq h4 h5 h6=>
  injection hp with hp;injection hp with hp;injection hp with ik;subst ik;rw[h1]at h4;injection h4 with h4;injection h4 with h4;subst h4;exact⟨h3,h5,h6⟩
 |fn=>cases hp
 |agg=>cases hp
 |tup=>cases hp
theorem aAg(hm:aI B ι c w){k:Nat}{x:Obj}{v:i_}(hk:c k=some x)(hx:x.reads=true)(cA:∀ u∈x.cells,flat u=true)(hc:aG ι (.pointer (some ⟨k,0,some 7⟩)) v):Nw w v x.cells:=by
 obtain⟨b,o,cap,hb,rfl⟩:=hc.ux rfl;obtain⟨l,h1,h2⟩:=hm.born k x hk;dsimp only at hb;rw[hb]at h1;injection h1 with h1;subst h1;obtain⟨bW,e7,kA⟩:=h2.at hx;have e7:=mD e7 cA;subst e7;refine⟨b,o,by simp,?_,λj u hj=>kA j u hj⟩;by_cases ho:x.owns=true
 ·exact(hm.own k x b o cap hk ho hb).1
 ·have hv:x.jc=true:=by unfold Obj.reads at hx;rw[qV]at hx;exact hx.resolve_left ho
  exact(hm.seen k x b o cap hk hv hb).1
theorem AG{nd:q_}(h:gk B l vs nd)(hm:aI B ι c w):∀{args:ak},(∀ p∈nd,c p.1=p.2)->bJ (aG ι) vs args->tT w l args:=by
 induction h with
 |nil=>intro args _ h;cases h;exact .nil
 |p hv _ ih=>
  intro args hn h;cases h with
  |cons h1 h2=>exact .cons (h1.eW hv) (ih hn h2)
 |@w k n cc x l vs nd hx cA hlen _ ih=>
  intro args hn h;cases h with
  |cons h1 h2=>
   refine .cons ?_ (ih (λp hp=>hn p (bB _ hp)) h2);have:=nQ (len:=x.cells.length) hm (hn (k,some x) (aN ..)) hx (aX.1 cA) (λh=>by rw[hlen h];rfl) h1;rw[lv,nB]at this;exact this
 |@r k off n cc len x l vs nd hx cA hlen _ ih=>
  intro args hn h;cases h with
  |cons h1 h2=>
   refine .cons ?_ (ih (λp hp=>hn p (bB _ hp)) h2);exact nQ (len:=len) hm (hn (k,some x) (aN ..)) hx (aX.1 cA) hlen h1
 |@q k x l vs nd hx cA _ ih=>
  intro args hn h;cases h with
  |cons h1 h2=>exact .cons (aAg hm (hn (k,some x) (aN ..)) hx (aX.1 cA) h1) (ih (λp hp=>hn p (bB _ hp)) h2)
 |@f g k x l vs nd hx cA _ ih=>
  intro args hn h;cases h with
  |cons h1 h2=>
   refine .cons ?_ (ih (λp hp=>hn p (bB _ hp)) h2);obtain⟨ju,gp,rfl,q1,q2⟩:=h1.zo;have ef:ju=#[]:=by
    cases oc:ju.toList with
    |nil=>exact GR.1 oc
    |cons _ _=>rw[oc]at q1;cases q1
   subst ef;have q2:bJ (aG ι) [.pointer (some ⟨k,0,some 7⟩)] gp.toList:=q2;cases k7:gp.toList with
   |nil=>rw[k7]at q2;cases q2
   |cons u t=>
    rw[k7]at q2;cases q2 with
    |cons q3 q4=>
     cases q4;refine⟨u,?_,aAg hm (hn (k,some x) (aN ..)) hx (aX.1 cA) q3⟩
     congr 1
     apply Dr;rw[k7]
 |@b k m n cc x y l vs nd hy hyc hx cA hlen _ ih=>
  intro args hn h;cases h with
  |@cons _ u _ _ h1 h2=>
   refine .cons ?_ (ih (λp hp=>hn p (bB _ (bB _ hp))) h2);obtain⟨b,o,cap,hb,rfl⟩:=h1.ux rfl;have hk:=hn (m,some y) (aN ..);obtain⟨lc,g1,g2⟩:=hm.born m y hk;dsimp only at hb;rw[hb]at g1;injection g1 with g1;subst g1;obtain⟨bW,e7,kA⟩:=g2.at hy;rw[hyc]at e7;obtain⟨u,rfl,hu⟩:=lO e7;have iW:=nQ (len:=x.cells.length) hm (hn (k,some x) (bB _ (aN ..))) hx (aX.1 cA) (λh=>by rw[hlen h];rfl) hu;rw[lv,nB]at iW;refine⟨b,o,u,by simp,?_,?_,iW⟩
   ·by_cases ho:y.owns=true
    ·exact(hm.own m y b o cap hk ho hb).1
    ·have hv:y.jc=true:=by unfold Obj.reads at hy;rw[qV]at hy;exact hy.resolve_left ho
     exact(hm.seen m y b o cap hk hv hb).1
   ·have:=kA 0 u rfl;simpa using this
 |@o k F l vs nd _ ih=>
  intro args hn h;cases h with
  |cons h1 h2=>exact .cons (yv hm (hn (k,_) (aN ..)) h1) (ih (λp hp=>hn p (bB _ hp)) h2)
 |@c u k F F' l vs nd hu hi _ ih=>
  intro args hn h;cases h with
  |cons h1 h2=>
   refine .cons ?_ (ih (λp hp=>hn p (bB _ hp)) h2);obtain⟨cs,rfl,e7⟩:=h1.Fu;obtain⟨a,b,bX,q1,q2⟩:=iH e7;have bM:=yv hm (hn (k,_) (aN ..)) q2;refine⟨b,?_,hi _ _ bM.1,bM.2⟩;rw[q1.eW hu]at bX
   congr 1
   apply Dr;rw[bX]
 |@e v n xs l vs nd hv hB _ ih=>
  intro args hn h;cases h with
  |cons h1 h2=>
   refine .cons ?_ (ih hn h2);rw[h1.eW hv];exact hB w hm.base
 |@s k1 n1 c1 k2 n2 c2 k3 x1 x2 F l vs nd r1 f1 l1 r2 f2 l2 _ ih=>
  intro args hn h;cases h with
  |cons h1 h2=>
   refine .cons ?_ (ih (λp hp=>hn p (bB _ (bB _ (bB _ hp)))) h2);obtain⟨us,rfl,JE⟩:=h1.Fu;obtain⟨u1,u2,u3,hu,q1,q2,q3⟩:=H4 JE;have p1:=nQ (len:=x1.cells.length) hm (hn (k1,some x1) (aN ..)) r1 (aX.1 f1) (λh=>by rw[l1 h];rfl) q1;have p2:=nQ (len:=x2.cells.length) hm (hn (k2,some x2) (bB _ (aN ..))) r2 (aX.1 f2) (λh=>by rw[l2 h];rfl) q2;rw[lv,nB]at p1 p2;refine⟨u1,u2,u3,?_,p1,p2,yv hm (hn (k3,_) (bB _ (bB _ (aN ..)))) q3⟩
   congr 1
   rw[<-yw (xs:=us),hu]
 |@oi k F F' l vs nd himp _ ih=>
  intro args hn h;cases h with
  |cons h1 h2=>
   have h3:=yv hm (hn (k,_) (aN ..)) h1;exact .cons ⟨himp _ _ h3.1,h3.2⟩ (ih (λp hp=>hn p (bB _ hp)) h2)
 |@si k1 n1 c1 k2 n2 c2 k3 x1 x2 F F' l vs nd himp r1 f1 l1 r2 f2 l2 _ ih=>
  intro args hn h;cases h with
  |cons h1 h2=>
   refine .cons ?_ (ih (λp hp=>hn p (bB _ (bB _ (bB _ hp)))) h2);obtain⟨us,rfl,JE⟩:=h1.Fu;obtain⟨u1,u2,u3,hu,q1,q2,q3⟩:=H4 JE;have p1:=nQ (len:=x1.cells.length) hm (hn (k1,some x1) (aN ..)) r1 (aX.1 f1) (λh=>by rw[l1 h];rfl) q1;have p2:=nQ (len:=x2.cells.length) hm (hn (k2,some x2) (bB _ (aN ..))) r2 (aX.1 f2) (λh=>by rw[l2 h];rfl) q2;rw[lv,nB]at p1 p2;have h3:=yv hm (hn (k3,_) (bB _ (bB _ (aN ..)))) q3;refine⟨u1,u2,u3,?_,p1,p2,⟨himp _ _ h3.1,h3.2⟩⟩
   congr 1
   rw[<-yw (xs:=us),hu]
theorem od{nd:q_}{x:m_}(h:cJ P f l res)(hs:gk B l vs nd)(ho:da o.op=some x)(eB:fN P f=true)(zz:flat res=true):
  ct P B o (.func (.func f) #[] #[]::vs) nd res []:=by
 have:=jy (P:=P) (B:=B) (o:=o) (x:=x) (f:=f) (fi:=[]) (args:=vs) (ca:=[]) (need:=nd) (val:=res) (cK:=[]) ho eB ?_
 ·simpa using this
 ·intro ι c w hm hn args' ha;rw[jg,gO]at ha;refine(h w args' (AG hs hm hn ha)).mono ?_
  rintro e w' ⟨rfl,hb⟩
  exact⟨ι,res,rfl,Map.le.refl _,.same zz,hm.call hb⟩
def aO.cR(fn:Func)(key:Nat)(vs:ak){nd:q_}(h:cJ P f l res)(hs:gk B l vs nd)(ho:da (au fn key).op=some (.func f):=by kernel_rfl)(hc:fN P f=true:=by kernel_rfl)(hr:flat res=true:=by kernel_rfl):aO P B N:=
 .step key (au fn key) (.func (.func f) #[] #[]::vs) nd res [] (od h hs ho hc hr)
theorem aJi{nd:q_}{x:m_}(h:cJ P f l res)(hs:gk B l (vs++ca) nd)(ho:da o.op=some x)(eB:fN P f=true)(zz:flat res=true):
  ct P B o (.func (.func f) #[] ca.toArray::vs) nd res []:=by
 have:=jy (P:=P) (B:=B) (o:=o) (x:=x) (f:=f) (fi:=[]) (args:=vs) (ca:=ca) (need:=nd) (val:=res) (cK:=[]) ho eB ?_
 ·simpa using this
 ·intro ι c w hm hn args' ha;rw[jg]at ha;refine(h w args' (AG hs hm hn ha)).mono ?_
  rintro e w' ⟨rfl,hb⟩
  exact⟨ι,res,rfl,Map.le.refl _,.same zz,hm.call hb⟩
theorem rI{n:Nat}{nd:q_}{x:m_}(h:ko P f l ty size n xs)(hs:gk B l vs nd)(ho:da o.op=some x)(eB:fN P f=true)(hx:(xs.all flat)=true)(k:Nat):
  ct P B o (.func (.func f) #[] #[]::vs) ((k,none)::nd) (.slice (some ⟨k,0,some 7⟩) n 0) [(k,.row xs ty size)]:=by
 have:=jy (P:=P) (B:=B) (o:=o) (x:=x) (f:=f) (fi:=[]) (args:=vs) (ca:=[]) (need:=(k,none)::nd) (val:=.slice (some ⟨k,0,some 7⟩) n 0) (cK:=[(k,.row xs ty size)]) ho eB ?_
 ·simpa using this
 ·intro ι c w hm hn args' ha;rw[jg,gO]at ha;refine(h w args' (AG hs hm (λp hp=>hn p (bB _ hp)) ha)).mono ?_
  rintro e w' ⟨v,rfl,h1,h2⟩
  obtain⟨ao,q1,q2,q3⟩:=DN hm h2 (k:=k) (hn (k,none) (aN ..)) h1 (aX.1 hx);exact⟨ao,v,rfl,q1,q3,q2⟩
end
section
open CR OF
@[ext] structure V3 (α:Type) where
 x:α
 y:α
 z:α
namespace V3
section
variable{α:Type}
instance[Add α]:Add (V3 α):=⟨λu v=>⟨u.x+v.x,u.y+v.y,u.z+v.z⟩⟩
instance[Sub α]:Sub (V3 α):=⟨λu v=>⟨u.x-v.x,u.y-v.y,u.z-v.z⟩⟩
instance[Neg α]:Neg (V3 α):=⟨λu=>⟨-u.x,-u.y,-u.z⟩⟩
instance[Zero α]:Zero (V3 α):=⟨⟨0,0,0⟩⟩
def smul[Mul α](v:V3 α)(k:α):V3 α:=⟨v.x*k,v.y*k,v.z*k⟩
def dot[Add α][Mul α](u v:V3 α):α:=u.x*v.x+u.y*v.y+u.z*v.z
def aw[Sub α][Mul α](u v:V3 α):V3 α:=⟨u.y*v.z-u.z*v.y,u.z*v.x-u.x*v.z,u.x*v.y-u.y*v.x⟩
def cV[Add α][Sub α][Mul α](u v w:V3 α):α:=dot u (aw v w)
end
def V(i:Nat):V3 E:=⟨E.var (3*i),E.var (3*i+1),E.var (3*i+2)⟩
def S(j:Nat):E:=E.var (90+j)
def flat{F:Type}:List (V3 F)->List F
 |[]=>[]
 |v::vs=>v.x::v.y::v.z::flat vs
def Ny{F:Type}[CR F](vs:List (V3 F))(ss:List F)(i:Nat):F:=cond (Nat.blt i 90) ((flat vs).getD i 0) (ss.getD (i-90) 0)
def aAh{F:Type}[CR F](ρ:Nat->F)(v:V3 E):V3 F:=⟨v.x.den ρ,v.y.den ρ,v.z.den ρ⟩
section
variable{F:Type}[CR F]
theorem ring(vs:List (V3 F))(ss:List F)(l r:(Nat->V3 E)->(Nat->E)->E)
  (h:E.peq (l V S).norm (r V S).norm=true) :
  (l V S).den (Ny vs ss)=(r V S).den (Ny vs ss):=E.prove _ _ _ h
theorem l8(vs:List (V3 F))(ss:List F)(l r:(Nat->V3 E)->(Nat->E)->V3 E)
  (h:(E.peq (l V S).x.norm (r V S).x.norm&&
   E.peq (l V S).y.norm (r V S).y.norm&&
   E.peq (l V S).z.norm (r V S).z.norm)=true) :
  aAh (Ny vs ss) (l V S)=aAh (Ny vs ss) (r V S):=by
 simp only[cY]at h;exact V3.ext (E.prove _ _ _ h.1.1) (E.prove _ _ _ h.1.2) (E.prove _ _ _ h.2)
theorem AH(u v:V3 F):dot u v=dot v u:=ring [u,v] [] (λV _=>dot (V 0) (V 1)) (λV _=>dot (V 1) (V 0)) d_
theorem pH(u v w:V3 F):dot u (v+w)=dot u v+dot u w:=ring [u,v,w] [] (λV _=>dot (V 0) (V 1+V 2)) (λV _=>dot (V 0) (V 1)+dot (V 0) (V 2)) d_
theorem mP(u v w:V3 F):dot u (v-w)=dot u v-dot u w:=ring [u,v,w] [] (λV _=>dot (V 0) (V 1-V 2)) (λV _=>dot (V 0) (V 1)-dot (V 0) (V 2)) d_
theorem wM(u v:V3 F):dot u (-v)=-dot u v:=ring [u,v] [] (λV _=>dot (V 0) (-V 1)) (λV _=>-dot (V 0) (V 1)) d_
theorem JF(u v:V3 F):dot (-u) v=-dot u v:=ring [u,v] [] (λV _=>dot (-V 0) (V 1)) (λV _=>-dot (V 0) (V 1)) d_
theorem kJ(u v:V3 F)(k:F):dot u (smul v k)=dot u v*k:=ring [u,v] [k] (λV S=>dot (V 0) (smul (V 1) (S 0))) (λV S=>dot (V 0) (V 1)*S 0) d_
theorem Nz(u v w:V3 F):dot (u+v) w=dot u w+dot v w:=ring [u,v,w] [] (λV _=>dot (V 0+V 1) (V 2)) (λV _=>dot (V 0) (V 2)+dot (V 1) (V 2)) d_
theorem Cx(u:V3 F):dot u 0=0:=by show u.x*0+u.y*0+u.z*0=0;rw[CR.mul_zero,CR.mul_zero,CR.mul_zero,CR.add_zero,CR.add_zero]
theorem aJj(u:V3 F):dot 0 u=0:=by rw[AH,Cx]
theorem JG(u v:V3 F):dot u (aw u v)=0:=ring [u,v] [] (λV _=>dot (V 0) (aw (V 0) (V 1))) (λ_ _=>0) d_
theorem JH(u v:V3 F):dot v (aw u v)=0:=ring [u,v] [] (λV _=>dot (V 1) (aw (V 0) (V 1))) (λ_ _=>0) d_
theorem JI(u:V3 F):aw u u=0:=l8 [u] [] (λV _=>aw (V 0) (V 0)) (λ_ _=>0) d_
theorem GV(u v:V3 F):aw v u=-aw u v:=l8 [u,v] [] (λV _=>aw (V 1) (V 0)) (λV _=>-aw (V 0) (V 1)) d_
theorem NA(u v w:V3 F):cV u v w=cV v w u:=ring [u,v,w] [] (λV _=>cV (V 0) (V 1) (V 2)) (λV _=>cV (V 1) (V 2) (V 0)) d_
theorem aAi(u v w:V3 F):cV u w v=-cV u v w:=ring [u,v,w] [] (λV _=>cV (V 0) (V 2) (V 1)) (λV _=>-cV (V 0) (V 1) (V 2)) d_
theorem neg_neg(u:V3 F):- -u=u:=l8 [u] [] (λV _=>- -V 0) (λV _=>V 0) d_
theorem sub_self(u:V3 F):u-u=0:=l8 [u] [] (λV _=>V 0-V 0) (λ_ _=>0) d_
theorem add_zero(u:V3 F):u+0=u:=V3.ext (CR.add_zero _) (CR.add_zero _) (CR.add_zero _)
theorem add_sub_cancel(u v:V3 F):u+(v-u)=v:=l8 [u,v] [] (λV _=>V 0+(V 1-V 0)) (λV _=>V 1) d_
theorem smul_zero(u:V3 F):smul u 0=0:=V3.ext (CR.mul_zero _) (CR.mul_zero _) (CR.mul_zero _)
theorem aJk(u:V3 F):smul u 1=u:=V3.ext (CR.mul_one _) (CR.mul_one _) (CR.mul_one _)
theorem aAj(u:V3 F)(a b:F):smul (smul u a) b=smul u (a*b):=V3.ext (CR.mul_assoc _ _ _) (CR.mul_assoc _ _ _) (CR.mul_assoc _ _ _)
theorem neg_zero:-(0:V3 F)=0:=V3.ext CR.neg_zero CR.neg_zero CR.neg_zero
end
section
variable{F:Type}[OF F]
theorem sub_eq_zero{u v:V3 F}:u-v=0↔u=v:=by
 constructor
 ·intro h;exact V3.ext (OF.sub_eq_zero.1 (b9 V3.x h)) (OF.sub_eq_zero.1 (b9 V3.y h)) (OF.sub_eq_zero.1 (b9 V3.z h))
 ·rintro rfl;exact sub_self u
theorem aAk{u:V3 F}(h:u≠0):0<dot u u:=by
 by_cases hx:u.x=0
 ·by_cases hy:u.y=0
  ·have hz:u.z≠0:=λhz=>h (V3.ext hx hy hz);exact Y7 (add_nonneg (l4 _) (l4 _)) (Sb hz)
  ·exact Jc (Y7 (l4 _) (Sb hy)) (l4 _)
 ·exact Jc (Jc (Sb hx) (l4 _)) (l4 _)
theorem AJ{u:V3 F}(h:u≠0):dot u u≠0:=OF.ne_of_gt (aAk h)
theorem aJl{u:V3 F}{k:F}(h:smul u k=0):u=0\/k=0:=by
 by_cases hk:k=0
 ·exact .inr hk
 ·left;have hx:=(mul_eq_zero.1 (b9 V3.x h:u.x*k=0)).resolve_right hk;have hy:=(mul_eq_zero.1 (b9 V3.y h:u.y*k=0)).resolve_right hk;have hz:=(mul_eq_zero.1 (b9 V3.z h:u.z*k=0)).resolve_right hk;exact V3.ext hx hy hz
theorem neg_eq_zero{u:V3 F}:-u=0↔u=0:=by
 constructor
 ·intro h;rw[<-neg_neg u,h,neg_zero]
 ·rintro rfl;exact neg_zero
theorem GW{a b c v:V3 F}(hd:cV a b c≠0)(ha:dot a v=0)(hb:dot b v=0)(hc:dot c v=0):v=0:=by
 have e:smul v (cV a b c)=smul (aw b c) (dot a v)+smul (aw c a) (dot b v)+smul (aw a b) (dot c v):=
  l8 [a,b,c,v] [] (λV _=>smul (V 3) (cV (V 0) (V 1) (V 2)))
   (λV _=>smul (aw (V 1) (V 2)) (dot (V 0) (V 3))+smul (aw (V 2) (V 0)) (dot (V 1) (V 3))+smul (aw (V 0) (V 1)) (dot (V 2) (V 3))) d_
 rw[ha,hb,hc,smul_zero,smul_zero,smul_zero,add_zero,add_zero]at e;exact(aJl e).resolve_right hd
theorem aAl{a b v:V3 F}(hd:aw a b≠0)(ha:dot a v=0)(hb:dot b v=0):v=smul (aw a b) (dot (aw a b) v*(dot (aw a b) (aw a b))⁻¹):=by
 have aY:=AJ hd;have e:smul v (dot (aw a b) (aw a b))=smul (aw a b) (dot (aw a b) v)+smul (aw b (aw a b)) (dot a v)+smul (aw (aw a b) a) (dot b v):=
  l8 [a,b,v] [] (λV _=>smul (V 2) (dot (aw (V 0) (V 1)) (aw (V 0) (V 1))))
   (λV _=>smul (aw (V 0) (V 1)) (dot (aw (V 0) (V 1)) (V 2))+smul (aw (V 1) (aw (V 0) (V 1))) (dot (V 0) (V 2))+smul (aw (aw (V 0) (V 1)) (V 0)) (dot (V 1) (V 2))) d_
 rw[ha,hb,smul_zero,smul_zero,add_zero,add_zero]at e;rw[<-aAj,<-e,aAj,pA _ aY,aJk]
end
end V3
end
variable{acc:List (V3 K)}
section
open CR OF V3
@[ext] structure HS (F:Type) where
 n:V3 F
 d:F
section
variable{F:Type}[OF F]
def mQ(ps:List (HS F))(v:V3 F):Prop:=∀ p∈ps,dot p.n v<=p.d
def fE(p:HS F)(v:V3 F):Prop:=dot p.n v=p.d
def Cl(ps:List (HS F)):Prop:=
 (∃ p∈ps,∃ q∈ps,aw p.n q.n≠0)/\∀ p∈ps,∀ q∈ps,aw p.n q.n≠0->∃ r∈ps,0<dot r.n (aw p.n q.n)
def l9(ps:List (HS F)):Prop:=∀ p∈ps,p.n≠0
theorem Tl{d:V3 F}(h:d≠0):∃ u:V3 F,u≠0/\dot d u=0:=by
 by_cases hz:d.z=0
 ·by_cases hy:d.y=0
  ·have hx:d.x≠0:=λhx=>h (V3.ext hx hy hz);refine⟨⟨d.z,0,-d.x⟩,λe=>hx ?_,ring [d] [] (λV _=>dot (V 0) ⟨(V 0).z,0,-(V 0).x⟩) (λ_ _=>0) d_⟩;have:-d.x=0:=b9 V3.z e;rw[<-CR.neg_neg d.x,this,CR.neg_zero]
  ·refine⟨⟨-d.y,d.x,0⟩,λe=>hy ?_,ring [d] [] (λV _=>dot (V 0) ⟨-(V 0).y,(V 0).x,0⟩) (λ_ _=>0) d_⟩;have:-d.y=0:=b9 V3.x e;rw[<-CR.neg_neg d.y,this,CR.neg_zero]
 ·refine⟨⟨0,-d.z,d.y⟩,λe=>hz ?_,ring [d] [] (λV _=>dot (V 0) ⟨0,-(V 0).z,(V 0).y⟩) (λ_ _=>0) d_⟩;have:-d.z=0:=b9 V3.y e;rw[<-CR.neg_neg d.z,this,CR.neg_zero]
theorem aJm(l:List (F×F))(h0:∀ x∈l,0<=x.2)(hp:∃ x∈l,0<x.1):
  ∃ t:F,0<=t/\(∃ x∈l,0<x.1/\x.1*t=x.2)/\∀ x∈l,x.1*t<=x.2:=by
 induction l with
 |nil=>obtain⟨x,hx,_⟩:=hp;cases hx
 |cons y l ih=>
  obtain⟨a,b⟩:=y;have hb:0<=b:=h0 _ (aN ..);have h0':∀ x∈l,0<=x.2:=λx hx=>h0 x (bB _ hx)
  -- t=b/a aSC,if it is at most t' aSD t' is aSE
  have new:0<a->(∀ x∈l,0<x.1->x.1*(b*a⁻¹)<=x.2)->
    ∃ t:F,0<=t/\(∃ x∈(a,b)::l,0<x.1/\x.1*t=x.2)/\∀ x∈(a,b)::l,x.1*t<=x.2:=by
   intro ha hl;have e:a*(b*a⁻¹)=b:=by rw[CR.mul_left_comm,pA _ (OF.ne_of_gt ha),CR.mul_one]
   have ht:0<=b*a⁻¹:=mul_nonneg hb (le_of_lt (inv_pos ha));refine⟨b*a⁻¹,ht,⟨_,aN ..,ha,e⟩,?_⟩;intro x hx;rcases ch.1 hx with rfl|hx
   ·exact OF.le_of_eq e
   ·by_cases h:0<x.1
    ·exact hl x hx h
    ·refine OF.le_trans ?_ (h0' x hx);rw[<-neg_nonneg,<-CR.neg_mul];exact mul_nonneg (neg_nonneg.2 (OF.not_lt.1 h)) ht
  by_cases hl:∃ x∈l,0<x.1
  ·obtain⟨t,ht,⟨x,hx,mR,yx⟩,aU⟩:=ih h0' hl;by_cases lS:a*t<=b
   ·exact⟨t,ht,⟨x,bB _ hx,mR,yx⟩,λz hz=>by
     rcases ch.1 hz with rfl|hz
     ·exact lS
     ·exact aU z hz⟩
   ·have NB:=OF.not_le.1 lS;have ha:0<a:=by
     rcases OF.lt_trichotomy 0 a with h|h|h
     ·exact h
     ·rw[<-h,CR.zero_mul]at NB;exact absurd (OF.lt_of_le_of_lt hb NB) (OF.lt_irrefl _)
     ·have:=mul_nonneg (neg_nonneg.2 (le_of_lt h)) ht;rw[CR.neg_mul,neg_nonneg]at this;exact absurd (OF.lt_of_le_of_lt hb (OF.lt_of_lt_of_le NB this)) (OF.lt_irrefl _)
    refine new ha λz hz zt=>?_;refine OF.le_trans ?_ (aU z hz);refine le_of_lt ((mul_lt_mul_left zt).2 ?_);rw[<-mul_lt_mul_left ha,CR.mul_left_comm,pA _ (OF.ne_of_gt ha),CR.mul_one];exact NB
  ·obtain⟨x,hx,mR⟩:=hp;rcases ch.1 hx with rfl|hx
   ·exact new mR λz hz zt=>(hl ⟨z,hz,zt⟩).elim
   ·exact(hl ⟨x,hx,mR⟩).elim
theorem uI{ps:List (HS F)}{v u:V3 F}(hv:mQ ps v)(hu:∃ p∈ps,0<dot p.n u):
  ∃ t:F,0<=t/\(∃ q∈ps,0<dot q.n u/\fE q (v+smul u t))/\mQ ps (v+smul u t):=by
 obtain⟨t,ht,⟨x,hx,mR,yx⟩,aU⟩:=aJm (ps.map λp=>(dot p.n u,p.d-dot p.n v))
  (λx hx=>by obtain⟨p,hp,rfl⟩:=dq.1 hx;exact OF.sub_nonneg.2 (hv p hp))
  (by obtain⟨p,hp,h⟩:=hu;exact⟨_,dq.2 ⟨p,hp,rfl⟩,h⟩)
 obtain⟨q,hq,rfl⟩:=dq.1 hx;have e:∀ p:HS F,dot p.n (v+smul u t)=dot p.n v+dot p.n u*t:=λp=>by rw[pH,kJ]
 refine⟨t,ht,⟨q,hq,mR,?_⟩,?_⟩
 ·unfold fE;rw[e,yx];exact kZ (dot q.n v) q.d (λa d=>a+(d-a)) (λ_ d=>d) d_
 ·intro p hp;have:=aU _ (dq.2 ⟨p,hp,rfl⟩);rw[e];have h2:=(add_le_add_left (dot p.n v)).2 this;rwa[show dot p.n v+(p.d-dot p.n v)=p.d from kZ (dot p.n v) p.d (λa d=>a+(d-a)) (λ_ d=>d) d_]at h2
theorem Tm{p q u:V3 F}(hp:p≠0)(h:aw p q=0)(hu:dot p u=0):dot q u=0:=by
 have e:dot q u*dot p p=dot p u*dot p q-dot (aw p (aw p q)) u:=
  ring [p,q,u] [] (λV _=>dot (V 1) (V 2)*dot (V 0) (V 0)) (λV _=>dot (V 0) (V 2)*dot (V 0) (V 1)-dot (aw (V 0) (aw (V 0) (V 1))) (V 2)) d_
 have z:aw p (0:V3 F)=0:=l8 [p] [] (λV _=>aw (V 0) 0) (λ_ _=>0) d_;rw[h,hu,z,aJj,CR.zero_mul,OF.sub_zero]at e;exact(mul_eq_zero.1 e).resolve_right (AJ hp)
theorem aAm{p d:V3 F}(hp:p≠0)(hd:d≠0)(h:dot p d=0):aw p d≠0:=by
 intro e;have e2:dot (aw p d) (aw p d)=dot p p*dot d d-dot p d*dot p d:=
  ring [p,d] [] (λV _=>dot (aw (V 0) (V 1)) (aw (V 0) (V 1))) (λV _=>dot (V 0) (V 0)*dot (V 1) (V 1)-dot (V 0) (V 1)*dot (V 0) (V 1)) d_
 rw[e,h,Cx,CR.mul_zero,OF.sub_zero]at e2;exact mul_ne_zero (AJ hp) (AJ hd) e2.symm
theorem Tn{d u:V3 F}{t:F}(hd:d≠0)(h:dot d u=0):d+smul u t≠0:=by intro e;have:=b9 (dot d) e;rw[pH,kJ,h,CR.zero_mul,CR.add_zero,Cx]at this;exact AJ hd this
theorem aAn{ns:List (V3 F)}(hs:∃ a∈ns,∃ b∈ns,∃ c∈ns,cV a b c≠0){u:V3 F}(hu:u≠0):
  (∃ n∈ns,0<dot n u)\/(∃ n∈ns,0<dot n (-u)):=by
 obtain⟨a,ha,b,hb,c,hc,hd⟩:=hs;have key:∀ n∈ns,dot n u≠0->(∃ n∈ns,0<dot n u)\/(∃ n∈ns,0<dot n (-u)):=by
  intro n hn h;rcases OF.lt_trichotomy 0 (dot n u)with k|k|k
  ·exact .inl ⟨n,hn,k⟩
  ·exact absurd k.symm h
  ·exact .inr ⟨n,hn,by rw[wM];exact neg_pos.2 k⟩
 by_cases h1:dot a u=0
 ·by_cases h2:dot b u=0
  ·by_cases h3:dot c u=0
   ·exact absurd (GW hd h1 h2 h3) hu
   ·exact key c hc h3
  ·exact key b hb h2
 ·exact key a ha h1
theorem ray{ns:List (V3 F)}(h0:∀ n∈ns,n≠0)(hs:∃ a∈ns,∃ b∈ns,∃ c∈ns,cV a b c≠0){d:V3 F}(hd:d≠0)(cB:∀ n∈ns,dot n d<=0):
  ∃ p∈ns,∃ q∈ns,aw p q≠0/\∀ n∈ns,dot n (aw p q)<=0:=by
 -- one NC
 have To:∀{v u:V3 F},(∀ n∈ns,dot n v<=0)->(∃ n∈ns,0<dot n u)->∃ t:F,(∃ q∈ns,0<dot q u/\dot q (v+smul u t)=0)/\∀ n∈ns,dot n (v+smul u t)<=0:=by
  intro v u hv hu
  obtain⟨t,_,⟨q,hq,oJ,uV⟩,aU⟩:=uI (ps:=ns.map λn=>⟨n,0⟩) (v:=v) (u:=u)
   (λp hp=>by obtain⟨n,hn,rfl⟩:=dq.1 hp;exact hv n hn)
   (by obtain⟨n,hn,h⟩:=hu;exact⟨⟨n,0⟩,dq.2 ⟨n,hn,rfl⟩,h⟩)
  obtain⟨n,hn,rfl⟩:=dq.1 hq;exact⟨t,⟨n,hn,oJ,uV⟩,λm hm=>aU ⟨m,0⟩ (dq.2 ⟨m,hm,rfl⟩)⟩
 have one:∃ d1:V3 F,d1≠0/\(∃ p∈ns,dot p d1=0)/\∀ n∈ns,dot n d1<=0:=by
  obtain⟨u,hu,ND⟩:=Tl hd;rcases aAn hs hu with h|h
  ·obtain⟨t,⟨q,hq,_,uV⟩,aU⟩:=To cB h;exact⟨_,Tn hd ND,⟨q,hq,uV⟩,aU⟩
  ·obtain⟨t,⟨q,hq,_,uV⟩,aU⟩:=To cB h;exact⟨_,Tn hd (by rw[wM,ND,CR.neg_zero]),⟨q,hq,uV⟩,aU⟩
 obtain⟨d1,Tp,⟨p,hp,FC⟩,Tq⟩:=one;have NF:=h0 p hp;have fin:∀ u:V3 F,dot p u=0->dot d1 u=0->(∃ n∈ns,0<dot n u)->∃ p∈ns,∃ q∈ns,aw p q≠0/\∀ n∈ns,dot n (aw p q)<=0:=by
  intro u JJ ND h;obtain⟨t,⟨q,hq,hqu,uV⟩,aU⟩:=To Tq h;have aY:aw p q≠0:=λe=>by rw[Tm NF e JJ]at hqu;exact OF.lt_irrefl _ hqu
  have SC:d1+smul u t≠0:=Tn Tp ND;have Ew:dot p (d1+smul u t)=0:=by rw[pH,kJ,JJ,FC,CR.zero_mul,CR.add_zero]
  have e:=aAl aY Ew uV;generalize dot (aw p q) (d1+smul u t)*(dot (aw p q) (aw p q))⁻¹=k at e;rcases OF.lt_trichotomy 0 k with hk|hk|hk
  ·refine⟨p,hp,q,hq,aY,λn hn=>?_⟩;have:=aU n hn;rw[e,kJ,CR.mul_comm]at this;rw[<-CR.mul_zero k,mul_le_mul_left hk]at this;exact this
  ·rw[<-hk,smul_zero]at e;exact absurd e SC
  ·refine⟨q,hq,p,hp,λe'=>aY (by rw[GV,e',V3.neg_zero]),λn hn=>?_⟩;have:=aU n hn;rw[e,kJ,GV q p,wM,CR.neg_mul,<-CR.mul_neg,CR.mul_comm]at this;rw[<-CR.mul_zero (-k),mul_le_mul_left (neg_pos.2 hk)]at this;exact this
 have hc:=aAm NF Tp FC;rcases aAn hs hc with h|h
 ·exact fin _ (JG p d1) (JH p d1) h
 ·exact fin _ (by rw[wM,JG,CR.neg_zero]) (by rw[wM,JH,CR.neg_zero]) h
theorem Cl.span{ps:List (HS F)}(h:Cl ps):∃ a∈ps.map HS.n,∃ b∈ps.map HS.n,∃ c∈ps.map HS.n,cV a b c≠0:=by obtain⟨⟨p,hp,q,hq,Na⟩,ga⟩:=h;obtain⟨r,hr,h⟩:=ga p hp q hq Na;exact⟨r.n,dq.2 ⟨r,hr,rfl⟩,p.n,dq.2 ⟨p,hp,rfl⟩,q.n,dq.2 ⟨q,hq,rfl⟩,OF.ne_of_gt h⟩
theorem Cl.bounds{ps:List (HS F)}(h:Cl ps)(hp:l9 ps){u:V3 F}(hu:u≠0):∃ r∈ps,0<dot r.n u:=by
 apply jM;intro fP;have cB:∀ n∈ps.map HS.n,dot n u<=0:=by intro n hn;obtain⟨p,hp,rfl⟩:=dq.1 hn;exact OF.not_lt.1 λk=>fP ⟨p,hp,k⟩
 obtain⟨a,ha,b,hb,aY,aU⟩:=ray (λn hn=>by obtain⟨p,jB,rfl⟩:=dq.1 hn;exact hp p jB) h.span hu cB;obtain⟨p,jB,rfl⟩:=dq.1 ha;obtain⟨q,AK,rfl⟩:=dq.1 hb;obtain⟨r,hr,oL⟩:=h.2 p jB q AK aY;exact OF.lt_irrefl _ (OF.lt_of_lt_of_le oL (aU r.n (dq.2 ⟨r,hr,rfl⟩)))
def pI(ps:List (HS F))(v:V3 F):Prop:=
 mQ ps v/\∃ p∈ps,∃ q∈ps,∃ r∈ps,cV p.n q.n r.n≠0/\fE p v/\fE q v/\fE r v
theorem top{ps:List (HS F)}(hc:Cl ps)(hp:l9 ps){x m:V3 F}(hx:mQ ps x):∃ v,pI ps v/\dot m x<=dot m v:=by
 -- a step along a line
 have go:∀{x u:V3 F},mQ ps x->u≠0->∃ u':V3 F,(u'=u\/u'=-u)/\∃ t:F,(∃ q∈ps,0<dot q.n u'/\fE q (x+smul u' t))/\mQ ps (x+smul u' t)/\dot m x<=dot m (x+smul u' t):=by
  have half:∀{x u:V3 F},mQ ps x->u≠0->0<=dot m u->∃ t:F,(∃ q∈ps,0<dot q.n u/\fE q (x+smul u t))/\mQ ps (x+smul u t)/\dot m x<=dot m (x+smul u t):=by intro x u hx hu hm;obtain⟨t,ht,hq,cB⟩:=uI hx (hc.bounds hp hu);refine⟨t,hq,cB,?_⟩;rw[pH,kJ];have:=(add_le_add_left (dot m x)).2 (mul_nonneg hm ht);rwa[CR.add_zero]at this
  intro x u hx hu;rcases OF.le_total 0 (dot m u)with h|h
  ·exact⟨u,.inl rfl,half hx hu h⟩
  ·exact⟨-u,.inr rfl,half hx (λe=>hu (neg_eq_zero.1 e)) (by rw[wM];exact neg_nonneg.2 h)⟩
 obtain⟨⟨p0,NF,_⟩,_⟩:=hc;obtain⟨u1,_,t1,⟨p,kp,_,Ew⟩,Tq,cP⟩:=go hx (hp p0 NF);generalize x+smul u1 t1=x1 at *;obtain⟨u,hu,JJ⟩:=Tl (hp p kp);obtain⟨u2,h2,t2,⟨q,hqm,oJ,uV⟩,aJn,dz⟩:=go Tq hu;have aAo:dot p.n u2=0:=by
  rcases h2 with rfl|rfl
  ·exact JJ
  ·rw[wM,JJ,CR.neg_zero]
 have aJo:fE p (x1+smul u2 t2):=by unfold fE at *;rw[pH,kJ,aAo,CR.zero_mul,CR.add_zero,Ew]
 generalize x1+smul u2 t2=x2 at *;have aY:aw p.n q.n≠0:=λe=>by rw[Tm (hp p kp) e aAo]at oJ;exact OF.lt_irrefl _ oJ
 obtain⟨u3,h3,t3,⟨r,hrm,oL,Ey⟩,aJp,uy⟩:=go aJn aY;have aAp:dot p.n u3=0/\dot q.n u3=0:=by
  rcases h3 with rfl|rfl
  ·exact⟨JG _ _,JH _ _⟩
  ·rw[wM,wM,JG,JH,CR.neg_zero];exact⟨rfl,rfl⟩
 refine⟨_,⟨aJp,p,kp,q,hqm,r,hrm,?_,?_,?_,Ey⟩,OF.le_trans cP (OF.le_trans dz uy)⟩
 ·intro e;have e2:dot r.n (aw p.n q.n)=0:=by rw[show dot r.n (aw p.n q.n)=cV r.n p.n q.n from rfl,NA];exact e
  rcases h3 with rfl|rfl
  ·rw[e2]at oL;exact OF.lt_irrefl _ oL
  ·rw[wM,e2,CR.neg_zero]at oL;exact OF.lt_irrefl _ oL
 ·unfold fE at *;rw[pH,kJ,aAp.1,CR.zero_mul,CR.add_zero,aJo]
 ·unfold fE at *;rw[pH,kJ,aAp.2,CR.zero_mul,CR.add_zero,uV]
theorem aJq{ps:List (HS F)}(hp:l9 ps){v x:V3 F}(hv:pI ps v)(hx:mQ ps x)(aY:x≠v):
  ∃ p∈ps,∃ q∈ps,fE p v/\fE q v/\aw p.n q.n≠0/\∀ r∈ps,fE r v->dot r.n (aw p.n q.n)<=0:=by
 classical
 obtain⟨_,a,ha,b,hb,c,hc,hd,ta,tb,tc⟩:=hv
 let ts:=ps.filter λp=>decide (fE p v)
 have mem:∀ p,p∈ts↔p∈ps/\fE p v:=λp=>by simp[ts]
 obtain⟨n,hn,m,hm,kS,aU⟩:=ray (ns:=ts.map HS.n) (d:=x-v)
  (λn hn=>by obtain⟨p,jB,rfl⟩:=dq.1 hn;exact hp p ((mem p).1 jB).1)
  ⟨a.n,dq.2 ⟨a,(mem a).2 ⟨ha,ta⟩,rfl⟩,b.n,dq.2 ⟨b,(mem b).2 ⟨hb,tb⟩,rfl⟩,c.n,dq.2 ⟨c,(mem c).2 ⟨hc,tc⟩,rfl⟩,hd⟩
  (λe=>aY (V3.sub_eq_zero.1 e))
  (λn hn=>by obtain⟨p,jB,rfl⟩:=dq.1 hn;obtain⟨ik,ht⟩:=(mem p).1 jB;rw[mP,show dot p.n v=p.d from ht,<-neg_nonneg,OF.neg_sub];exact OF.sub_nonneg.2 (hx p ik))
 obtain⟨p,jB,rfl⟩:=dq.1 hn;obtain⟨q,AK,rfl⟩:=dq.1 hm;exact⟨p,((mem p).1 jB).1,q,((mem q).1 AK).1,((mem p).1 jB).2,((mem q).1 AK).2,kS,λr hr ht=>aU r.n (dq.2 ⟨r,(mem r).2 ⟨hr,ht⟩,rfl⟩)⟩
end
structure iu(F:Type)[OF F] where
 fw:V3 F->Prop
 add:∀{x y},fw x->fw y->fw (x+y)
 mul:∀{x k},fw x->0<k->fw (smul x k)
 asymm:∀{x},fw x->fw (-x)->False
namespace iu
variable{F:Type}[OF F](H:iu F)
theorem zero{H:iu F}:¬H.fw 0:=λh=>H.asymm h (by rw[V3.neg_zero];exact h)
def opp:iu F where
 fw v:=H.fw (-v)
 add {x y} hx hy:=by rw[show -(x+y)=-x+-y from l8 [x,y] [] (λV _=>-(V 0+V 1)) (λV _=>-V 0+-V 1) d_];exact H.add hx hy
 mul {x k} hx hk:=by rw[show -(smul x k)=smul (-x) k from l8 [x] [k] (λV S=>-(smul (V 0) (S 0))) (λV S=>smul (-V 0) (S 0)) d_];exact H.mul hx hk
 asymm {x} h k:=H.asymm h k
theorem ne{H:iu F}{a b:V3 F}(h:H.fw (b-a)):a≠b:=by rintro rfl;rw[V3.sub_self]at h;exact zero h
theorem aAq{H:iu F}{a b c:V3 F}(h:H.fw (b-a))(k:H.fw (c-b)):H.fw (c-a):=by rw[show c-a=(b-a)+(c-b)from l8 [a,b,c] [] (λV _=>V 2-V 0) (λV _=>(V 1-V 0)+(V 2-V 1)) d_];exact H.add h k
theorem GX{H:iu F}{a b:V3 F}(h:H.fw (b-a))(k:H.fw (a-b)):False:=by apply H.asymm h;rw[show -(b-a)=a-b from l8 [a,b] [] (λV _=>-(V 1-V 0)) (λV _=>V 0-V 1) d_];exact k
end iu
section
variable{F:Type}[OF F](n:V3 F)
def tr(x y:V3 F):F:=dot n (aw x y)
def turn(a b c:V3 F):F:=dot n (aw (b-a) (c-a))
theorem Tr(a b c:V3 F):turn n a b c=turn n b c a:=
 ring [n,a,b,c] [] (λV _=>dot (V 0) (aw (V 2-V 1) (V 3-V 1))) (λV _=>dot (V 0) (aw (V 3-V 2) (V 1-V 2))) d_
theorem aAr(a b c:V3 F):turn n a c b=-turn n a b c:=
 ring [n,a,b,c] [] (λV _=>dot (V 0) (aw (V 3-V 1) (V 2-V 1))) (λV _=>-dot (V 0) (aw (V 2-V 1) (V 3-V 1))) d_
theorem Ts(a b c:V3 F):turn n a b c=tr n (b-a) (c-b):=
 ring [n,a,b,c] [] (λV _=>dot (V 0) (aw (V 2-V 1) (V 3-V 1))) (λV _=>dot (V 0) (aw (V 2-V 1) (V 3-V 2))) d_
theorem aJr(a b c:V3 F):turn n a b c=tr n (b-a) (c-a):=rfl
theorem NG(x y:V3 F):tr n y x=-tr n x y:=
 ring [n,x,y] [] (λV _=>dot (V 0) (aw (V 2) (V 1))) (λV _=>-dot (V 0) (aw (V 1) (V 2))) d_
theorem Tt(x y:V3 F):tr n x (-y)=-tr n x y:=
 ring [n,x,y] [] (λV _=>dot (V 0) (aw (V 1) (-V 2))) (λV _=>-dot (V 0) (aw (V 1) (V 2))) d_
theorem aJs(x:V3 F):tr n x x=0:=ring [n,x] [] (λV _=>dot (V 0) (aw (V 1) (V 1))) (λ_ _=>0) d_
theorem Cy(a b:V3 F):b-a=-(a-b):=l8 [a,b] [] (λV _=>V 1-V 0) (λV _=>-(V 0-V 1)) d_
theorem aAs{x y z:V3 F}(hn:n≠0)(hx:dot n x=0)(hy:dot n y=0)(hz:dot n z=0):
  smul y (tr n x z)=smul z (tr n x y)+smul x (tr n y z):=by
 have hd:cV x y z=0:=by apply jM;intro h;exact hn (GW h (by rw[AH];exact hx) (by rw[AH];exact hy) (by rw[AH];exact hz))
 have e:smul y (tr n x z)=smul z (tr n x y)+smul x (tr n y z)-smul n (cV x y z):=
  l8 [n,x,y,z] [] (λV _=>smul (V 2) (dot (V 0) (aw (V 1) (V 3))))
   (λV _=>smul (V 3) (dot (V 0) (aw (V 1) (V 2)))+smul (V 1) (dot (V 0) (aw (V 2) (V 3)))-smul (V 0) (cV (V 1) (V 2) (V 3))) d_
 rw[e,hd,smul_zero];exact l8 [smul z (tr n x y),smul x (tr n y z)] [] (λV _=>V 0+V 1-0) (λV _=>V 0+V 1) d_
theorem Tu(H:iu F){x y z:V3 F}(hn:n≠0)(hx:dot n x=0)(hy:dot n y=0)(hz:dot n z=0)(fx:H.fw x)(fy:H.fw y)(fz:H.fw z)
  (h:0<tr n x y) (k:0<tr n y z):0<tr n x z:=by
 have e:=aAs n hn hx hy hz;have f:H.fw (smul y (tr n x z)):=by rw[e];exact H.add (H.mul fz h) (H.mul fx k)
 rcases OF.lt_trichotomy 0 (tr n x z)with g|g|g
 ·exact g
 ·rw[<-g,smul_zero]at f;exact absurd f iu.zero
 ·exact(H.asymm f (by rw[show -(smul y (tr n x z))=smul y (-(tr n x z))from l8 [y] [tr n x z] (λV S=>-(smul (V 0) (S 0))) (λV S=>smul (V 0) (-S 0)) d_];exact H.mul fy (neg_pos.2 g))).elim
theorem aJt{m x y z:V3 F}(hn:n≠0)(hx:dot n x=0)(hy:dot n y=0)(hz:dot n z=0)(fx:0<dot m x)(fy:0<dot m y)(fz:0<dot m z)
  (h:0<tr n x y) (k:0<tr n y z):0<tr n x z:=by
 have e:=b9 (dot m) (aAs n hn hx hy hz);rw[pH,kJ,kJ,kJ]at e;have p:0<dot m y*tr n x z:=by rw[e];exact add_pos (mul_pos fz h) (mul_pos fx k)
 rwa[<-CR.mul_zero (dot m y),mul_lt_mul_left fy]at p
variable{ι:Type}(pt:ι->V3 F)
structure Conv(S:List ι):Prop where
 qA:∀ a∈S,∀ b∈S,dot n (pt b-pt a)=0
 wO:∀ c∈S,∃ m:V3 F,∀ w∈S,w≠c->dot m (pt w)<dot m (pt c)
variable{n pt}
theorem Conv.sub{S T:List ι}(h:Conv n pt S)(hT:∀ x∈T,x∈S):Conv n pt T:=
 ⟨λa ha b hb=>h.qA a (hT a ha) b (hT b hb),λc hc=>(h.wO c (hT c hc)).imp λ_ hm w hw=>hm w (hT w hw)⟩
theorem Conv.aAt{S:List ι}(h:Conv n pt S)(hn:n≠0){a b c:ι}(ha:a∈S)(hb:b∈S)(hc:c∈S)(bX:a≠b)(NH:a≠c)(yy:b≠c):
  turn n (pt a) (pt b) (pt c)≠0:=by
 intro e;generalize hx:pt b-pt a=x at *;generalize hy:pt c-pt a=y at *;have px:dot n x=0:=hx▸h.qA a ha b hb;have py:dot n y=0:=hy▸h.qA a ha c hc;have e':dot n (aw x y)=0:=by rw[<-hx,<-hy];exact e
 have hz:aw x y=0:=by
  apply jM;intro aY;apply aAm hn aY e';have e2:aw n (aw x y)=smul x (dot n y)-smul y (dot n x):=
   l8 [n,x,y] [] (λV _=>aw (V 0) (aw (V 1) (V 2))) (λV _=>smul (V 1) (dot (V 0) (V 2))-smul (V 2) (dot (V 0) (V 1))) d_
  rw[e2,px,py,smul_zero,smul_zero,V3.sub_self]
 obtain⟨ma,fa⟩:=h.wO a ha;obtain⟨mb,fb⟩:=h.wO b hb;obtain⟨mc,fc⟩:=h.wO c hc;have hax:dot ma x<0:=by rw[<-hx,mP,<-neg_pos,OF.neg_sub];exact OF.sub_pos.2 (fa b hb (lQ bX))
 have hay:dot ma y<0:=by rw[<-hy,mP,<-neg_pos,OF.neg_sub];exact OF.sub_pos.2 (fa c hc (lQ NH))
 have Tv:0<dot mb x:=by rw[<-hx,mP];exact OF.sub_pos.2 (fb a ha bX)
 have aJu:dot mb y<dot mb x:=by have:=fb c hc (lQ yy);rw[<-hx,<-hy,mP,mP,OF.lt_def];rw[show dot mb (pt b)-dot mb (pt a)-(dot mb (pt c)-dot mb (pt a))=dot mb (pt b)-dot mb (pt c)from mL (dot mb (pt a)) (dot mb (pt b)) (dot mb (pt c)) (λa b c=>b-a-(c-a)) (λ_ b c=>b-c) d_];exact this
 have Tw:0<dot mc y:=by rw[<-hy,mP];exact OF.sub_pos.2 (fc a ha NH)
 have aJv:dot mc x<dot mc y:=by have:=fc b hb yy;rw[<-hx,<-hy,mP,mP,OF.lt_def];rw[show dot mc (pt c)-dot mc (pt a)-(dot mc (pt b)-dot mc (pt a))=dot mc (pt c)-dot mc (pt b)from mL (dot mc (pt a)) (dot mc (pt b)) (dot mc (pt c)) (λa b c=>c-a-(b-a)) (λ_ b c=>c-b) d_];exact this
 -- y is a aSF t of x
 have mR:x≠0:=by rintro rfl;rw[Cx]at Tv;exact OF.lt_irrefl _ Tv
 have key:∀ m:V3 F,dot m y*dot x x=dot m x*dot x y:=by
  intro m;have e2:dot m y*dot x x=dot m x*dot x y-dot m (aw x (aw x y)):=
   ring [m,x,y] [] (λV _=>dot (V 0) (V 2)*dot (V 1) (V 1)) (λV _=>dot (V 0) (V 1)*dot (V 1) (V 2)-dot (V 0) (aw (V 1) (aw (V 1) (V 2)))) d_
  rw[hz,show aw x (0:V3 F)=0 from l8 [x] [] (λV _=>aw (V 0) 0) (λ_ _=>0) d_,Cx,OF.sub_zero]at e2;exact e2
 have F9:=aAk mR;have kb:=key mb;have kc:=key mc;have ka:=key ma
 -- from b: t<1;from c: t>1 as t>0
 have t1:dot x y<dot x x:=by rw[<-mul_lt_mul_left Tv,<-kb,CR.mul_comm,CR.mul_comm (dot mb x),mul_lt_mul_left F9];exact aJu
 have aJw:0<dot x y:=by have h1:0 < -dot ma x:=neg_pos.2 hax;rw[<-mul_lt_mul_left h1,CR.mul_zero,CR.neg_mul,<-ka,<-CR.neg_mul];exact mul_pos (neg_pos.2 hay) F9
 have JK:0<dot mc x:=by
  have:0<dot x y*dot mc x:=by rw[CR.mul_comm,<-kc];exact mul_pos Tw F9
  rwa[<-CR.mul_zero (dot x y),mul_lt_mul_left aJw]at this
 have t2:dot x x<dot x y:=by rw[<-mul_lt_mul_left JK,<-kc,CR.mul_comm,CR.mul_comm (dot mc y),mul_lt_mul_left F9];exact aJv
 exact OF.lt_irrefl _ (OF.lt_trans t1 t2)
def oe(n:V3 F)(pt:ι->V3 F)(T:List ι)(a b:ι):Prop:=∀ c∈T,c≠a->c≠b->0<turn n (pt a) (pt b) (pt c)
variable(H:iu F)
def eF(n:V3 F)(pt:ι->V3 F)(H:iu F)(T:List ι):List ι->Prop
 |[]=>False
 |[a]=>a∈T/\∀ c∈T,c≠a->H.fw (pt c-pt a)
 |b::a::st=>b∈T/\H.fw (pt b-pt a)/\oe n pt T a b/\eF n pt H T (a::st)
def pop(n:V3 F)(pt:ι->V3 F)(p:ι):List ι->List ι
 |b::a::st=>if 0<turn n (pt a) (pt b) (pt p)then b::a::st else pop n pt p (a::st)
 |st=>st
def half(n:V3 F)(pt:ι->V3 F)(l:List ι):List ι:=l.foldl (λst p=>p::pop n pt p st) []
variable{H}
theorem eF.mem{T:List ι}:∀{st:List ι},eF n pt H T st->∀ x∈st,x∈T
 |[a],h,x,hx=>by rcases ch.1 hx with rfl|hx;exact h.1;cases hx
 |b::a::st,h,x,hx=>by
  rcases ch.1 hx with rfl|hx
  ·exact h.1
  ·exact eF.mem h.2.2.2 x hx
theorem eF.below{T:List ι}:∀{b:ι} {st:List ι},eF n pt H T (b::st)->∀ x∈st,H.fw (pt b-pt x)
 |b,a::st,h,x,hx=>by
  rcases ch.1 hx with rfl|hx
  ·exact h.2.1
  ·exact iu.aAq (eF.below h.2.2.2 x hx) h.2.1
 |b,[],_,x,hx=>by cases hx
theorem eF.least{T:List ι}:∀{st:List ι},eF n pt H T st->∃ a,st.getLast?=some a/\a∈T/\∀ c∈T,c≠a->H.fw (pt c-pt a)
 |[a],h=>⟨a,rfl,h.1,h.2⟩
 |b::a::st,h=>by obtain⟨x,hx,hm,aU⟩:=eF.least h.2.2.2;exact⟨x,by rw[NI];exact hx,hm,aU⟩
theorem eF.grow{T:List ι}{p w:ι}(hn:n≠0)(hc:Conv n pt (p::T))(hp:∀ c∈T,H.fw (pt p-pt c))(hw:w∈T)
  (hpw:∀ c∈T,c≠w->0<turn n (pt w) (pt p) (pt c)):∀{st:List ι},eF n pt H T st->(∀ x∈st,H.fw (pt w-pt x))->eF n pt H (p::T) st
 |[a],h,_=>⟨bB _ h.1,λc hc ha=>by
   rcases ch.1 hc with rfl|hc
   ·exact hp a h.1
   ·exact h.2 c hc ha⟩
 |v::u::st,h,bH=>by
  refine⟨bB _ h.1,h.2.1,?_,eF.grow hn hc hp hw hpw h.2.2.2 λx hx=>bH x (bB _ hx)⟩;intro c dC PZ jH;rcases ch.1 dC with rfl|dC
  ·have hv:v∈T:=h.1;have hu:u∈T:=eF.mem h.2.2.2 u (aN ..);have fwv:H.fw (pt w-pt v):=bH v (aN ..);have wv:w≠v:=by rintro rfl;exact iu.ne fwv rfl
   have wu:w≠u:=by rintro rfl;exact iu.ne (bH w (bB _ (aN ..))) rfl
   have h1:=h.2.2.1 w hw wu wv;have h2:=hpw v hv (lQ wv);rw[<-Tr]at h2;rw[Ts]at h1 ⊢;have oC:=bB c hv;exact Tu n H hn (hc.qA u (bB _ hu) v oC) (hc.qA v oC w (bB _ hw)) (hc.qA v oC c (aN ..)) h.2.1 fwv (hp v hv) h1 h2
  ·exact h.2.2.1 c dC PZ jH
theorem eF.pop{T:List ι}{p:ι}(hn:n≠0)(hc:Conv n pt (p::T))(hp:∀ c∈T,H.fw (pt p-pt c))
  (aJx:∀ a∈T,∀ c∈T,c≠a->H.fw (pt c-pt a)\/H.fw (pt a-pt c)) :
  ∀{b:ι} {st:List ι},eF n pt H T (b::st)->
   ((∀ c∈T,c≠b->H.fw (pt b-pt c))\/∃ e∈T,e≠b/\H.fw (pt e-pt b)/\oe n pt T b e/\turn n (pt b) (pt e) (pt p)<=0)->
   eF n pt H (p::T) (p::Go.Proofs.YthccllenbnhogaaGreatDoor.pop n pt p (b::st)):=by
 have pp:p∈p::T:=aN ..;have mm:∀{x},x∈T->x∈p::T:=λh=>bB _ h;have pne:∀ c∈T,p≠c:=λc hc e=>iu.ne (hp c hc) (by rw[e])
 -- points in front of b
 have front:∀{b c:ι},b∈T->c∈T->c≠b->H.fw (pt c-pt b)->
   ((∀ c∈T,c≠b->H.fw (pt b-pt c))\/∃ e∈T,e≠b/\H.fw (pt e-pt b)/\oe n pt T b e/\turn n (pt b) (pt e) (pt p)<=0)->0<turn n (pt b) (pt p) (pt c):=by
  intro b c hb dC mf hf kD;rcases kD with AL|⟨e,he,heb,NJ,hl,ht⟩
  ·exact(iu.GX hf (AL c dC mf)).elim
  ·have DF:0<turn n (pt b) (pt p) (pt e):=by
    rw[aAr,neg_pos];rcases OF.oM ht with h|h
    ·exact h
    ·exact absurd h (hc.aAt hn (mm hb) (mm he) pp (lQ heb) (lQ (pne b hb)) (lQ (pne e he)))
   by_cases hce:c=e
   ·rw[hce];exact DF
   ·have h3:=hl c dC mf hce;exact Tu n H hn (hc.qA b (mm hb) p pp) (hc.qA b (mm hb) e (mm he)) (hc.qA b (mm hb) c (mm dC)) (hp b hb) NJ hf DF h3
 intro b st;induction st generalizing b with
 |nil=>
  intro h kD;refine⟨pp,hp b h.1,?_,mm h.1,λc dC mf=>?_⟩
  ·intro c dC mf Ez;have tU:c∈T:=(ch.1 dC).resolve_left Ez;exact front h.1 tU mf (h.2 c tU mf) kD
  ·rcases ch.1 dC with rfl|tU
   ·exact hp b h.1
   ·exact h.2 c tU mf
 |cons a st ih=>
  intro h kD;have ha:a∈T:=eF.mem h.2.2.2 a (aN ..);have hb:b∈T:=h.1;unfold Go.Proofs.YthccllenbnhogaaGreatDoor.pop;split
  ·rename_i NK;have aU:∀ c∈T,c≠b->0<turn n (pt b) (pt p) (pt c):=by
    intro c tU mf;rcases aJx b hb c tU mf with hf|hf
    ·exact front hb tU mf hf kD
    ·-- c aJy behind b
     have h1:0<tr n (pt b-pt a) (pt p-pt b):=by rw[<-Ts];exact NK
     rw[aJr];by_cases k7:c=a
     ·rw[k7,Cy (pt b) (pt a),Tt,neg_pos,NG,Jd];exact h1
     ·have h2:=h.2.2.1 c tU k7 mf;rw[Ts]at h2;rw[Cy (pt b) (pt c),Tt,neg_pos,NG,Jd];refine Tu n H hn (hc.qA c (mm tU) b (mm hb)) (hc.qA a (mm ha) b (mm hb)) (hc.qA b (mm hb) p pp) hf h.2.1 (hp b hb) ?_ h1;rw[Cy (pt b) (pt c),Tt,neg_pos,NG,Jd]at h2;exact h2
   refine⟨pp,hp b hb,?_,mm hb,h.2.1,?_,?_⟩
   ·intro c dC mf Ez;exact aU c ((ch.1 dC).resolve_left Ez) mf
   ·intro c dC k7 mf;rcases ch.1 dC with rfl|tU
    ·exact NK
    ·exact h.2.2.1 c tU k7 mf
   ·exact eF.grow hn hc hp hb aU h.2.2.2 (eF.below h)
  ·rename_i NK;exact ih h.2.2.2 (.inr ⟨b,hb,λe=>iu.ne h.2.1 (by rw[e]),h.2.1,h.2.2.1,OF.not_lt.1 NK⟩)
end
section
variable{F:Type}[OF F]{n:V3 F}{ι:Type}{pt:ι->V3 F}{H:iu F}
def wP(pt:ι->V3 F)(H:iu F)(l:List ι):Prop:=l.Pairwise λa b=>H.fw (pt b-pt a)
theorem aAu(p:ι):∀(b:ι) (st:List ι),∃ x eT,pop n pt p (b::st)=x::eT
 |b,[]=>⟨b,[],rfl⟩
 |b,a::st=>by
  unfold pop;split
  ·exact⟨_,_,rfl⟩
  ·exact aAu p a st
theorem wP.total{l:List ι}(h:wP pt H l):∀ a∈l,∀ c∈l,c≠a->H.fw (pt c-pt a)\/H.fw (pt a-pt c):=by
 induction l with
 |nil=>intro a ha;cases ha
 |cons x l ih=>
  have h1:=rJ.1 h;intro a ha c hc k7;rcases ch.1 ha with e|fO
  ·rcases ch.1 hc with e2|c7
   ·exact absurd (e2.trans e.symm) k7
   ·exact .inl (e▸h1.1 c c7)
  ·rcases ch.1 hc with e2|c7
   ·exact .inr (e2▸h1.1 a fO)
   ·exact ih h1.2 a fO c c7 k7
theorem eF.congr{T T':List ι}(h:∀ x,x∈T↔x∈T'):∀{st:List ι},eF n pt H T st->eF n pt H T' st
 |[a],hc=>⟨(h a).1 hc.1,λc hm=>hc.2 c ((h c).2 hm)⟩
 |b::a::st,hc=>⟨(h b).1 hc.1,hc.2.1,λc hm=>hc.2.2.1 c ((h c).2 hm),eF.congr h hc.2.2.2⟩
theorem aAv(hn:n≠0):∀(l T:List ι) (b:ι) (st:List ι),Conv n pt (T++l)->wP pt H (T++l)->b∈T->(∀ c∈T,c≠b->H.fw (pt b-pt c))->
  eF n pt H T (b::st)->∃ x eT,l.foldl (λst p=>p::pop n pt p st) (b::st)=x::eT/\eF n pt H (T++l) (x::eT)/\(∀ c∈T++l,c≠x->H.fw (pt x-pt c))/\(l.getLast?).getD b=x
 |[],T,b,st,_,_,hb,AL,h=>⟨b,st,rfl,by rw[gO];exact h,by rw[gO];exact AL,rfl⟩
 |p::l,T,b,st,hc,hs,hb,AL,h=>by
  have oE:=List.pairwise_append.1 hs;have hp:∀ c∈T,H.fw (pt p-pt c):=λc tU=>oE.2.2 c tU p (aN ..);have mem:∀ x,x∈p::T↔x∈T++[p]:=λx=>by simp[or_comm]
  have h1:=eF.pop hn (hc.sub (T:=p::T) λx hx=>by
   rcases ch.1 hx with rfl|hx
   ·exact fm.2 (.inr (aN ..))
   ·exact fm.2 (.inl hx)) hp (wP.total oE.1) h (.inl AL)
  obtain⟨x,eT,hx⟩:=aAu (n:=n) (pt:=pt) p b st;rw[hx]at h1;have e:T++[p]++l=T++p::l:=by simp
  obtain⟨y,st2,hf,wQ,Tx,hl⟩:=aAv hn l (T++[p]) p (x::eT) (by rw[e];exact hc) (by rw[e];exact hs) s_
   (λc dC Ez=>by
    rcases fm.1 dC with dC|dC
    ·exact hp c dC
    ·exact absurd (wR.1 dC) Ez) (eF.congr mem h1)
  refine⟨y,st2,?_,by rw[<-e];exact wQ,by rw[<-e];exact Tx,?_⟩
  ·rw[uH,hx];exact hf
  ·rw[<-hl];cases l with
   |nil=>rfl
   |cons z l=>rw[NI,List.getLast?_eq_some_getLast (l:=z::l) s_];rfl
theorem aAw(hn:n≠0){l:List ι}{a:ι}(hc:Conv n pt (a::l))(hs:wP pt H (a::l)):
  ∃ x st,half n pt (a::l)=x::st/\eF n pt H (a::l) (x::st)/\(∀ c∈a::l,c≠x->H.fw (pt x-pt c))/\(l.getLast?).getD a=x:=by
 have oE:=rJ.1 hs
 exact aAv hn l [a] a [] (by exact hc) (by exact hs) (aN ..)
  (λc dC k7=>absurd (wR.1 dC) k7) ⟨aN ..,λc dC k7=>absurd (wR.1 dC) k7⟩
def pJ(R:ι->ι->Prop):List ι->Prop
 |[]=>True
 |[_]=>True
 |a::b::l=>R a b/\pJ R (b::l)
theorem Ty{R:ι->ι->Prop}:∀{l:List ι} {a:ι} {m:List ι},pJ R (l++[a])->pJ R (a::m)->pJ R (l++a::m)
 |[],a,m,_,h=>h
 |[x],a,m,h1,h=>⟨h1.1,h⟩
 |x::y::l,a,m,h1,h=>⟨h1.1,Ty (l:=y::l) h1.2 h⟩
theorem aAx{R:ι->ι->Prop}:∀{l:List ι} {a b:ι},pJ R (l++[a])->R a b->pJ R (l++[a,b])
 |[],a,b,_,h=>⟨h,trivial⟩
 |[x],a,b,h1,h=>⟨h1.1,h,trivial⟩
 |x::y::l,a,b,h1,h=>⟨h1.1,aAx (l:=y::l) h1.2 h⟩
theorem eF.steps{T:List ι}:∀{st:List ι},eF n pt H T st->pJ (λa b=>oe n pt T a b/\H.fw (pt b-pt a)) st.reverse
 |[a],_=>trivial
 |b::a::st,h=>by have ih:=eF.steps h.2.2.2;rw[uW]at ih ⊢;rw[uW,Bx];exact aAx ih ⟨h.2.2.1,h.2.1⟩
theorem pJ.imp{R R':ι->ι->Prop}(h:∀ a b,R a b->R' a b):∀{l:List ι},pJ R l->pJ R' l
 |[],_=>trivial
 |[_],_=>trivial
 |_::b::l,hs=>⟨h _ _ hs.1,pJ.imp h (l:=b::l) hs.2⟩
def order(n:V3 F)(pt:ι->V3 F)(l:List ι):List ι:=(half n pt l).tail.reverse++(half n pt l.reverse).tail.reverse
theorem aJz(hn:n≠0){S:List ι}(hc:Conv n pt S){c:ι}(JL:c∈S):∀{l:List ι} {a b:ι},(∀ x∈a::l,x∈S)->c∉a::l->
  pJ (λa b=>oe n pt S a b) (a::l)->(a::l).getLast?=some b->a=b\/0<tr n (pt a-pt c) (pt b-pt c):=by
 obtain⟨m,hm⟩:=hc.wO c JL;intro l;induction l with
 |nil=>intro a b _ _ _ h;left;simpa using h
 |cons x l ih=>
  intro a b hS Ay bH uL;right;have JK:c∉x::l:=λh=>Ay (bB _ h);have k7:c≠a:=λh=>Ay (h▸aN ..);have aAy:c≠x:=λh=>JK (h▸aN ..);have h1:0<tr n (pt a-pt c) (pt x-pt c):=by have:=bH.1 c JL k7 aAy;rw[<-Tr]at this;exact this
  have aAz:(x::l).getLast?=some b:=by rw[NI]at uL;exact uL
  have hb:b∈x::l:=List.mem_of_getLast? aAz;have aS:=hS a (aN ..);have xS:=hS x (bB _ (aN ..));have bS:=hS b (bB _ hb);have neg:∀ y∈S,c≠y->0<dot (-m) (pt y-pt c):=by intro y hy Tw;rw[JF,mP,OF.neg_sub];exact OF.sub_pos.2 (hm y hy (lQ Tw))
  rcases ih (λy hy=>hS y (bB _ hy)) JK bH.2 aAz with rfl|h2
  ·exact h1
  ·exact aJt n hn (hc.qA c JL a aS) (hc.qA c JL x xS) (hc.qA c JL b bS) (neg a aS k7) (neg x xS aAy) (neg b bS (λh=>JK (h▸hb))) h1 h2
theorem aJA(l:List ι)(a:ι):(l++[a]).getLast?=some a:=by simp
theorem aAA{S:List ι}(hS:∀ a∈S,∀ b∈S,pt a=pt b->a=b){a b c:ι}(hb:b∈S)(hc:c∈S)(bX:b≠a)(NH:c≠a)(h1:oe n pt S a b)(h2:oe n pt S a c):b=c:=by apply jM;intro yy;have k1:=h1 c hc NH (lQ yy);have k2:=h2 b hb bX yy;rw[aAr]at k2;exact OF.lt_irrefl _ (OF.lt_trans k1 (neg_pos.1 k2))
theorem Tz{T:List ι}:∀{st:List ι},eF n pt H T st->st.Pairwise λa b=>H.fw (pt a-pt b)
 |[_],_=>aAB ..
 |b::a::st,h=>rJ.2 ⟨eF.below h,Tz h.2.2.2⟩
theorem aJB(hn:n≠0){l:List ι}{a b:ι}(hc:Conv n pt (a::b::l))(hs:wP pt H (a::b::l)):
  ∃ m,order n pt (a::b::l)=a::m/\(a::m).Nodup/\(∀ x,x∈a::m↔x∈a::b::l)/\pJ (λx y=>oe n pt (a::b::l) x y) (a::m++[a]):=by
 generalize hS:a::b::l=S at *
 -- the way there
 obtain⟨z,st,hh,wQ,AL,hz⟩:=aAw (H:=H) hn (l:=b::l) (a:=a) (hS▸hc) (hS▸hs);rw[hS]at hh wQ AL
 -- the list from its end on,and the opposite half
 have aJC:∃ w t,S.reverse=w::t:=by
  cases h:S.reverse with
  |nil=>rw[aAC]at h;rw[<-hS]at h;cases h
  |cons w t=>exact⟨w,t,rfl⟩
 obtain⟨w,t,NL⟩:=aJC;have yz:∀ x,x∈w::t↔x∈S:=λx=>by rw[<-NL];exact JM
 have Qk:wP pt H.opp (w::t):=by rw[<-NL];unfold wP at *;rw[aAD];refine hs.imp ?_;intro x y h;show H.fw (-(pt x-pt y));rw[<-Cy];exact h
 have hcr:Conv n pt (w::t):=hc.sub λx hx=>(yz x).1 hx;obtain⟨z',eT,AM,Cz,aJD,lj⟩:=aAw (H:=H.opp) hn hcr Qk;have aS:a∈S:=by rw[<-hS];exact aN ..
 have bS:b∈S:=by rw[<-hS];exact bB _ (aN ..)
 have TA:∀ c∈S,c≠a->H.fw (pt c-pt a):=by intro c dC k7;rw[<-hS]at dC hs;exact(rJ.1 hs).1 c ((ch.1 dC).resolve_left k7)
 -- the ends of both aJE
 have hza:z'=a:=by
  apply jM;intro aY;have h1:=aJD a ((yz a).2 aS) (lQ aY);have h2:=TA z' ((yz z').1 (eF.mem Cz z' (aN ..))) aY;have nK:H.fw (pt a-pt z'):=by rw[Cy (pt z') (pt a)];exact h1
  exact iu.GX h2 nK
 subst hza;obtain⟨a1,dT,aJF,aJG⟩:=eF.least wQ;have hra:a1=z':=by apply jM;intro aY;exact iu.GX (TA a1 aJF aY) (aJG z' aS (lQ aY))
 rw[hra]at dT;obtain⟨w1,EA,aJH,aJI⟩:=eF.least Cz;have zS:z∈S:=eF.mem wQ z (aN ..);have hwz:w1=z:=by
  apply jM;intro aY;have h1:=AL w1 ((yz w1).1 aJH) aY;have h2:=aJI z ((yz z).2 zS) (lQ aY);have yn:H.fw (pt w1-pt z):=by rw[Cy (pt z) (pt w1)];exact h2
  exact iu.GX h1 yn
 rw[hwz]at EA;have haz:z'≠z:=by
  rintro rfl
  rcases Classical.em (b=z')with rfl|EB
  ·rw[<-hS]at hs;exact iu.ne ((rJ.1 hs).1 b (aN ..)) rfl
  ·exact iu.GX (TA b bS EB) (AL b bS EB)
 -- the pieces
 have aJJ:∃ u,st.reverse=z'::u:=by
  cases st with
  |nil=>simp at dT;exact absurd dT.symm haz
  |cons x st=>
   rw[NI]at dT;cases h:(x::st).reverse with
   |nil=>rw[aAC]at h;cases h
   |cons q u=>
    have:(x::st)=(q::u).reverse:=by rw[<-h,List.reverse_reverse]
    rw[this,uW,List.getLast?_append,List.getLast?_singleton]at dT;simp at dT;exact⟨u,by rw[dT]⟩
 have aJK:∃ u,eT.reverse=z::u:=by
  cases eT with
  |nil=>simp at EA;exact absurd EA haz
  |cons x eT=>
   rw[NI]at EA;cases h:(x::eT).reverse with
   |nil=>rw[aAC]at h;cases h
   |cons q u=>
    have:(x::eT)=(q::u).reverse:=by rw[<-h,List.reverse_reverse]
    rw[this,uW,List.getLast?_append,List.getLast?_singleton]at EA;simp at EA;exact⟨u,by rw[EA]⟩
 obtain⟨u,hu⟩:=aJJ;obtain⟨u',oB⟩:=aJK;have aJL:order n pt S=z'::(u++z::u'):=by unfold order;rw[hh,NL,AM];simp only[List.tail_cons];rw[hu,oB];rfl
 refine⟨u++z::u',aJL,?_,?_,?_⟩
 case refine_3=>
  have s1:=(eF.steps wQ).imp (R':=λx y=>oe n pt S x y) λx y h=>h.1;have s2:=(eF.steps Cz).imp (R':=λx y=>oe n pt S x y) λx y h c dC=>h.1 c ((yz c).2 dC);rw[uW,hu]at s1;rw[uW,oB]at s2;have:=Ty (l:=z'::u) (a:=z) (m:=u'++[z']) s1 s2;simpa using this
 case refine_2=>
  have sub:∀ x,x∈z'::(u++z::u')->x∈S:=by
   intro x hx;have:x∈z'::u\/x∈z::u':=by
    rcases ch.1 hx with h|h
    ·exact .inl (h▸aN ..)
    ·rcases fm.1 h with h|h
     ·exact .inl (bB _ h)
     ·exact .inr h
   rcases this with h|h
   ·rw[<-hu,JM]at h;exact eF.mem wQ x (bB _ h)
   ·rw[<-oB,JM]at h;exact(yz x).1 (eF.mem Cz x (bB _ h))
  intro x;refine⟨sub x,λhx=>?_⟩;apply jM;intro fP;have s1:=(eF.steps wQ).imp (R':=λx y=>oe n pt S x y) λx y h=>h.1;have s2:=(eF.steps Cz).imp (R':=λx y=>oe n pt S x y) λx y h c dC=>h.1 c ((yz c).2 dC);rw[uW,hu]at s1;rw[uW,oB]at s2;have s3:=Ty (l:=z'::u) (a:=z) (m:=u'++[z']) s1 s2;have mR:z'≠x:=λh=>fP (h▸aN ..)
  -- the first step,then the rest back to its start
  have aJM:∃ y v,u++z::(u'++[z'])=y::v:=by
   cases u with
   |nil=>exact⟨z,_,rfl⟩
   |cons y u=>exact⟨y,_,rfl⟩
  obtain⟨y,v,H2⟩:=aJM;have s3':pJ (λx y=>oe n pt S x y) (z'::y::v):=by rw[<-H2];exact s3
  have aU:∀ q∈y::v,q=z'\/q∈z'::(u++z::u'):=by
   intro q hq;rw[<-H2]at hq;have:q∈u++z::u'\/q=z':=by simpa[or_assoc]using hq
   rcases this with h|h
   ·exact .inr (bB _ h)
   ·exact .inl h
  have iq:x∉y::v:=λh=>by
   rcases aU x h with h|h
   ·exact mR h.symm
   ·exact fP h
  have hyS:∀ q∈y::v,q∈S:=λq hq=>by
   rcases aU q hq with h|h
   ·rw[h];exact aS
   ·exact sub q h
  have uL:(y::v).getLast?=some z':=by rw[<-H2,show u++z::(u'++[z'])=(u++z::u')++[z']by simp];exact aJA _ _
  have hyx:x≠y:=λh=>iq (h▸aN ..);have h1:0<tr n (pt z'-pt x) (pt y-pt x):=by have:=s3'.1 x hx (lQ mR) hyx;rw[<-Tr]at this;exact this
  rcases aJz hn hc hx hyS iq s3'.2 uL with h2|h2
  ·rw[h2,aJs]at h1;exact OF.lt_irrefl _ h1
  ·rw[NG]at h2;exact OF.lt_irrefl _ (OF.lt_trans h1 (neg_pos.1 h2))
 case refine_1=>
  have d1:=Tz wQ;have d2:=Tz Cz;have e1:(z'::u).Pairwise λa b=>H.fw (pt b-pt a):=by rw[<-hu,aAD];exact(rJ.1 d1).2
  have e2:(z::u').Pairwise λa b=>H.fw (pt a-pt b):=by rw[<-oB,aAD];refine(rJ.1 d2).2.imp ?_;intro x y h;rw[Cy (pt x) (pt y)];exact h
  have inj:∀ x∈S,∀ y∈S,pt x=pt y->x=y:=by
   intro x hx y hy jX;apply jM;intro aY;rcases wP.total hs y hy x hx aY with h|h
   ·exact iu.ne h jX.symm
   ·exact iu.ne h jX
  have n1:(z'::u).Nodup:=e1.imp λh=>λe=>iu.ne h (by rw[e]);have n2:(z::u').Nodup:=e2.imp λh=>λe=>iu.ne h (by rw[e]);rw[show z'::(u++z::u')=(z'::u)++(z::u')from rfl,List.nodup_append];refine⟨n1,n2,?_⟩;intro x hx y hy jX;subst jX
  -- x aJy on both aJE: its aSG differ
  have aJN:∀{l:List ι} {e x:ι},pJ (λa b=>oe n pt S a b/\H.fw (pt b-pt a)) (l++[e])->x∈l->∃ y∈l++[e],oe n pt S x y/\H.fw (pt y-pt x):=by
   intro l;induction l with
   |nil=>intro e x _ h;cases h
   |cons p l ih=>
    intro e x bH hx;cases l with
    |nil=>
     rcases ch.1 hx with rfl|h
     ·exact⟨e,by simp,bH.1⟩
     ·cases h
    |cons q l=>
     rcases ch.1 hx with rfl|h
     ·exact⟨q,by simp,bH.1⟩
     ·obtain⟨y,hy,h2⟩:=ih (e:=e) bH.2 h;exact⟨y,bB _ hy,h2⟩
  have s1:=eF.steps wQ;rw[uW,hu]at s1;obtain⟨y1,hy1,uz,gN⟩:=aJN s1 hx;have y1S:y1∈S:=by rw[<-hu,<-uW,JM]at hy1;exact eF.mem wQ y1 hy1
  have s2:=(eF.steps Cz).imp (R':=λx y=>oe n pt S x y/\H.fw (pt x-pt y)) λx y h=>⟨λc dC=>h.1 c ((yz c).2 dC),by have:H.fw (-(pt y-pt x)):=h.2;rwa[<-Cy]at this⟩
  rw[uW,oB]at s2;have aJO:∀{l:List ι} {e x:ι},pJ (λa b=>oe n pt S a b/\H.fw (pt a-pt b)) (l++[e])->x∈l->∃ y∈l++[e],oe n pt S x y/\H.fw (pt x-pt y):=by
   intro l;induction l with
   |nil=>intro e x _ h;cases h
   |cons p l ih=>
    intro e x bH hx;cases l with
    |nil=>
     rcases ch.1 hx with rfl|h
     ·exact⟨e,by simp,bH.1⟩
     ·cases h
    |cons q l=>
     rcases ch.1 hx with rfl|h
     ·exact⟨q,by simp,bH.1⟩
     ·obtain⟨y,hy,h2⟩:=ih (e:=e) bH.2 h;exact⟨y,bB _ hy,h2⟩
  obtain⟨y2,tV,kO,iU⟩:=aJO s2 hy;have y2S:y2∈S:=by rw[<-oB,<-uW,JM]at tV;exact(yz y2).1 (eF.mem Cz y2 tV)
  have:=aAA inj y1S y2S (λe=>iu.ne gN (by rw[e])) (λe=>iu.ne iU (by rw[e])) uz kO;subst this;exact iu.GX gN iU
end
section
variable{F:Type}[OF F]
def yA(v:V3 F):Prop:=0<v.x\/(v.x=0/\(0<v.y\/(v.y=0/\0<v.z)))
theorem aJP(v:V3 F)(k:F):(smul v k).x=v.x*k:=rfl
theorem aJQ(v:V3 F)(k:F):(smul v k).y=v.y*k:=rfl
theorem aJR(v:V3 F)(k:F):(smul v k).z=v.z*k:=rfl
theorem aJS(u v:V3 F):(u+v).x=u.x+v.x:=rfl
theorem aJT(u v:V3 F):(u+v).y=u.y+v.y:=rfl
theorem aJU(u v:V3 F):(u+v).z=u.z+v.z:=rfl
theorem aJV(u:V3 F):(-u).x=-u.x:=rfl
theorem aJW(u:V3 F):(-u).y=-u.y:=rfl
theorem aJX(u:V3 F):(-u).z=-u.z:=rfl
def aAE:iu F where
 fw:=yA
 add {x y} hx hy:=by
  unfold yA at *;rw[aJS,aJT,aJU];rcases hx with hx|⟨hx,gB|⟨gB,JN⟩⟩<;>rcases hy with hy|⟨hy,tV|⟨tV,TB⟩⟩
  ·exact .inl (add_pos hx hy)
  ·exact .inl (by rw[hy,CR.add_zero];exact hx)
  ·exact .inl (by rw[hy,CR.add_zero];exact hx)
  ·exact .inl (by rw[hx,CR.zero_add];exact hy)
  ·exact .inr ⟨by rw[hx,hy,CR.add_zero],.inl (add_pos gB tV)⟩
  ·exact .inr ⟨by rw[hx,hy,CR.add_zero],.inl (by rw[tV,CR.add_zero];exact gB)⟩
  ·exact .inl (by rw[hx,CR.zero_add];exact hy)
  ·exact .inr ⟨by rw[hx,hy,CR.add_zero],.inl (by rw[gB,CR.zero_add];exact tV)⟩
  ·exact .inr ⟨by rw[hx,hy,CR.add_zero],.inr ⟨by rw[gB,tV,CR.add_zero],add_pos JN TB⟩⟩
 mul {x k} hx hk:=by
  unfold yA at *;rw[aJP,aJQ,aJR];rcases hx with hx|⟨hx,gB|⟨gB,JN⟩⟩
  ·exact .inl (mul_pos hx hk)
  ·exact .inr ⟨by rw[hx,CR.zero_mul],.inl (mul_pos gB hk)⟩
  ·exact .inr ⟨by rw[hx,CR.zero_mul],.inr ⟨by rw[gB,CR.zero_mul],mul_pos JN hk⟩⟩
 asymm {x} hx hy:=by
  unfold yA at *;rw[aJV,aJW,aJX]at hy;have no:∀ a:F,0<a->0 < -a->False:=λa h k=>OF.lt_irrefl _ (OF.lt_trans h (neg_pos.1 k));have nz:∀ a:F,0<a->-a=0->False:=λa h k=>by rw[<-CR.neg_neg a,k,CR.neg_zero]at h;exact OF.lt_irrefl _ h
  have TC:∀ a:F,a=0->0 < -a->False:=λa h k=>by rw[h,CR.neg_zero]at k;exact OF.lt_irrefl _ k
  rcases hx with hx|⟨hx,gB|⟨gB,JN⟩⟩<;>rcases hy with hy|⟨hy,tV|⟨tV,TB⟩⟩
  ·exact no _ hx hy
  ·exact nz _ hx hy
  ·exact nz _ hx hy
  ·exact TC _ hx hy
  ·exact no _ gB tV
  ·exact nz _ gB tV
  ·exact TC _ hx hy
  ·exact TC _ gB tV
  ·exact no _ JN TB
theorem aJY{a b:V3 F}(h:a≠b):yA (b-a)\/yA (a-b):=by
 unfold yA;show(0<b.x-a.x\/(b.x-a.x=0/\(0<b.y-a.y\/(b.y-a.y=0/\0<b.z-a.z))))\/(0<a.x-b.x\/(a.x-b.x=0/\(0<a.y-b.y\/(a.y-b.y=0/\0<a.z-b.z))));simp only[OF.sub_pos,OF.sub_eq_zero];rcases OF.lt_trichotomy a.x b.x with hx|hx|hx
 ·exact .inl (.inl hx)
 ·rcases OF.lt_trichotomy a.y b.y with hy|hy|hy
  ·exact .inl (.inr ⟨hx.symm,.inl hy⟩)
  ·rcases OF.lt_trichotomy a.z b.z with hz|hz|hz
   ·exact .inl (.inr ⟨hx.symm,.inr ⟨hy.symm,hz⟩⟩)
   ·exact absurd (V3.ext hx hy hz) h
   ·exact .inr (.inr ⟨hx,.inr ⟨hy,hz⟩⟩)
  ·exact .inr (.inr ⟨hx,.inl hy⟩)
 ·exact .inr (.inl hx)
theorem pI.wO{ps:List (HS F)}{c:V3 F}(h:pI ps c):∃ m:V3 F,∀ w,mQ ps w->w≠c->dot m w<dot m c:=by
 obtain⟨_,p,hp,q,hq,r,hr,hd,tp,tq,tr⟩:=h;refine⟨p.n+q.n+r.n,λw hw aY=>?_⟩;rw[Nz,Nz,Nz,Nz,show dot p.n c=p.d from tp,show dot q.n c=q.d from tq,show dot r.n c=r.d from tr];rcases OF.oM (hw p hp)with h1|h1
 ·exact add_lt_add_of_lt_of_le (add_lt_add_of_lt_of_le h1 (hw q hq)) (hw r hr)
 ·rcases OF.oM (hw q hq)with h2|h2
  ·exact add_lt_add_of_lt_of_le (add_lt_add_of_le_of_lt (hw p hp) h2) (hw r hr)
  ·rcases OF.oM (hw r hr)with h3|h3
   ·exact add_lt_add_of_le_of_lt (OF.add_le_add (hw p hp) (hw q hq)) h3
   ·refine absurd (V3.sub_eq_zero.1 (GW hd ?_ ?_ ?_)) aY
    ·rw[mP,h1,show dot p.n c=p.d from tp,OF.sub_self]
    ·rw[mP,h2,show dot q.n c=q.d from tq,OF.sub_self]
    ·rw[mP,h3,show dot r.n c=r.d from tr,OF.sub_self]
theorem aJZ{ps:List (HS F)}{p:HS F}{ι:Type}{pt:ι->V3 F}{S:List ι}(hS:∀ i∈S,pI ps (pt i)/\fE p (pt i))
  (TD:∀ i∈S,∀ j∈S,pt i=pt j->i=j):Conv p.n pt S where
 qA a ha b hb:=by rw[mP,show dot p.n (pt a)=p.d from(hS a ha).2,show dot p.n (pt b)=p.d from(hS b hb).2,OF.sub_self]
 wO c hc:=by obtain⟨m,hm⟩:=(hS c hc).1.wO;exact⟨m,λw hw aY=>hm _ (hS w hw).1.1 λe=>aY (TD w hw c hc e)⟩
structure eG(F:Type) where
 lo:Option F
 hi:Option F
def AN(s:eG F)(a b:F):Option (eG F):=
 if aA a=0 then(if 0<=b then some s else none)
 else
  let t:=b*a⁻¹
  let s':eG F:=
   if 0<a then(match s.hi with|some h=>if t<h then⟨s.lo,some t⟩else s|none=>⟨s.lo,some t⟩)
   else(match s.lo with|some l=>if l<t then⟨some t,s.hi⟩else s|none=>⟨some t,s.hi⟩)
  match s'.lo,s'.hi with
  |some l,some h=>if l<h then some s' else none
  |_,_=>some s'
def eG.Sat(s:eG F)(t:F):Prop:=(∀ l,s.lo=some l->l<=t)/\(∀ h,s.hi=some h->t<=h)
def eG.Open(s:eG F):Prop:=∀ l h,s.lo=some l->s.hi=some h->l<h
theorem aJ0(s:eG F)(a b:F):
  (∀ s',AN s a b=some s'->(s.Open->s'.Open)/\(∀ t,s'.Sat t↔s.Sat t/\a*t<=b)/\(∀ l,s'.lo=some l->s.lo=some l\/(a<0/\a*l=b))/\(∀ h,s'.hi=some h->s.hi=some h\/(0<a/\a*h=b)))/\
  (AN s a b=none->∀ t1 t2,s.Sat t1->a*t1<=b->s.Sat t2->a*t2<=b->t1<t2->False):=by
 unfold AN;by_cases ha:aA a=0
 ·rw[aq ha];have il:=(eZ a).1 ha;by_cases hb:0<=b
  ·rw[aq hb];refine⟨λs' h=>?_,λh=>by cases h⟩;injection h with h;subst h;exact⟨id,λt=>⟨λh=>⟨h,by rw[il,CR.zero_mul];exact hb⟩,λh=>h.1⟩,λl h=>.inl h,λl h=>.inl h⟩
  ·rw[al hb];refine⟨λs' h=>(by cases h),λ_ t1 t2 _ h1 _ _ _=>hb ?_⟩;rw[il,CR.zero_mul]at h1;exact h1
 ·rw[al ha];have il:a≠0:=λe=>ha ((eZ a).2 e);have e:a*(b*a⁻¹)=b:=by rw[CR.mul_left_comm,pA _ il,CR.mul_one]
  generalize b*a⁻¹=t0 at e;dsimp only
  -- the new part,and what it says
  have key:∃ s':eG F,(if 0<a then(match s.hi with|some h=>if t0<h then⟨s.lo,some t0⟩else s|none=>⟨s.lo,some t0⟩)
    else(match s.lo with|some l=>if l<t0 then⟨some t0,s.hi⟩else s|none=>⟨some t0,s.hi⟩):eG F)=s'/\(∀ t,s'.Sat t↔s.Sat t/\a*t<=b)/\(∀ l,s'.lo=some l->s.lo=some l\/(a<0/\a*l=b))/\(∀ h,s'.hi=some h->s.hi=some h\/(0<a/\a*h=b)):=by
   by_cases hp:0<a
   ·rw[aq hp];have le:∀ t,a*t<=b↔t<=t0:=λt=>by rw[<-e,mul_le_mul_left hp]
    cases hh:s.hi with
    |none=>
     refine⟨_,rfl,λt=>?_,λl h=>.inl h,λh k=>.inr ⟨hp,by injection k with k;rw[<-k];exact e⟩⟩;rw[le];exact⟨λh=>⟨⟨h.1,λx hx=>by rw[hh]at hx;cases hx⟩,h.2 t0 rfl⟩,λh=>⟨h.1.1,λx hx=>by injection hx with hx;rw[<-hx];exact h.2⟩⟩
    |some h0=>
     dsimp only;by_cases av:t0<h0
     ·rw[aq av];refine⟨_,rfl,λt=>?_,λl h=>.inl h,λh k=>.inr ⟨hp,by injection k with k;rw[<-k];exact e⟩⟩;rw[le];exact⟨λh=>⟨⟨h.1,λx hx=>by rw[hh]at hx;injection hx with hx;rw[<-hx];exact OF.le_trans (h.2 t0 rfl) (OF.le_of_lt av)⟩,h.2 t0 rfl⟩,λh=>⟨h.1.1,λx hx=>by injection hx with hx;rw[<-hx];exact h.2⟩⟩
     ·rw[al av];refine⟨_,rfl,λt=>?_,λl h=>.inl h,λh k=>.inl (hh.symm.trans k)⟩;rw[le];exact⟨λh=>⟨h,OF.le_trans (h.2 h0 hh) (OF.not_lt.1 av)⟩,λh=>h.1⟩
   ·rw[al hp];have hn:a<0:=by
     rcases OF.oM (OF.not_lt.1 hp)with h|h
     ·exact h
     ·exact absurd h il
    have le:∀ t,a*t<=b↔t0<=t:=λt=>by rw[<-e,<-mul_le_mul_left (a:=t0) (b:=t) (neg_pos.2 hn),OF.le_def,OF.le_def,show -a*t - -a*t0=a*t0-a*t from mL a t t0 (λa t u=>-a*t - -a*u) (λa t u=>a*u-a*t) d_]
    cases hh:s.lo with
    |none=>
     refine⟨_,rfl,λt=>?_,λl k=>.inr ⟨hn,by injection k with k;rw[<-k];exact e⟩,λh k=>.inl k⟩;rw[le];exact⟨λh=>⟨⟨λx hx=>(by rw[hh]at hx;cases hx),h.2⟩,h.1 t0 rfl⟩,λh=>⟨λx hx=>by injection hx with hx;rw[<-hx];exact h.2,h.1.2⟩⟩
    |some h0=>
     dsimp only;by_cases av:h0<t0
     ·rw[aq av];refine⟨_,rfl,λt=>?_,λl k=>.inr ⟨hn,by injection k with k;rw[<-k];exact e⟩,λh k=>.inl k⟩;rw[le];exact⟨λh=>⟨⟨λx hx=>by rw[hh]at hx;injection hx with hx;rw[<-hx];exact OF.le_trans (OF.le_of_lt av) (h.1 t0 rfl),h.2⟩,h.1 t0 rfl⟩,λh=>⟨λx hx=>by injection hx with hx;rw[<-hx];exact h.2,h.1.2⟩⟩
     ·rw[al av];refine⟨_,rfl,λt=>?_,λl h=>.inl (hh.symm.trans h),λh k=>.inl k⟩;rw[le];exact⟨λh=>⟨h,OF.le_trans (OF.not_lt.1 av) (h.1 h0 hh)⟩,λh=>h.1⟩
  obtain⟨s1,vK,tW,ep,gT⟩:=key;rw[vK];cases hl:s1.lo with
  |none=>
   refine⟨λs' h=>?_,λh=>by cases h⟩;injection h with h;subst h;exact⟨λ_ l h cW=>(by rw[hl]at cW;cases cW),tW,ep,gT⟩
  |some l=>
   cases hh:s1.hi with
   |none=>
    refine⟨λs' h=>?_,λh=>by cases h⟩;injection h with h;subst h;exact⟨λ_ l h _ AM=>(by rw[hh]at AM;cases AM),tW,ep,gT⟩
   |some h=>
    dsimp only;by_cases av:l<h
    ·rw[aq av];refine⟨λs' h=>?_,λh=>by cases h⟩;injection h with h;subst h;refine⟨λ_ l' h' cW AM=>?_,tW,ep,gT⟩;rw[hl]at cW;rw[hh]at AM;injection cW with cW;injection AM with AM;rw[<-cW,<-AM];exact av
    ·rw[al av];refine⟨λs' h=>(by cases h),λ_ t1 t2 h1 k1 h2 k2 NM=>av ?_⟩;have q1:=((tW t1).2 ⟨h1,k1⟩).1 l hl;have q2:=((tW t2).2 ⟨h2,k2⟩).2 h hh;exact OF.lt_of_le_of_lt q1 (OF.lt_of_lt_of_le NM q2)
def EC:eG F->List (F×F)->Option (eG F)
 |s,[]=>some s
 |s,x::l=>(AN s x.1 x.2).bind λs'=>EC s' l
theorem TE:∀(l:List (F×F)) (s:eG F),s.Open->
  (∀ s',EC s l=some s'->s'.Open/\(∀ t,s'.Sat t↔s.Sat t/\∀ x∈l,x.1*t<=x.2)/\(∀ t,s'.lo=some t->s.lo=some t\/∃ x∈l,x.1<0/\x.1*t=x.2)/\(∀ t,s'.hi=some t->s.hi=some t\/∃ x∈l,0<x.1/\x.1*t=x.2))/\
  (EC s l=none->∀ t1 t2,s.Sat t1->(∀ x∈l,x.1*t1<=x.2)->s.Sat t2->(∀ x∈l,x.1*t2<=x.2)->t1<t2->False)
 |[],s,ho=>⟨λs' h=>by injection h with h;subst h;exact⟨ho,λt=>⟨λh=>⟨h,λx hx=>by cases hx⟩,λh=>h.1⟩,λt h=>.inl h,λt h=>.inl h⟩,λh=>by cases h⟩
 |x::l,s,ho=>by
  obtain⟨h1,h2⟩:=aJ0 s x.1 x.2;unfold EC;cases hn:AN s x.1 x.2 with
  |none=>
   refine⟨λs' h=>(by cases h),λ_ t1 t2 a b c d e=>?_⟩;exact h2 hn t1 t2 a (b x (aN ..)) c (d x (aN ..)) e
  |some s1=>
   obtain⟨o1,TF,yB,hi1⟩:=h1 s1 hn;obtain⟨k1,k2⟩:=TE l s1 (o1 ho);refine⟨λs' h=>?_,λh t1 t2 a b c d e=>?_⟩
   ·obtain⟨o2,aJ1,uX,QJ⟩:=k1 s' h;refine⟨o2,λt=>?_,λt ht=>?_,λt ht=>?_⟩
    ·rw[aJ1,TF];constructor
     ·rintro⟨⟨p,q⟩,r⟩
      exact⟨p,λy hy=>by
       rcases ch.1 hy with rfl|hy
       ·exact q
       ·exact r y hy⟩
     ·rintro⟨p,q⟩
      exact⟨⟨p,q x (aN ..)⟩,λy hy=>q y (bB _ hy)⟩
    ·rcases uX t ht with h|⟨y,hy,h⟩
     ·rcases yB t h with h|h
      ·exact .inl h
      ·exact .inr ⟨x,aN ..,h⟩
     ·exact .inr ⟨y,bB _ hy,h⟩
    ·rcases QJ t ht with h|⟨y,hy,h⟩
     ·rcases hi1 t h with h|h
      ·exact .inl h
      ·exact .inr ⟨x,aN ..,h⟩
     ·exact .inr ⟨y,bB _ hy,h⟩
   ·exact k2 h t1 t2 ((TF t1).2 ⟨a,b x (aN ..)⟩) (λy hy=>b y (bB _ hy)) ((TF t2).2 ⟨c,d x (aN ..)⟩) (λy hy=>d y (bB _ hy)) e
end
section
variable{F:Type}[OF F]
def lG(p q:HS F):V3 F:=
 let d:=aw p.n q.n
 smul (smul (aw q.n d) p.d+smul (aw d p.n) q.d) (dot d d)⁻¹
theorem aAF{p q:HS F}(h:aw p.n q.n≠0):fE p (lG p q):=by
 unfold fE lG;dsimp only;have e:dot p.n (smul (aw q.n (aw p.n q.n)) p.d+smul (aw (aw p.n q.n) p.n) q.d)=p.d*dot (aw p.n q.n) (aw p.n q.n):=
  ring [p.n,q.n] [p.d,q.d] (λV S=>dot (V 0) (smul (aw (V 1) (aw (V 0) (V 1))) (S 0)+smul (aw (aw (V 0) (V 1)) (V 0)) (S 1))) (λV S=>S 0*dot (aw (V 0) (V 1)) (aw (V 0) (V 1))) d_
 rw[kJ,e,CR.mul_assoc,pA _ (AJ h),CR.mul_one]
theorem aAG{p q:HS F}(h:aw p.n q.n≠0):fE q (lG p q):=by
 unfold fE lG;dsimp only;have e:dot q.n (smul (aw q.n (aw p.n q.n)) p.d+smul (aw (aw p.n q.n) p.n) q.d)=q.d*dot (aw p.n q.n) (aw p.n q.n):=
  ring [p.n,q.n] [p.d,q.d] (λV S=>dot (V 1) (smul (aw (V 1) (aw (V 0) (V 1))) (S 0)+smul (aw (aw (V 0) (V 1)) (V 0)) (S 1))) (λV S=>S 1*dot (aw (V 0) (V 1)) (aw (V 0) (V 1))) d_
 rw[kJ,e,CR.mul_assoc,pA _ (AJ h),CR.mul_one]
def yC(ps:List (HS F))(p q:HS F):Option (V3 F×V3 F):=
 let d:=aw p.n q.n
 if aA d.x=0/\aA d.y=0/\aA d.z=0 then none
 else match EC ⟨none,none⟩ (ps.map λr=>(dot r.n d,r.d-dot r.n (lG p q)))with
  |some ⟨some lo,some hi⟩=>some (lG p q+smul d lo,lG p q+smul d hi)
  |_=>none
theorem NN(d:V3 F):(aA d.x=0/\aA d.y=0/\aA d.z=0)↔d=0:=by rw[eZ,eZ,eZ];exact⟨λh=>V3.ext h.1 h.2.1 h.2.2,λh=>by subst h;exact⟨rfl,rfl,rfl⟩⟩
theorem NO{ps:List (HS F)}{b d:V3 F}{t:F}:mQ ps (b+smul d t)↔∀ x∈ps.map λr=>(dot r.n d,r.d-dot r.n b),x.1*t<=x.2:=by
 constructor
 ·intro h x hx;obtain⟨r,hr,rfl⟩:=dq.1 hx;have:=h r hr;rw[pH,kJ]at this;dsimp only;rw[<-add_le_add_left (dot r.n b),show dot r.n b+(r.d-dot r.n b)=r.d from kZ (dot r.n b) r.d (λa d=>a+(d-a)) (λ_ d=>d) d_];exact this
 ·intro h r hr;have:=h _ (dq.2 ⟨r,hr,rfl⟩);dsimp only at this;rw[<-add_le_add_left (dot r.n b),show dot r.n b+(r.d-dot r.n b)=r.d from kZ (dot r.n b) r.d (λa d=>a+(d-a)) (λ_ d=>d) d_]at this;rw[pH,kJ];exact this
theorem aAH:(⟨none,none⟩:eG F).Open:=λl h hl _=>by cases hl
theorem JO(t:F):(⟨none,none⟩:eG F).Sat t:=⟨λl h=>(by cases h),λl h=>(by cases h)⟩
theorem aJ2{ps:List (HS F)}{p q:HS F}(hp:p∈ps)(hq:q∈ps){u v:V3 F}(h:yC ps p q=some (u,v)):pI ps u/\pI ps v:=by
 unfold yC at h;dsimp only at h;split at h
 ·cases h
 ·rename_i hd;rw[NN]at hd;have tp:=aAF hd;have tq:=aAG hd;generalize lG p q=b at *;split at h
  ·rename_i lo hi hn;injection h with h;injection h with h1 h2;obtain⟨ho,tW,ep,gT⟩:=(TE _ _ aAH).1 _ hn;have av:=ho lo hi rfl rfl
   -- a TG of the line on a NC aJ3 it
   have fin:∀ t:F,lo<=t->t<=hi->(∃ x∈ps.map λr=>(dot r.n (aw p.n q.n),r.d-dot r.n b),x.1≠0/\x.1*t=x.2)->pI ps (b+smul (aw p.n q.n) t):=by
    rintro t h1 h2 ⟨x,hx,mR,yx⟩
    obtain⟨r,hr,rfl⟩:=dq.1 hx;refine⟨?_,p,hp,q,hq,r,hr,?_,?_,?_,?_⟩
    ·rw[NO];exact((tW t).1 ⟨λl hl=>by injection hl with hl;rw[<-hl];exact h1,λl hl=>by injection hl with hl;rw[<-hl];exact h2⟩).2
    ·intro e;rw[<-NA]at e;exact mR e
    ·unfold fE at *;rw[pH,kJ,JG,CR.zero_mul,CR.add_zero,tp]
    ·unfold fE at *;rw[pH,kJ,JH,CR.zero_mul,CR.add_zero,tq]
    ·unfold fE;rw[pH,kJ];dsimp only at yx;rw[yx];exact kZ (dot r.n b) r.d (λa d=>a+(d-a)) (λ_ d=>d) d_
   rw[<-h1,<-h2];constructor
   ·rcases ep lo rfl with k|⟨x,hx,mR,yx⟩
    ·cases k
    ·exact fin lo (OF.le_refl _) (OF.le_of_lt av) ⟨x,hx,OF.ne_of_lt mR,yx⟩
   ·rcases gT hi rfl with k|⟨x,hx,mR,yx⟩
    ·cases k
    ·exact fin hi (OF.le_of_lt av) (OF.le_refl _) ⟨x,hx,OF.ne_of_gt mR,yx⟩
  ·cases h
theorem aJ4{ps:List (HS F)}(hc:Cl ps)(hp:l9 ps){v x:V3 F}(hv:pI ps v)(hx:mQ ps x)(aY:x≠v):
  ∃ p∈ps,∃ q∈ps,aw p.n q.n≠0/\(∃ u w,yC ps p q=some (u,w)/\(v=u\/v=w))/\(∃ u w,yC ps q p=some (u,w)/\(v=u\/v=w)):=by
 obtain⟨p,ik,q,Ai,tp,tq,hd,aU⟩:=aJq hp hv hx aY
 -- one order;c=d or c=-d is the direction aSH the TH
 have one:∀ p q:HS F,p∈ps->q∈ps->fE p v->fE q v->aw p.n q.n≠0->∀ c:V3 F,(c=aw p.n q.n\/c=-aw p.n q.n)->(∀ r∈ps,fE r v->dot r.n c<=0)->
   ∃ u w,yC ps p q=some (u,w)/\(v=u\/v=w):=by
  intro p q ik Ai tp tq hd c TI aU;have pa:c≠0:=by
   rcases TI with rfl|rfl
   ·exact hd
   ·exact λe=>hd (neg_eq_zero.1 e)
  have bp:=aAF hd;have bq:=aAG hd
  -- v on the line
  have NP:dot p.n (v-lG p q)=0/\dot q.n (v-lG p q)=0:=by unfold fE at *;rw[mP,mP,tp,tq,bp,bq,OF.sub_self,OF.sub_self];exact⟨rfl,rfl⟩
  obtain⟨t0,CA⟩:∃ t0,v=lG p q+smul (aw p.n q.n) t0:=
   ⟨_,by rw[<-aAl hd NP.1 NP.2,V3.add_sub_cancel]⟩
  -- a aSI TG of the line
  obtain⟨e,he,⟨r,hr,oL,Ey⟩,cB⟩:=uI hv.1 (hc.bounds hp pa);have aAI:0<e:=by
   rcases OF.oM he with h|h
   ·exact h
   ·rw[<-h,smul_zero,V3.add_zero]at Ey;exact absurd (OF.lt_of_lt_of_le oL (aU r hr Ey)) (OF.lt_irrefl _)
  -- a NC at v aJ3 the line
  have aAJ:=hv.1;obtain⟨_,a1,dT,a2,fO,a3,Ax,aJ5,t1,t2,t3⟩:=hv;obtain⟨s,hs,ts,TJ⟩:∃ s∈ps,fE s v/\dot s.n c<0:=by
   apply jM;intro fP;have z:∀ a∈ps,fE a v->dot a.n c=0:=λa ha ta=>by
    rcases OF.oM (aU a ha ta)with h|h
    ·exact(fP ⟨a,ha,ta,h⟩).elim
    ·exact h
   exact pa (GW aJ5 (z a1 dT t1) (z a2 fO t2) (z a3 Ax t3))
  have Ew:∀ t:F,v+smul (aw p.n q.n) t=lG p q+smul (aw p.n q.n) (t0+t):=λt=>by rw[CA];exact l8 [lG p q,aw p.n q.n] [t0,t] (λV S=>V 0+smul (V 1) (S 0)+smul (V 1) (S 1)) (λV S=>V 0+smul (V 1) (S 0+S 1)) d_
  have aAK:∀ t:F,mQ ps (v+smul (aw p.n q.n) t)->∀ x∈ps.map λr=>(dot r.n (aw p.n q.n),r.d-dot r.n (lG p q)),x.1*(t0+t)<=x.2:=λt h=>by rw[Ew]at h;exact NO.1 h
  have f0:=aAK 0 (by rw[smul_zero,V3.add_zero];exact aAJ);rw[CR.add_zero]at f0
  -- the other TG
  have f1:∃ t1:F,t1≠0/\mQ ps (v+smul (aw p.n q.n) t1):=by
   rcases TI with rfl|rfl
   ·exact⟨e,OF.ne_of_gt aAI,cB⟩
   ·refine⟨-e,OF.ne_of_lt (Jd.2 aAI),?_⟩;rw[show smul (aw p.n q.n) (-e)=smul (-aw p.n q.n) e from l8 [aw p.n q.n] [e] (λV S=>smul (V 0) (-S 0)) (λV S=>smul (-V 0) (S 0)) d_];exact cB
  obtain⟨t1,iL,f1⟩:=f1;have f1:=aAK t1 f1;unfold yC;dsimp only;rw[al (by rw[NN];exact hd)];obtain⟨n1,n2⟩:=TE (ps.map λr=>(dot r.n (aw p.n q.n),r.d-dot r.n (lG p q))) ⟨none,none⟩ aAH;cases hN:EC ⟨none,none⟩ (ps.map λr=>(dot r.n (aw p.n q.n),r.d-dot r.n (lG p q)))with
  |none=>
   exfalso;rcases OF.lt_trichotomy 0 t1 with h|h|h
   ·exact n2 hN t0 (t0+t1) (JO _) f0 (JO _) f1 (by have:=(add_lt_add_left t0).2 h;rwa[CR.add_zero]at this)
   ·exact iL h.symm
   ·exact n2 hN (t0+t1) t0 (JO _) f1 (JO _) f0 (by have:=(add_lt_add_left t0).2 h;rwa[CR.add_zero]at this)
  |some sg=>
   obtain⟨ho,tW,_,_⟩:=n1 sg hN;have s0:=(tW t0).2 ⟨JO _,f0⟩
   -- beyond a NC
   have beyond:∀ c:V3 F,c≠0->∃ t:F,0<=t/\¬mQ ps (v+smul c t):=by intro c pa;obtain⟨t,ht,⟨r,hr,oL,Ey⟩,_⟩:=uI aAJ (hc.bounds hp pa);refine⟨t+1,add_nonneg ht (OF.le_of_lt OF.zero_lt_one),λh=>?_⟩;have h1:=h r hr;rw[show v+smul c (t+1)=v+smul c t+c from l8 [v,c] [t] (λV S=>V 0+smul (V 1) (S 0+1)) (λV S=>V 0+smul (V 1) (S 0)+V 1) d_,pH,show dot r.n (v+smul c t)=r.d from Ey]at h1;have:=(add_lt_add_left r.d).2 oL;rw[CR.add_zero]at this;exact OF.lt_irrefl _ (OF.lt_of_lt_of_le this h1)
   obtain⟨lo,hi⟩:=sg;have gT:∃ h,hi=some h:=by
    cases hi with
    |some h=>exact⟨h,rfl⟩
    |none=>
     exfalso;obtain⟨t,ht,fP⟩:=beyond _ hd;apply fP;rw[Ew,NO];refine((tW (t0+t)).1 ⟨λl hl=>?_,λh hh=>(by cases hh)⟩).2;refine OF.le_trans (s0.1 l hl) ?_;have:=(add_le_add_left t0).2 ht;rwa[CR.add_zero]at this
   have ep:∃ l,lo=some l:=by
    cases lo with
    |some h=>exact⟨h,rfl⟩
    |none=>
     exfalso;obtain⟨t,ht,fP⟩:=beyond (-aw p.n q.n) (λe=>hd (neg_eq_zero.1 e));apply fP;rw[show smul (-aw p.n q.n) t=smul (aw p.n q.n) (-t)from l8 [aw p.n q.n] [t] (λV S=>smul (-V 0) (S 0)) (λV S=>smul (V 0) (-S 0)) d_,Ew,NO];refine((tW (t0+-t)).1 ⟨λh hh=>(by cases hh),λl hl=>?_⟩).2;refine OF.le_trans ?_ (s0.2 l hl);have:=(add_le_add_left t0).2 (aIc.2 ht);rwa[CR.add_zero]at this
   obtain⟨hi,rfl⟩:=gT;obtain⟨lo,rfl⟩:=ep;have av:=ho lo hi rfl rfl;have l0:=s0.1 lo rfl;have h0:=s0.2 hi rfl;refine⟨_,_,rfl,?_⟩
   -- the value of s on the line
   have aAL:∀ t:F,(∀ x∈ps.map λr=>(dot r.n (aw p.n q.n),r.d-dot r.n (lG p q)),x.1*t<=x.2)->dot s.n (aw p.n q.n)*t<=dot s.n (aw p.n q.n)*t0:=by
    intro t h;have h1:=h _ (dq.2 ⟨s,hs,rfl⟩);dsimp only at h1;have h2:dot s.n (aw p.n q.n)*t0=s.d-dot s.n (lG p q):=by have:dot s.n v=s.d:=ts;rw[CA,pH,kJ]at this;rw[<-this];exact kZ (dot s.n (lG p q)) (dot s.n (aw p.n q.n)*t0) (λ_ b=>b) (λa b=>a+b-a) d_
    rw[h2];exact h1
   rcases TI with rfl|rfl
   ·left;have k:=aAL lo ((tW lo).1 ⟨λl hl=>(by injection hl with hl;rw[hl];exact OF.le_refl _),λh hh=>(by injection hh with hh;rw[<-hh];exact OF.le_of_lt av)⟩).2;have k2:t0<=lo:=by
     rw[<-mul_le_mul_left (neg_pos.2 TJ),CR.neg_mul,CR.neg_mul,OF.le_def,show -(dot s.n (aw p.n q.n)*lo) - -(dot s.n (aw p.n q.n)*t0)=dot s.n (aw p.n q.n)*t0-dot s.n (aw p.n q.n)*lo from
       kZ (dot s.n (aw p.n q.n)*lo) (dot s.n (aw p.n q.n)*t0) (λa b=>-a - -b) (λa b=>b-a) d_]
     exact k
    rw[OF.le_antisymm l0 k2];exact CA
   ·right;rw[wM,Jd]at TJ;have k:=aAL hi ((tW hi).1 ⟨λl hl=>(by injection hl with hl;rw[<-hl];exact OF.le_of_lt av),λh hh=>(by injection hh with hh;rw[hh];exact OF.le_refl _)⟩).2;rw[mul_le_mul_left TJ]at k;rw[OF.le_antisymm k h0];exact CA
 refine⟨p,ik,q,Ai,hd,one p q ik Ai tp tq hd _ (.inl rfl) aU,one q p Ai ik tq tp (λe=>hd (by rw[GV,e,V3.neg_zero])) _ (.inr ?_) aU⟩;rw[<-GV]
def JP(ps:List (HS F))(x:V3 F):Prop:=∀ p∈ps,dot p.n x<p.d
def qB(ps:List (HS F)):Prop:=∃ x,JP ps x
theorem JP.inside{ps:List (HS F)}{x:V3 F}(h:JP ps x):mQ ps x:=λp hp=>OF.le_of_lt (h p hp)
def aAM(l:List (V3 F)):V3 F:=l.foldl (λs v=>s+v) 0
theorem aAN(m:V3 F):∀(l:List (V3 F)) (s:V3 F),dot m (l.foldl (λs v=>s+v) s)=l.foldl (λ(a:F) v=>a+dot m v) (dot m s)
 |[],_=>rfl
 |v::l,s=>by rw[uH,aAN,uH,pH]
theorem NQ(f:V3 F->F):∀(l:List (V3 F)) (a:F),l.foldl (λ(a:F) v=>a+f v) a=a+l.foldl (λ(a:F) v=>a+f v) 0
 |[],a=>by rw[aAO,aAO,CR.add_zero]
 |v::l,a=>by rw[uH,uH,NQ f l (a+f v),NQ f l (0+f v),CR.zero_add,CR.add_assoc]
theorem aAP{f:V3 F->F}{d:F}:∀{l:List (V3 F)},(∀ v∈l,f v<=d)->l.foldl (λ(a:F) v=>a+f v) 0<=CR.ofNat l.length*d
 |[],_=>by rw[aAO,List.length_nil,CR.ofNat,CR.zero_mul];exact OF.le_refl _
 |v::l,h=>by rw[uH,NQ,CR.zero_add,pU,CR.ofNat,CR.add_mul,CR.one_mul,CR.add_comm];exact OF.add_le_add (aAP λv hv=>h v (bB _ hv)) (h v (aN ..))
theorem aAQ{f:V3 F->F}{d:F}:∀{l:List (V3 F)},(∀ v∈l,f v<=d)->(∃ v∈l,f v<d)->l.foldl (λ(a:F) v=>a+f v) 0<CR.ofNat l.length*d
 |[],_,h=>by obtain⟨v,hv,_⟩:=h;cases hv
 |v::l,h,k=>by
  rw[uH,NQ,CR.zero_add,pU,CR.ofNat,CR.add_mul,CR.one_mul,CR.add_comm];have hl:∀ v∈l,f v<=d:=λv hv=>h v (bB _ hv);obtain⟨x,hx,wD⟩:=k;rcases ch.1 hx with rfl|hx
  ·exact add_lt_add_of_le_of_lt (aAP hl) wD
  ·exact add_lt_add_of_lt_of_le (aAQ hl ⟨x,hx,wD⟩) (h v (aN ..))
theorem TK:∀{n:Nat},0<n->(0:F)<CR.ofNat n
 |n+1,_=>by
  rw[CR.ofNat];rcases nr n with rfl|h
  ·rw[CR.ofNat,CR.zero_add];exact OF.zero_lt_one
  ·exact add_pos (TK h) OF.zero_lt_one
def CB(l:List (V3 F)):V3 F:=smul (aAM l) (CR.ofNat l.length)⁻¹
theorem aJ6(m:V3 F)(l:List (V3 F)):dot m (CB l)=l.foldl (λ(a:F) v=>a+dot m v) 0*(CR.ofNat l.length)⁻¹:=by unfold CB aAM;rw[kJ,aAN,Cx]
theorem aAR{m:V3 F}{d:F}{l:List (V3 F)}(h:∀ v∈l,dot m v<=d)(k:∃ v∈l,dot m v<d):dot m (CB l)<d:=by
 have hl:0<l.length:=by
  obtain⟨v,hv,_⟩:=k;cases l with
  |nil=>cases hv
  |cons a l=>exact RH _
 have hp:=TK (F:=F) hl;rw[aJ6,<-mul_lt_mul_left hp,CR.mul_left_comm,pA _ (OF.ne_of_gt hp),CR.mul_one];exact aAQ h k
theorem aAS{ps:List (HS F)}(hc:Cl ps)(hp:l9 ps){l:List (V3 F)}(hl:∀ v,v∈l↔pI ps v)(hf:qB ps):l≠[]/\JP ps (CB l):=by
 obtain⟨x,hx⟩:=hf;have wO:∀ p∈ps,∃ v∈l,dot p.n v<p.d:=by intro p kp;obtain⟨v,hv,hm⟩:=top hc hp (m:=-p.n) hx.inside;refine⟨v,(hl v).2 hv,?_⟩;rw[JF,JF,OF.le_def,show -dot p.n v - -dot p.n x=dot p.n x-dot p.n v from kZ (dot p.n v) (dot p.n x) (λa b=>-a - -b) (λa b=>b-a) d_]at hm;exact OF.lt_of_le_of_lt hm (hx p kp)
 obtain⟨⟨p,kp,_⟩,_⟩:=hc;refine⟨λe=>?_,λp kp=>aAR (λv hv=>((hl v).1 hv).1 p kp) (wO p kp)⟩;obtain⟨v,hv,_⟩:=wO p kp;rw[e]at hv;cases hv
theorem aJ7{ps:List (HS F)}(hc:Cl ps)(hp:l9 ps)(hf:qB ps)(v:V3 F):∃ x,mQ ps x/\x≠v:=by
 obtain⟨x,hx⟩:=hf;by_cases h:x=v
 ·obtain⟨p,kp,_⟩:=hc.1;have mg:=hp p kp;obtain⟨w,hw,hm⟩:=top hc hp (m:=p.n) hx.inside;by_cases hwx:w=x
  ·-- then every aSJ is x,which is on a NC
   obtain⟨_,q,hq,_,_,_,_,_,tq,_⟩:=hw;have:=hx q hq;rw[hwx]at tq;rw[show dot q.n x=q.d from tq]at this;exact absurd this (OF.lt_irrefl _)
  ·exact⟨w,hw.1,λe=>hwx (e.trans h.symm)⟩
 ·exact⟨x,hx.inside,h⟩
end
section
variable{F:Type}[OF F]
def TL(l:List (V3 F)):Prop:=∃ o rest,l=o::rest/\∃ a∈rest,∃ b∈rest,∃ c∈rest,cV (a-o) (b-o) (c-o)≠0
theorem aJ8{ps:List (HS F)}(hp:l9 ps){l:List (V3 F)}(hl:∀ v∈l,mQ ps v)(h:TL l):qB ps:=by
 obtain⟨o,rest,rfl,a,ha,b,hb,c,hc,hd⟩:=h;have io:=hl o (aN ..);have ia:=hl a (bB _ ha);have ib:=hl b (bB _ hb);have ic:=hl c (bB _ hc);refine⟨CB [o,a,b,c],λp kp=>aAR (λv hv=>?_) ?_⟩
 ·simp only[ch,fF,fG]at hv;rcases hv with rfl|rfl|rfl|rfl
  ·exact io p kp
  ·exact ia p kp
  ·exact ib p kp
  ·exact ic p kp
 ·apply jM;intro fP;have tight:∀ v∈[o,a,b,c],dot p.n v=p.d:=by
   intro v hv;have cB:dot p.n v<=p.d:=by
    simp only[ch,fF,fG]at hv;rcases hv with rfl|rfl|rfl|rfl
    ·exact io p kp
    ·exact ia p kp
    ·exact ib p kp
    ·exact ic p kp
   rcases OF.oM cB with h|h
   ·exact(fP ⟨v,hv,h⟩).elim
   ·exact h
  have to:=tight o s_;have z:∀ v∈[o,a,b,c],dot (v-o) p.n=0:=λv hv=>by rw[AH,mP,tight v hv,to,OF.sub_self]
  exact hp p kp (GW hd (z a s_) (z b s_) (z c s_))
theorem aJ9{ps:List (HS F)}(hc:Cl ps)(hp:l9 ps){l:List (V3 F)}(hl:∀ v,v∈l↔pI ps v)(hf:qB ps):TL l:=by
 have aY:=(aAS hc hp hl hf).1;cases l with
 |nil=>exact absurd rfl aY
 |cons o rest=>
  apply jM;intro fP;have hz:∀ a∈rest,∀ b∈rest,∀ c∈rest,cV (a-o) (b-o) (c-o)=0:=by intro a ha b hb c hc;apply jM;intro h;exact fP ⟨o,rest,rfl,a,ha,b,hb,c,hc,h⟩
  -- a direction that all points have in Lt
  obtain⟨m,hm,NP⟩:∃ m:V3 F,m≠0/\∀ v∈rest,dot m (v-o)=0:=by
   by_cases h2:∃ a∈rest,∃ b∈rest,aw (a-o) (b-o)≠0
   ·obtain⟨a,ha,b,hb,h⟩:=h2;refine⟨_,h,λv hv=>?_⟩;rw[AH];exact hz v hv a ha b hb
   ·have yn:∀ a∈rest,∀ b∈rest,aw (a-o) (b-o)=0:=λa ha b hb=>jM λh=>h2 ⟨a,ha,b,hb,h⟩;by_cases h1:∃ a∈rest,a-o≠0
    ·obtain⟨a,ha,h⟩:=h1;obtain⟨u,hu,hau⟩:=Tl h;exact⟨u,hu,λv hv=>by rw[AH];exact Tm h (yn a ha v hv) hau⟩
    ·obtain⟨p,kp,_⟩:=hc.1;exact⟨p.n,hp p kp,λv hv=>by rw[jM (λh=>h1 ⟨v,hv,h⟩:¬¬(v-o=0)),Cx]⟩
  have heq:∀ v,pI ps v->dot m v=dot m o:=by
   intro v hv;rcases ch.1 ((hl v).2 hv)with rfl|h
   ·rfl
   ·have:=NP v h;rw[mP]at this;exact OF.sub_eq_zero.1 this
  -- so every TG inside has the same product
  have all:∀ y,mQ ps y->dot m y=dot m o:=by intro y hy;obtain⟨v,hv,h1⟩:=top hc hp (m:=m) hy;obtain⟨w,hw,h2⟩:=top hc hp (m:=-m) hy;rw[heq v hv]at h1;rw[JF,JF,heq w hw,OF.le_def,show -dot m o - -dot m y=dot m y-dot m o from kZ (dot m o) (dot m y) (λa b=>-a - -b) (λa b=>b-a) d_]at h2;exact OF.le_antisymm h1 h2
  obtain⟨x,hx⟩:=hf;obtain⟨t,ht,⟨q,hq,_,uV⟩,cB⟩:=uI hx.inside (hc.bounds hp hm);have CA:t≠0:=by
   rintro rfl
   rw[smul_zero,V3.add_zero]at uV;have:=hx q hq;rw[show dot q.n x=q.d from uV]at this;exact OF.lt_irrefl _ this
  have h1:=all _ cB;rw[pH,kJ,all x hx.inside]at h1;have:dot m m*t=0:=CR.add_left_cancel (a:=dot m o) (by rw[h1,CR.add_zero]);exact mul_ne_zero (AJ hm) CA this
end
end
variable{k:Nat}{p:HS K}{x:m_}{ps:List (HS K)}{y:Int}
section
open CR OF
section
variable{F:Type}[OF F]
def dQ(u v:V3 F):Int:=
 if aA (u.x-v.x)≠0 then aA (u.x-v.x)else if aA (u.y-v.y)≠0 then aA (u.y-v.y)else aA (u.z-v.z)
theorem aKa(u v:V3 F):(u-v).x=u.x-v.x:=rfl
theorem aKb(u v:V3 F):(u-v).y=u.y-v.y:=rfl
theorem aKc(u v:V3 F):(u-v).z=u.z-v.z:=rfl
theorem aAT{u v:V3 F}:dQ u v=1↔yA (u-v):=by
 unfold dQ yA;rw[aKa,aKb,aKc,iC,iC,iC];have e:∀ a:F,a=0↔aA a=0:=λa=>(eZ a).symm;rw[e (u.x-v.x),e (u.y-v.y)];rcases iB (u.x-v.x)with h|h|h<;>rw[h]<;>simp
 rcases iB (u.y-v.y)with h|h|h<;>rw[h]<;>simp
theorem aAU(u v:V3 F):dQ v u=- dQ u v:=by
 unfold dQ;rw[Ef v.x u.x,Ef v.y u.y,Ef v.z u.z];rcases iB (u.x-v.x)with h|h|h<;>rw[h]<;>simp
 rcases iB (u.y-v.y)with h|h|h<;>rw[h]<;>simp
theorem JQ{u v:V3 F}:dQ u v=-1↔yA (v-u):=by rw[<-aAT,aAU u v];omega
theorem JR{u v:V3 F}:dQ u v=0↔u=v:=by
 constructor
 ·intro h;apply jM;intro aY;rcases aJY aY with k|k
  ·rw[JQ.2 k]at h;cases h
  ·rw[aAT.2 k]at h;cases h
 ·rintro rfl
  unfold dQ;rw[OF.sub_self,OF.sub_self,OF.sub_self,(eZ (0:F)).2 rfl];simp
theorem GY(u v:V3 F):dQ u v=-1\/dQ u v=0\/dQ u v=1:=by
 unfold dQ;split
 ·exact iB _
 ·split
  ·exact iB _
  ·exact iB _
def jr(u v:V3 F):Prop:=dQ u v=-1
theorem JS{u v w:V3 F}(h:jr u v)(k:jr v w):jr u w:=by have h:=JQ.1 h;have k:=JQ.1 k;exact JQ.2 (iu.aAq (H:=aAE) h k)
theorem CC(u:V3 F):¬jr u u:=λh=>by have:dQ u u=0:=JR.2 rfl;rw[show dQ u u=-1 from h]at this;cases this
theorem NR{u v:V3 F}(h:jr u v)(k:jr v u):False:=CC u (JS h k)
theorem JT{u v:V3 F}(h:dQ u v=1):jr v u:=by unfold jr;rw[aAU u v,h]
def lH(v:V3 F):List (V3 F)->List (V3 F)
 |[]=>[v]
 |a::l=>if dQ a v=0 then a::l else if dQ a v=1 then v::a::l else a::lH v l
theorem NS{v x:V3 F}:∀{l:List (V3 F)},x∈lH v l↔x=v\/x∈l
 |[]=>by simp[lH]
 |a::l=>by
  unfold lH;split
  ·rename_i h;have e:=JR.1 h;subst e;simp
  ·split
   ·simp
   ·rw[ch,NS,ch];constructor
    ·rintro(h|h|h)
     ·exact .inr (.inl h)
     ·exact .inl h
     ·exact .inr (.inr h)
    ·rintro(h|h|h)
     ·exact .inr (.inl h)
     ·exact .inl h
     ·exact .inr (.inr h)
theorem TM{v:V3 F}:∀{l:List (V3 F)},l.Pairwise jr->(lH v l).Pairwise jr
 |[],_=>aAB ..
 |a::l,h=>by
  unfold lH;have h':=rJ.1 h;split
  ·exact h
  ·rename_i h0;split
   ·rename_i h1;refine rJ.2 ⟨λb hb=>?_,h⟩;rcases ch.1 hb with rfl|hb
    ·exact JT h1
    ·exact JS (JT h1) (h'.1 b hb)
   ·rename_i h1;refine rJ.2 ⟨λb hb=>?_,TM h'.2⟩;rcases NS.1 hb with rfl|hb
    ·rcases GY a b with k|k|k
     ·exact k
     ·exact absurd k h0
     ·exact absurd k h1
    ·exact h'.1 b hb
theorem TN:∀{l m:List (V3 F)},l.Pairwise jr->m.Pairwise jr->(∀ x,x∈l↔x∈m)->l=m
 |[],[],_,_,_=>rfl
 |[],b::m,_,_,h=>by have:=(h b).2 (aN ..);cases this
 |a::l,[],_,_,h=>by have:=(h a).1 (aN ..);cases this
 |a::l,b::m,hl,hm,h=>by
  have cW:=rJ.1 hl;have bh:=rJ.1 hm;have e:a=b:=by
   rcases ch.1 ((h a).1 (aN ..))with e|ha
   ·exact e
   ·rcases ch.1 ((h b).2 (aN ..))with e|hb
    ·exact e.symm
    ·exact(NR (cW.1 b hb) (bh.1 a ha)).elim
  subst e
  congr 1
  refine TN cW.2 bh.2 λx=>⟨λhx=>?_,λhx=>?_⟩
  ·rcases ch.1 ((h x).1 (bB _ hx))with rfl|sD
   ·exact(CC _ (cW.1 _ hx)).elim
   ·exact sD
  ·rcases ch.1 ((h x).2 (bB _ hx))with rfl|sD
   ·exact(CC _ (bh.1 _ hx)).elim
   ·exact sD
def JU(l:List (V3 F)):List (V3 F):=l.foldl (λs v=>lH v s) []
theorem aAV{x:V3 F}:∀(l s:List (V3 F)),x∈l.foldl (λs v=>lH v s) s↔x∈l\/x∈s
 |[],s=>by simp
 |v::l,s=>by
  rw[uH,aAV l,NS,ch];constructor
  ·rintro(h|h|h)
   ·exact .inl (.inr h)
   ·exact .inl (.inl h)
   ·exact .inr h
  ·rintro((h|h)|h)
   ·exact .inr (.inl h)
   ·exact .inl h
   ·exact .inr (.inr h)
theorem aAW:∀(l s:List (V3 F)),s.Pairwise jr->(l.foldl (λs v=>lH v s) s).Pairwise jr
 |[],_,h=>h
 |v::l,s,h=>by rw[uH];exact aAW l _ (TM h)
theorem TO{x:V3 F}{l:List (V3 F)}:x∈JU l↔x∈l:=by unfold JU;rw[aAV];simp
theorem TP(l:List (V3 F)):(JU l).Pairwise jr:=aAW l [] aAX
end
end
section
open V3 (dot aw cV smul)
def cO(v:V3 K):RV:=⟨dM v.x,dM v.y,dM v.z⟩
def bN(v:V3 K):Value:=(cO v).v
theorem NT{u v:V3 K}(h:cO u=cO v):u=v:=by cases u;cases v;have h1:=Jk (b9 RV.x h);have h2:=Jk (b9 RV.y h);have h3:=Jk (b9 RV.z h);dsimp only[cO]at h1 h2 h3;rw[h1,h2,h3]
def aF(n:Nat)(v:V3 K):Prop:=Sz n v.x/\Sz n v.y/\Sz n v.z
theorem aF.mono{n:Nat}(h:m<=n){v:V3 K}(hv:aF m v):aF n v:=⟨hv.1.mono h,hv.2.1.mono h,hv.2.2.mono h⟩
theorem aF.sm{n:Nat}{v:V3 K}(h:aF n v)(hn:n<=az):(cO v).Sm:=⟨Cn h.1 hn,Cn h.2.1 hn,Cn h.2.2 hn⟩
theorem aF.add{n:Nat}{u v:V3 K}(hu:aF m u)(hv:aF n v):aF (m+n+1) (u+v):=⟨hu.1.add hv.1,hu.2.1.add hv.2.1,hu.2.2.add hv.2.2⟩
theorem aF.sub{n:Nat}{u v:V3 K}(hu:aF m u)(hv:aF n v):aF (m+n+1) (u-v):=⟨hu.1.sub hv.1,hu.2.1.sub hv.2.1,hu.2.2.sub hv.2.2⟩
theorem aF.neg{n:Nat}{v:V3 K}(hv:aF n v):aF n (-v):=⟨hv.1.neg,hv.2.1.neg,hv.2.2.neg⟩
theorem aF.smul{m n:Nat}{v:V3 K}{k:K}(hv:aF m v)(hk:Sz n k):aF (m+n+4) (smul v k):=⟨hv.1.mul hk,hv.2.1.mul hk,hv.2.2.mul hk⟩
theorem aF.dot{m n:Nat}{u v:V3 K}(hu:aF m u)(hv:aF n v):Sz (3*(m+n)+14) (dot u v):=((hu.1.mul hv.1).add (hu.2.1.mul hv.2.1)).add (hu.2.2.mul hv.2.2) |>.mono o_
theorem aF.aw{m n:Nat}{u v:V3 K}(hu:aF m u)(hv:aF n v):aF (2*(m+n)+9) (aw u v):=
 ⟨((hu.2.1.mul hv.2.2).sub (hu.2.2.mul hv.2.1)).mono o_,((hu.2.2.mul hv.1).sub (hu.1.mul hv.2.2)).mono o_,((hu.1.mul hv.2.1).sub (hu.2.1.mul hv.1)).mono o_⟩
theorem js{v:V3 K}{n:Nat}(h:aF n v)(hn:n<=az):aB prog 70 [bN v] b_:=JB (r:=cO v) (km h.1 hn) (km h.2.1 hn) (km h.2.2 hn)
theorem wS{a b c:Int}(ha:a.natAbs<9223372036854775808)(hb:b.natAbs<9223372036854775808)(hc:c.natAbs<9223372036854775808):aB prog 59 [.int .i64 a,.int .i64 b,.int .i64 c] (bN ⟨kI a,kI b,kI c⟩):=
 aV func59 (λ_=>[(sK ha).at 8,(sK hb).at 10,(sK hc).at 12])
def TQ(f:FuncId):Value:=.agg #[.func (.func f) #[] #[]]
theorem aKd{u v:RV}{z:RV}(hu:aB prog 70 [u.v] b_)(hv:aB prog 70 [v.v] b_)
  (hx:aB prog 140 [u.x.v,v.x.v] z.x.v) (hy:aB prog 140 [u.y.v,v.y.v] z.y.v) (hz:aB prog 140 [u.z.v,v.z.v] z.z.v):aB prog 141 [TQ 140,u.v,v.v] z.v:=
 aV func141 (λ_=>[hu.at 8,hv.at 12,hx.at 22,hy.at 29,hz.at 36])
theorem aKe{u v:RV}{z:RV}(hu:aB prog 70 [u.v] b_)(hv:aB prog 70 [v.v] b_)
  (hx:aB prog 174 [u.x.v,v.x.v] z.x.v) (hy:aB prog 174 [u.y.v,v.y.v] z.y.v) (hz:aB prog 174 [u.z.v,v.z.v] z.z.v):aB prog 141 [TQ 174,u.v,v.v] z.v:=
 aV func141 (λ_=>[hu.at 8,hv.at 12,hx.at 22,hy.at 29,hz.at 36])
theorem aAY{u v:RV}{z:RV}(hu:aB prog 70 [u.v] b_)(hv:aB prog 70 [v.v] b_)
  (hx:aB prog 143 [u.x.v,v.x.v] z.x.v) (hy:aB prog 143 [u.y.v,v.y.v] z.y.v) (hz:aB prog 143 [u.z.v,v.z.v] z.z.v):aB prog 141 [TQ 143,u.v,v.v] z.v:=
 aV func141 (λ_=>[hu.at 8,hv.at 12,hx.at 22,hy.at 29,hz.at 36])
theorem ED{u v:V3 K}{n:Nat}(hu:aF m u)(hv:aF n v)(cN:m+n<az):aB prog 92 [bN u,bN v] (bN (u+v)):=
 aV func92 (λ_=>[(aKd (u:=cO u) (v:=cO v) (z:=cO (u+v)) (js hu o_) (js hv o_) (tL hu.1 hv.1 cN) (tL hu.2.1 hv.2.1 cN) (tL hu.2.2 hv.2.2 cN)).at 8])
theorem AO{u v:V3 K}{n:Nat}(hu:aF m u)(hv:aF n v)(cN:m+n<az):aB prog 134 [bN u,bN v] (bN (u-v)):=
 aV func134 (λ_=>[(aKe (u:=cO u) (v:=cO v) (z:=cO (u-v)) (js hu o_) (js hv o_) (As hu.1 hv.1 cN) (As hu.2.1 hv.2.1 cN) (As hu.2.2 hv.2.2 cN)).at 8])
instance:DecidableEq (V3 K):=λu v=>decidable_of_iff (u.x=v.x/\u.y=v.y/\u.z=v.z) ⟨λh=>V3.ext h.1 h.2.1 h.2.2,λh=>by subst h;exact⟨rfl,rfl,rfl⟩⟩
theorem JV:aF 1 (⟨kI 0,kI 0,kI 0⟩:V3 K):=⟨qs d_ d_,qs d_ d_,qs d_ d_⟩
theorem GZ{v:V3 K}{n:Nat}(hv:aF n v)(hn:n+1<az):aB prog 87 [bN v] (bN (-v)):=by
 have e:(⟨kI 0,kI 0,kI 0⟩:V3 K)-v=-v:=by cases v;show(⟨kI 0-_,kI 0-_,kI 0-_⟩:V3 K)=⟨-_,-_,-_⟩;rw[aIN];congr 1<;>(rw[CR.sub_def];exact CR.zero_add _)
 have h:=AO JV hv o_;rw[e]at h;exact aV func87 (λ_=>[(wS (a:=0) (b:=0) (c:=0) d_ d_ d_).at 3,h.at 5])
theorem uY{v:V3 K}{k:K}{n:Nat}(hv:aF m v)(hk:Sz n k)(cN:m+n+8<=az):aB prog 94 [bN v,bZ k] (bN (smul v k)):=
 aV func94 (λ_=>[(aAY (u:=cO v) (v:=⟨dM k,dM k,dM k⟩) (z:=cO (smul v k)) (js hv o_) (js (v:=⟨k,k,k⟩) ⟨hk,hk,hk⟩ o_) (nZ hv.1 hk cN) (nZ hv.2.1 hk cN) (nZ hv.2.2 hk cN)).at 11])
theorem tX{u v:V3 K}{n:Nat}(hu:aF m u)(hv:aF n v)(cN:3*(m+n)+16<az):aB prog 118 [bN u,bN v] (bZ (dot u v)):=
 aV func118 (λ_=>[(aAY (u:=cO u) (v:=cO v) (z:=⟨dM (u.x*v.x),dM (u.y*v.y),dM (u.z*v.z)⟩) (js hu o_) (js hv o_) (nZ hu.1 hv.1 o_) (nZ hu.2.1 hv.2.1 o_) (nZ hu.2.2 hv.2.2 o_)).at 9,(tL (hu.1.mul hv.1) (hu.2.1.mul hv.2.1) o_).at 14,(tL ((hu.1.mul hv.1).add (hu.2.1.mul hv.2.1)) (hu.2.2.mul hv.2.2) o_).at 17])
theorem EE{a b c d:K}{n:Nat}(ha:Sz m a)(hb:Sz m b)(hc:Sz n c)(hd:Sz n d)(cN:2*(m+n)+16<az):aB prog 131 [bZ a,bZ b,bZ c,bZ d] (bZ (a*d-b*c)):=
 aV func131 (λ_=>[(nZ ha hd o_).at 11,(nZ hb hc o_).at 14,(As (ha.mul hd) (hb.mul hc) o_).at 15])
theorem uZ{u v:V3 K}{n:Nat}(hu:aF m u)(hv:aF n v)(cN:2*(m+n)+16<az):aB prog 85 [bN u,bN v] (bN (aw u v)):=
 aV func85 (λ_=>[(js hu o_).at 6,(js hv o_).at 10,(EE hu.2.1 hu.2.2 hv.2.1 hv.2.2 cN).at 22,(EE hu.2.2 hu.1 hv.2.2 hv.1 cN).at 31,(EE hu.1 hu.2.1 hv.1 hv.2.1 cN).at 40])
theorem AP{v:V3 K}{n:Nat}(hv:aF n v)(hn:n<=az):aB prog 83 [bN v] (.bool (decide (v=0))):=by have hz:(⟨kI 0,kI 0,kI 0⟩:V3 K)=0:=rfl;exact aV func83 (λ_=>[(wS (a:=0) (b:=0) (c:=0) d_ d_ d_).at 4,.step 5 (au f83 5) _ _ _ _ (Em (neg:=true) k_ (cO v) (cO ⟨kI 0,kI 0,kI 0⟩) (hv.sm hn) (JV.sm d_) (b:=decide (v=0)) (by rw[aq rfl,qC];exact⟨λh=>by rw[h,hz],λh=>NT h⟩))])
def NU:Int->Int->Int->Int:=λa b c=>if a≠0 then a else if b≠0 then b else c
theorem wT{v:i_}(hf:prog.funcs[f]?=some fn)(N:Nat)(rs:∀ w,bK prog (ae.at w) N)(hN:N=(eE 0 l).length+(fn.ntmps-(eE 0 l).length):=by kernel_rfl)(hl:(l.all aJ.ok)=true:=by kernel_rfl)(h:∀ w,nO (gu (P:=prog) fn 100 (eE 0 l) (iY 0 l) (jq 0 l) (rs w)) []=nP (gu fn 100 (eE 0 l) (iY 0 l) (jq 0 l) (rs w)) v []:=by intro _;kernel_rfl)(hv:flat v=true:=by kernel_rfl):cJ prog f l v:=jP mixed hf hl 100 hN rs h hv
theorem aKf(a b c:Int):cJ prog 139 [.r 3 [.int .i64 a,.int .i64 b,.int .i64 c]] (.int .i64 (NU a b c)):=by
 have bl:∀ z:Int,z≠0->(Value.bool (!(z==0)))=.bool true:=λz h=>by congr 1;simpa using h
 unfold NU;by_cases ha:a=0
 ·rw[al (λh=>h ha)];subst ha;by_cases hb:b=0
  ·rw[al (λh=>h hb)];subst hb;by_cases hc:c=0
   ·subst hc;exact wT func139 18 (λ_=>[])
   ·exact wT func139 18 (λ_=>[.rw 14 (.bool (!((0:Int)==0))) a_ rfl,.rw 14 (.bool (!((0:Int)==0))) a_ rfl,.rw 14 _ _ (bl c hc)])
  ·rw[aq hb];exact wT func139 18 (λ_=>[.rw 14 (.bool (!((0:Int)==0))) a_ rfl,.rw 14 _ _ (bl b hb)])
 ·rw[aq ha];exact wT func139 18 (λ_=>[.rw 14 _ _ (bl a ha)])
theorem aAZ(u v:V3 K):NU (OF.aA (u.x-v.x)) (OF.aA (u.y-v.y)) (OF.aA (u.z-v.z))=dQ u v:=rfl
theorem TR{u v:V3 K}{n:Nat}(hu:aF m u)(hv:aF n v)(cN:4*(m+n)+24<=az):aB prog 90 [bN u,bN v] (.int .i64 (dQ u v)):=by rw[<-aAZ];refine aV func90 (λ_=>[(js hu o_).at 6,(js hv o_).at 10,(lE hu.1 hv.1 cN).at 17,(lE hu.2.1 hv.2.1 cN).at 22,(lE hu.2.2 hv.2.2 cN).at 27,.bs f90 28 2 3 3 1 [0,1,2] (.int .i64 0) [.int .i64 (OF.aA (u.x-v.x)),.int .i64 (OF.aA (u.y-v.y)),.int .i64 (OF.aA (u.z-v.z))] #[.int .i64 (OF.aA (u.x-v.x)),.int .i64 (OF.aA (u.y-v.y)),.int .i64 (OF.aA (u.z-v.z))] (.row [.int .i64 (OF.aA (u.x-v.x)),.int .i64 (OF.aA (u.y-v.y)),.int .i64 (OF.aA (u.z-v.z))] 3 1) rfl (aX.1 k_) (aX.1 k_) k_ k_ d_ d_ k_,.step 29 (au f90 29) _ _ _ _ (od (aKf _ _ _) (.w (k:=2) (cc:=0) (x:=.row [.int .i64 (OF.aA (u.x-v.x)),.int .i64 (OF.aA (u.y-v.y)),.int .i64 (OF.aA (u.z-v.z))] 3 1) k_ k_ n_ .nil) (x:=.func 139) k_ k_ k_)])
def cS(p:HS K):RP:=⟨cO p.n,dM p.d⟩
def dr(p:HS K):Value:=(cS p).v
theorem NV{q:HS K}(h:cS p=cS q):p=q:=HS.ext (NT (b9 RP.n h)) (Jk (b9 RP.d h))
def bA(n:Nat)(p:HS K):Prop:=aF n p.n/\Sz n p.d
theorem bA.mono{n:Nat}(h:m<=n)(hp:bA m p):bA n p:=⟨hp.1.mono h,hp.2.mono h⟩
theorem bA.sm{n:Nat}(h:bA n p)(hn:n<=az):(cS p).Sm:=⟨h.1.sm hn,Cn h.2 hn⟩
instance:DecidableEq (HS K):=λp q=>decidable_of_iff (p.n=q.n/\p.d=q.d) ⟨λh=>HS.ext h.1 h.2,λh=>by subst h;exact⟨rfl,rfl⟩⟩
theorem AQ{n:Nat}(hp:bA n p)(hn:n<=az):aB prog 44 [dr p] (.bool (decide (p.n≠0))):=by
 by_cases h:p.n=0
 ·rw[aQ (λe=>e h)];have hz:=AP hp.1 hn;rw[aD h]at hz;exact aV func44 (λ_=>[(js hp.1 hn).at 5,hz.at 9])
 ·rw[aD h];have hz:=AP hp.1 hn;rw[aQ h]at hz;exact aV func44 (λ_=>[(js hp.1 hn).at 5,hz.at 9,(km hp.2 hn).at 15])
theorem JW{v:V3 K}{n:Nat}(hp:bA m p)(hv:aF n v)(cN:4*(3*(m+n)+14+m)+30<=az)(h:p.n≠0):aB prog 71 [dr p,bN v] (.int .i64 (OF.aA (dot p.n v-p.d))):=by have h1:=AQ hp o_;rw[aD h]at h1;exact aV func71 (λ_=>[h1.at 6,(js hv o_).at 10,(tX hp.1 hv o_).at 16,(lE (hp.1.dot hv) hp.2 o_).at 19])
theorem aKg{x y:K}{n:Nat}(h:y≠0)(hx:Sz m x)(hy:Sz n y)(cN:m+7*n+40<=az):aB prog 201 [bZ x,bZ y] (bZ (x*y⁻¹)):=
 aV func201 (λ_=>[(GK h hx hy cN).at 10])
theorem Sz.rF{x:K}{n:Nat}(h:Sz n x):Sz n (rF x):=by
 unfold _root_.Go.Proofs.YthccllenbnhogaaGreatDoor.rF;split
 ·exact h.neg
 ·exact h
theorem TS{x:K}(h:x≠0):rF x≠0:=by
 unfold rF;split
 ·intro e;apply h;have:=b9 (λz:K=>-z) e;rwa[CR.neg_neg,CR.neg_zero]at this
 ·exact h
def rK(x:K):K:=kI 1*(rF x)⁻¹
def CD(p:HS K)(x:K):HS K:=⟨smul p.n (rK x),p.d*rK x⟩
def AR(v:V3 K):K:=if v.x≠0 then v.x else if v.y≠0 then v.y else v.z
def canon(p:HS K):HS K:=CD p (AR p.n)
theorem aKh{v:V3 K}(h:v≠0):AR v≠0:=by
 unfold AR;by_cases hx:v.x=0
 ·rw[al (λe=>e hx)];by_cases hy:v.y=0
  ·rw[al (λe=>e hy)];exact λhz=>h (V3.ext hx hy hz)
  ·rw[aq hy];exact hy
 ·rw[aq hx];exact hx
theorem Sz.rK{x:K}{n:Nat}(hx:x≠0)(h:Sz n x):Sz (7*n+29) (rK x):=(Sz.div (m:=1) (TS hx) (qs d_ d_) h.rF).mono o_
theorem bA.CD{p:HS K}{n:Nat}(hp:bA n p){x:K}(hx:x≠0)(h:Sz n x):bA (8*n+33) (CD p x):=⟨(hp.1.smul (h.rK hx)).mono o_,(hp.2.mul (h.rK hx)).mono o_⟩
theorem aKi{v:V3 K}{n:Nat}(h:aF n v):Sz n (AR v):=by
 unfold AR;split
 ·exact h.1
 ·split
  ·exact h.2.1
  ·exact h.2.2
theorem bA.canon{p:HS K}{n:Nat}(hp:bA n p)(h:p.n≠0):bA (8*n+33) (canon p):=hp.CD (aKh h) (aKi hp.1)
theorem aKj(r:RV)(ho:da o.op=some x):ct prog B o (.func (.func 200) #[] #[]::[r.v]) [(k,none)] (.func (.func 227) #[] #[.pointer (some ⟨k,0,some 7⟩)]) [(k,.aH r.cs 42)]:=
 aAd mixed func200 ho k_ 50 (λ_=>[]) (λ_=>k_) k_ k_
def zI:RI:=⟨false,[]⟩
def zN:RN:=⟨zI,zI,zI,zI,zI⟩
def zV:RV:=⟨zN,zN,zN⟩
def zP:RP:=⟨zV,zN⟩
def u4(r q:RP):aC:=[(0,.aH r.cs 66),(1,.aH q.cs 66),(2,.aH [.int .i64 0] 29),(3,.aH r.n.cs 42)]
def G1:aL:=[(1,bY 0),(2,bY 1),(3,bY 2),(12,.func (.func 227) #[] #[bY 3])]
theorem aKk(r:RP):ag prog B 31 (Cv f144 0) (jL 0 [r.v]) [] 0 ⟨.normal,[(1,bY 0),(2,bY 1),(3,bY 2)],[(0,.aH r.cs 66),(1,.aH zP.cs 66),(2,.aH [.int .i64 0] 29)],3⟩:=
 fo mixed 10 [] k_
def aKl:Code->Code|.seq _ y=>(match y with|.seq x _=>x|c=>c)|c=>c
def aKm(fn:Func):Code:=match fn.body with|some c=>c|none=>.skip
theorem aKn(r:RP)(hv:aB prog 44 [r.v] b_):ag prog B 31 (aKl (aKm f144)) [(1,bY 0),(2,bY 1),(3,bY 2)] [(0,.aH r.cs 66),(1,.aH zP.cs 66),(2,.aH [.int .i64 0] 29)] 3
  ⟨.normal,[(1,bY 0),(2,bY 1),(3,bY 2)],[(0,.aH r.cs 66),(1,.aH zP.cs 66),(2,.aH [.int .i64 0] 29)],3⟩:=
 fo mixed 10 [hv.at 7] k_
theorem aKo(r:RP):ag prog B 31 (Cv f144 3) [(1,bY 0),(2,bY 1),(3,bY 2)] [(0,.aH r.cs 66),(1,.aH zP.cs 66),(2,.aH [.int .i64 0] 29)] 3 ⟨.normal,G1,u4 r zP,4⟩:=
 fo mixed 10 [.step 12 (au f144 12) _ _ _ _ (aKj (k:=3) (x:=.func 200) r.n k_)] k_
theorem aKp{n:Nat}(hp:bA n p){x:K}(hx:Sz n x)(hn:16*n+80<=az):
  GQ prog 4 5 31 #[13] (Az (oR f144)) (AA (oR f144)) G1 (u4 (cS p) zP) [] (u4 (cS p) (if x=0 then zP else cS (CD p x))) [] [bZ x] (if x=0 then none else some .ret):=by
 have hs:=mO hx o_;by_cases h:x=0
 ·rw[aq h,aq h];have e:OF.aA x=0:=(OF.eZ x).2 h;rw[e]at hs
  exact Jx [] (rA:=⟨.normal,(4,bY 5)::G1,(5,.aH (dM x).cs 40)::u4 (cS p) zP,6⟩) (rB:=⟨.normal,[],u4 (cS p) zP,6⟩) k_ k_ k_ d_ (Tj k_) (GS k_ []) k_ (Jz k_) k_ rfl k_ (λB=>fo mixed 10 [] k_) rfl k_ rfl
   (λB=>fo mixed 10 [hs.at 15,.rw 16 (.bool (!((0:Int)==0))) a_ rfl] k_) (λk x h=>h) rfl
 ·rw[al h,al h];have e:OF.aA x≠0:=λe=>h ((OF.eZ x).1 e)
  exact Jx [] (rA:=⟨.normal,(4,bY 5)::G1,(5,.aH (dM x).cs 40)::u4 (cS p) zP,6⟩) (rB:=⟨.ret,[],u4 (cS p) (cS (CD p x)),7⟩) k_ k_ k_ d_ (Tj k_) (GS k_ []) k_ (Jz k_) k_ rfl k_ (λB=>fo mixed 10 [] k_) rfl k_ rfl
   (λB=>fo mixed 10 [hs.at 15,.rw 16 (.bool (!(OF.aA x==0))) b_ (by congr 1;simpa using e),(sK (z:=1) d_).at 17,(SX hx o_).at 19,(aKg (TS h) (qs (z:=1) (n:=1) d_ d_) hx.rF o_).at 20,(uY hp.1 (hx.rK h) o_).at 24,(nZ hp.2 (hx.rK h) o_).at 28] k_) (λk x h=>h) rfl
theorem aKq{n:Nat}(hp:bA n p)(hn:16*n+80<=az)(aY:p.n≠0){T:p_}{m:Map}:
  Jt prog 4 31 #[13] (Az (oR f144)) (AA (oR f144)) G1 (u4 (cS p) zP) [] (u4 (cS p) (cS (canon p))) m T 227 [bY 3] (some .ret):=by
 refine JA mixed func227 rfl 100 (v:=.tuple #[]) λob cv l D W1 S=>?_;have st:=λ(t:Nat) (o:Oper) (ho:da o.op=some (.tmp t)) (x:K) (hx:Sz n x)=>S8 (S:=S) (W1:=W1) (l:=l) (D:=D) (cv:=cv) (x:=.tmp t) (o:=o) (aKp hp hx hn) ho ob
 have s1:=st 3 (au f227 6) k_ p.n.x hp.1.1;have s2:=st 8 (au f227 11) k_ p.n.y hp.1.2.1;have s3:=st 14 (au f227 17) k_ p.n.z hp.1.2.2;have hc:canon p=CD p (AR p.n):=rfl;unfold AR at hc;by_cases hx:p.n.x=0
 ·rw[al (λe=>e hx)]at hc;rw[aq hx,aq hx]at s1;by_cases hy:p.n.y=0
  ·rw[al (λe=>e hy)]at hc;rw[aq hy,aq hy]at s2;have hz:p.n.z≠0:=λhz=>aY (V3.ext hx hy hz);rw[al hz,al hz,<-hc]at s3;exact⟨[.step 6 _ _ _ _ _ s1,.step 11 _ _ _ _ _ s2,.step 17 _ _ _ _ _ s3],k_⟩
  ·rw[aq hy]at hc;rw[al hy,al hy,<-hc]at s2;exact⟨[.step 6 _ _ _ _ _ s1,.step 11 _ _ _ _ _ s2],k_⟩
 ·rw[aq hx]at hc;rw[al hx,al hx,<-hc]at s1;exact⟨[.step 6 _ _ _ _ _ s1],k_⟩
theorem JX{n:Nat}(hp:bA n p)(hn:16*n+80<=az)(aY:p.n≠0):aB prog 144 [dr p] (.tuple #[dr (canon p),.int .i64 0]):=by have hv:=AQ hp o_;rw[aD aY]at hv;refine aAc (N:=31) func144 rfl rfl k_ λw a hf hm=>?_;refine lp (aKk (cS p) none _ _ a w _ hf hm n_ (λ_ _=>rfl) λsC cc0 a0 w0 aAe zG jJ mG ye JC _=>?_);refine lp (aKn (cS p) hv none _ _ a0 w0 _ zG jJ mG ye λbF fV a1 w1 iK gN cP dT du gE _=>?_);refine lp (lp (aKo (cS p) none _ _ a1 w1 _ gN cP dT du λdf qa a2 w2 ke iU dz fO ew fT _=>Ij ?_));refine Tg (next:=4) (next':=4) (ns:=[]) (Os:=u4 (cS p) zP) (Vs:=[]) (ck:=u4 (cS p) (cS (canon p))) (gf:=227) (ca:=[bY 3]) (j:=some .ret) iU dz fO ew k_ k_ k_ k_ k_ k_ k_ k_ (aZ _) k_ (GS k_ []) (aKq hp hn aY) λD κ bP w' Cu hDw _ TT uy Ax Te=>?_;refine wpIn_ret (aAb (B:=ae.at w) (fr:=G1) (M:=u4 (cS p) (cS (canon p))++[]) (v:=.tuple #[dr (canon p),.int .i64 0]) k_ TT uy Ax rfl (λF h=>h) Cu λao cc v' w' hc hG _=>⟨?_,hG.base⟩);rw[hc.eW rfl]
theorem TU{q:HS K}{n:Nat}(hp:bA m p)(hq:bA n q)(hm:16*m+80<=az)(hn:16*n+80<=az)(mg:p.n≠0)(EF:q.n≠0):aB prog 97 [dr p,dr q] (.bool (decide (canon p=canon q))):=
 aV func97 (λ_=>[(JX hp hm mg).at 11,(JX hq hn EF).at 16,.step 28 (au f97 28) _ _ _ _ (SF (neg:=true) k_ (cS (canon p)) (cS (canon q)) ((hp.canon mg).sm o_) ((hq.canon EF).sm o_) (b:=decide (canon p=canon q)) (by rw[aq rfl,qC];exact⟨λh=>by rw[h],λh=>NV h⟩))])
end
section
variable{P:j_}{B:ae}{w w4:h_}{K:Nat}{S:Nat->Prop}{ι:Map}{c:g_}{ns:l_}
theorem aKr{c:Code}(hf:P.funcs[f]?=some fn)(hb:fn.body=some c)(hN:N=(eE 0 l).length+(fn.ntmps-(eE 0 l).length))(hl:(l.all aJ.ok)=true){w:h_}{R:Ending->World->Prop}
  (h:∀ ι cc a,fk (ae.at w) ι (bt (jL 0 (eE 0 l))) N a->aI (ae.at w) ι cc w->cT cc (iY 0 l)->eA cc (jq 0 l)->c.wpIn (FW none) 0 P (bodyPostM (FW none) 0 P fn R) a w) {args:ak} (cB:tT w l args):Calls P f args.toArray w R:=by
 obtain⟨ι,cc,h1,h2,h3,h4,h5,h6,h7⟩:=wL cB (aX.1 hl) 0 _ _ (sj w) n_ (λ_ _=>rfl);refine H8.1 (callsIn_of_wp_marks (F:=FW none) (n:=0) hf hb trivial (h ι cc _ ?_ h2 h4 h3));have:=aAa (B:=ae.at w) (fn:=fn) (N:=N) h6 hN rfl;simpa using this
def yD(P:j_)(f:FuncId)(K:Nat)(args:ak)(Os Vs:aC)(val:i_)(ck:aC):Prop:=
 ∀ B:ae,B.ds=[]->∀(ι:Map) (c:g_) (w:h_) (args':ak),aI B ι c w->cT c (Os++Vs)->eA c K->bJ (aG ι) args args'->
  Calls P f args'.toArray w λe w'=>∃ v' ao c',e=.returned v'/\Map.le ι ao/\aG ao val v'/\aI B ao c' w'/\cT c' ck/\∀ k,k<K->ah (Os++Vs) k=none->c' k=c k
theorem oh{val:i_}(gV:P.follows .mixedOrders=true)(hf:P.funcs[f]?=some fn)(n:Nat)(hN:N=args.length+(fn.ntmps-args.length))(rs:∀ B,bK P B N)
  (h:∀ B,nO (gu (P:=P) fn n args (Os++Vs) K (rs B)) ck=nP (gu fn n args (Os++Vs) K (rs B)) val ck):yD P f K args Os Vs val ck:=by
 intro B lV ι c w args' hm ha hu dw;exact QG gV hf hN n (h B) dw hm ha hu (λao bP v' w' hle hc bh dD hk=>⟨v',ao,bP,rfl,hle,hc,bh,λk x e=>dD (k,x) (iy e),hk⟩) lV
theorem aA0{val:i_}(h:yD P f K (args++ca) Os Vs val ck)(ho:da o.op=some x)(eB:fN P f=true)(qf:pF K ns val=true)
  (dw:(args++ca).all (mH K)=true) (di:((Os++Vs).all λp=>Nat.blt p.1 K&&lF K p)=true) (ax:∀ p∈ck,∀ v∈p.2.cells,pF K ns v=true) (ek:(Os.all λp=>p.2.owns)=true) (tP:∀ p∈ck,p.2.owns=true\/p.2=.dead) (jG:(Vs.all λp=>p.2.soft)=true)
  (kE:∀ k,ah ck k=none↔(ah Os k=none/\ns.contains k=false)) :
  ct P B o (.func (.func f) #[] ca.toArray::args) (((Os++Vs).map λp=>(p.1,some p.2))++ns.map λk=>(k,none)) val ck:=by
 have:=jy (P:=P) (B:=B) (o:=o) (x:=x) (f:=f) (fi:=[]) (args:=args) (ca:=ca) (need:=((Os++Vs).map λp=>(p.1,some p.2))++ns.map λk=>(k,none)) (val:=val) (cK:=ck) ho eB ?_
 ·simpa using this
 ·intro ι c w hm hn args' ha;rw[jg]at ha;have hL:cT c (Os++Vs):=S6 λp hp=>hn p (fm.2 (.inl hp));have Lj:∀ k,ns.contains k=true->c k=none:=λk hk=>hn (k,none) (fm.2 (.inr (dq.2 ⟨k,by simpa using hk,rfl⟩)));have aA1:∀ k x,ah (Os++Vs) k=some x->k<K/\fW K x:=λk x e=>by have:=Au di e;simp only[cY,xP]at this;exact⟨this.1,Ni this.2⟩
  obtain⟨S,hS,Td,Jr,wF⟩:=aIU hm hL aA1 (λk x e=>Au ek e) (λk x e=>Au jG e);have bX:bJ (aG (wK ι K)) (args++ca) args':=by
   have key:∀{l l':ak},bJ (aG ι) l l'->(∀ v∈l,mH K v=true)->bJ (aG (wK ι K)) l l':=by
    intro l l' h hl;induction h with
    |nil=>exact .nil
    |cons h t ih=>exact .cons (h.low (λk hk l e=>by rw[GN hk];exact e) (hl _ (aN ..))) (ih λc hc=>hl c (bB _ hc))
   exact key ha (aX.1 dw)
  refine(h (ae.Nk w S) rfl _ _ w args' Td Jr wF bX).mono ?_
  rintro e w' ⟨v',ao,c',rfl,hle,hc,bh,Av,gM⟩
  have Nr:=ZN hm bh hle (λk hk e=>(gM k hk (GO Jr e)).trans e) hL;obtain⟨g1,g2⟩:=ZJ (ns:=ns) hm (λk x e=>hL k x (by rw[jh,e])) (λk x e=>Au ek e) (λk x e=>tP _ (iy e)) kE Lj hS bh Av Nr (λk x e=>ax _ (iy e)) λk x e=>(aA1 k x (by rw[jh,e])).1;exact⟨_,v',rfl,g1,ZH Nr qf hc,g2⟩
theorem NW{val:i_}(h:yD P f K (args++ca) Os Vs val ck)(ho:da o.op=some x)(eB:fN P f=true)(qf:mH K val=true)
  (dw:(args++ca).all (mH K)=true) (di:((Os++Vs).all λp=>Nat.blt p.1 K&&lF K p)=true) (Jy:(ck.all (lF K))=true) (ek:(Os.all λp=>p.2.owns)=true) (tP:(ck.all λp=>p.2.owns)=true) (jG:(Vs.all λp=>p.2.soft)=true) (kE:ck.map (·.1)=Os.map (·.1)) :
  ct P B o (.func (.func f) #[] ca.toArray::args) ((Os++Vs).map λp=>(p.1,some p.2)) val ck:=by
 have:=aA0 (P:=P) (B:=B) (ns:=[]) (o:=o) (x:=x) h ho eB (by unfold pF;rw[qf];rfl) dw di (GS Jy []) ek (Jz tP) jG (S3 (by rw[kE,gO]));rwa[Mi,gO]at this
theorem aKs{val:i_}(h:yD P f K (args++ca) Os Vs val Os)(ho:da o.op=some x)(eB:fN P f=true)(qf:mH K val=true)
  (dw:(args++ca).all (mH K)=true) (di:((Os++Vs).all λp=>Nat.blt p.1 K&&lF K p)=true) (Jy:(Os.all (lF K))=true) (ek:(Os.all λp=>p.2.owns)=true) (jG:(Vs.all λp=>p.2.soft)=true) :
  ct P B o (.func (.func f) #[] ca.toArray::args) ((Os++Vs).map λp=>(p.1,some p.2)) val []:=by
 intro R ι c a w hv hm hn Kt Q hK;refine NW h ho eB qf dw di Jy ek ek jG rfl R ι c a w hv hm hn Kt Q λao v' w' h1 h2 h3=>hK ao v' w' h1 h2 ?_;have hL:cT c (Os++Vs):=S6 hn;refine h3.ext λk=>?_;show c k=kP c Os k;rw[vF];cases e:ah Os k with
 |none=>rfl
 |some y=>exact hL k y (by rw[jh,e])
end
section
variable{α:Type}(enc:α->ak)
def cr(l:List α):ak:=l.flatMap enc
structure pK(s:Nat):Prop where
 len:∀ x,(enc x).length=s
 flat:∀ x,∀ v∈enc x,flat v=true
 one:∀ x,∀ v∈enc x,v.oneCell'=true
variable{enc}{s:Nat}
theorem CE(x:α)(l:List α):cr enc (x::l)=enc x++cr enc l:=rfl
theorem JY(l m:List α):cr enc (l++m)=cr enc l++cr enc m:=by unfold cr;rw[JZ]
theorem rL(h:pK enc s):∀ l:List α,(cr enc l).length=l.length*s
 |[]=>by simp[cr]
 |x::l=>by rw[CE,jW,h.len,rL h l,pU,tC,lW]
theorem G2(h:pK enc s)(l:List α):∀ v∈cr enc l,Go.Proofs.YthccllenbnhogaaGreatDoor.flat v=true:=λv hv=>by unfold cr at hv;rw[CF]at hv;obtain⟨x,_,hx⟩:=hv;exact h.flat x v hx
theorem iZ(h:pK enc s)(l:List α):(cr enc l).all Go.Proofs.YthccllenbnhogaaGreatDoor.flat=true:=aX.2 (G2 h l)
theorem TV(h:pK enc s):∀(l:List α) (m:Nat),(cr enc l).drop (m*s)=cr enc (l.drop m)
 |l,0=>by simp
 |[],m+1=>by simp[cr]
 |x::l,m+1=>by rw[CE,tC,lW,<-L6,P2 (h.len x),TV h l m,List.drop_succ_cons]
theorem TW(h:pK enc s):∀(l:List α) (m:Nat),(cr enc l).take (m*s)=cr enc (l.take m)
 |l,0=>by simp[cr]
 |[],m+1=>by simp[cr]
 |x::l,m+1=>by rw[CE,tC,lW,List.take_succ_cons,CE,aA2,h.len,D0,TW h l m,jN (by rw[h.len];omega)]
theorem NX(h:pK enc s){l:List α}{x:α}(hx:l[i]?=some x):((cr enc l).drop (i*s)).take s=enc x:=by
 rw[TV h];have av:=(eD.1 hx).1;have e:l.drop i=x::l.drop (i+1):=by
  rw[aKt av]
  congr 1
  exact(eD.1 hx).2
 rw[e,CE,P1 (h.len x)]
theorem NY:∀(vs a b:ak) (o:Nat),iv (a++b) (a.length+o) vs=a++iv b o vs
 |[],a,b,o=>rfl
 |v::vs,a,b,o=>by unfold iv;rw[TX _ _ o_,D0,tt,NY vs]
theorem TY:∀(vs a b:ak),a.length=vs.length->iv (a++b) 0 vs=vs++b
 |[],a,b,h=>by rw[j9 h];rfl
 |v::vs,[],b,h=>by cases h
 |v::vs,u::a,b,h=>by unfold iv;rw[FY,List.set_cons_zero];have:=NY vs [v] (a++b) 0;rw[J0]at this;rw[jv];have e:iv (v::(a++b)) 1 vs=v::iv (a++b) 0 vs:=this;rw[e,TY vs a b (by simpa using h)];rfl
theorem aA3(h:pK enc s):∀{l:List α} {i:Nat} {y:α},i<l.length->iv (cr enc l) (i*s) (enc y)=cr enc (l.set i y)
 |x::l,0,y,_=>by rw[kT,CE,TY _ _ _ (by rw[h.len,h.len])];rfl
 |x::l,i+1,y,hi=>by rw[tC,lW,CE];have:=NY (enc y) (enc x) (cr enc l) (i*s);rw[h.len]at this;rw[this,aA3 h (by simpa using hi),List.set_cons_succ,CE]
variable{P:j_}
def G3(P:j_)(t:TypeId):Option Nat:=match P.underlying t,P.info? t with
 |some d,some i=>if d.isRow then some i.size else none
 |_,_=>none
theorem aA4(h:pK enc s){t:TypeId}(ht:G3 P t=some s){l:List α}{x:α}(hx:l[i]?=some x):dB P t (cr enc l) (i*s)=some (.agg (enc x).toArray):=by
 unfold G3 at ht;split at ht
 ·rename_i d inf h1 h2;split at ht
  ·rename_i hr;injection ht with ht;unfold dB;rw[h1,h2];dsimp only;have av:=(eD.1 hx).1;have:(i+1)*s<=l.length*s:=eR s av;rw[tC]at this;rw[aq hr,ht,aq (by rw[Nat.ble_eq,rL h];exact this),NX h hx]
  ·cases ht
 ·cases ht
theorem aKu(h:pK enc s){t:TypeId}(ht:G3 P t=some s){l:List α}{y:α}(hi:i<l.length):eM P t (cr enc l) (i*s) (.agg (enc y).toArray)=some (cr enc (l.set i y)):=by
 unfold G3 at ht;split at ht
 ·rename_i d inf h1 h2;split at ht
  ·rename_i hr;injection ht with ht;unfold eM;rw[h2];dsimp only;have hc:(Value.agg (enc y).toArray).cells.toList=enc y:=rfl;have hs:(Value.agg (enc y).toArray).cells.size=s:=by show(enc y).toArray.size=s;rw[Lk,h.len]
   have:(i+1)*s<=l.length*s:=eR s hi;rw[tC]at this;rw[aq (by simp only[cY,Nat.ble_eq];refine⟨⟨by rw[hs,ht];simp,by rw[hs,rL h];exact this⟩,aX.2 λv hv=>h.one y v (by rwa[hc]at hv)⟩),hc,aA3 h hi]
  ·cases ht
 ·cases ht
end
section
open V3 (dot aw cV smul)
theorem iR:pK RV.cs 30 where
 len r:=rfl
 flat r:=RV.mN r
 one r v hv:=by simp only[RV.cs,RN.cs,fm,ch,fF,fG]at hv;rcases hv with (h|h|h|h|h|h|h|h|h|h)|(h|h|h|h|h|h|h|h|h|h)|(h|h|h|h|h|h|h|h|h|h)<;>subst h<;>rfl
theorem iD:pK RP.cs 40 where
 len r:=rfl
 flat r v hv:=by
  simp only[RP.cs,fm]at hv;rcases hv with h|h
  ·exact RV.mN _ v h
  ·exact RN.mN _ v h
 one r v hv:=by
  simp only[RP.cs,fm]at hv;rcases hv with h|h
  ·exact iR.one _ v h
  ·simp only[RN.cs,ch,fF,fG]at h;rcases h with (h|h|h|h|h|h|h|h|h|h)<;>subst h<;>rfl
abbrev db(l:List RP):ak:=cr RP.cs l
abbrev dj(l:List RV):ak:=cr RV.cs l
theorem u5{l:List RP}{p:RP}(h:l[i]?=some p):dB prog 66 (db l) (i*40)=some p.v:=aA4 iD k_ h
theorem tY{l:List RV}{p:RV}(h:l[i]?=some p):dB prog 42 (dj l) (i*30)=some p.v:=aA4 iR k_ h
def AU{α:Type}(b:α->Bool):List α->Nat->Int
 |[],_=>-1
 |x::l,i=>if b x then(i:Int)else AU b l (i+1)
theorem NZ{α:Type}{b:α->Bool}:∀{l:List α} (i:Nat),(∀ x∈l,b x=false)->AU b l i=-1
 |[],_,_=>rfl
 |x::l,i,h=>by unfold AU;rw[h x (aN ..),NZ (i+1) λy hy=>h y (bB _ hy)];rfl
theorem N0{α:Type}{b:α->Bool}:∀{l:List α} {e:Nat} {x:α} (i:Nat),l[e]?=some x->b x=true->(∀(j:Nat) (y:α),j<e->l[j]?=some y->b y=false)->AU b l i=((i+e:Nat):Int)
 |[],e,x,i,h,_,_=>by simp at h
 |y::l,0,x,i,h,hx,_=>by simp at h;subst h;unfold AU;rw[hx];rfl
 |y::l,e+1,x,i,h,hx,hb=>by unfold AU;rw[hb 0 y o_ rfl,N0 (i+1) (by simpa using h) hx λj z hj hz=>hb (j+1) z o_ (by simpa using hz)];simp;omega
theorem EG{α:Type}(b:α->Bool):∀(l:List α),(∀ x∈l,b x=false)\/∃(e:Nat) (x:α),l[e]?=some x/\b x=true/\∀(j:Nat) (y:α),j<e->l[j]?=some y->b y=false
 |[]=>.inl n_
 |x::l=>by
  cases hx:b x with
  |true=>exact .inr ⟨0,x,rfl,hx,λj y hj=>by omega⟩
  |false=>
   rcases EG b l with h|⟨e,y,h1,h2,h3⟩
   ·refine .inl λy hy=>?_;rcases ch.1 hy with rfl|hy
    ·exact hx
    ·exact h y hy
   ·refine .inr ⟨e+1,y,by simpa using h1,h2,λj z hj hz=>?_⟩;cases j with
    |zero=>simp at hz;subst hz;exact hx
    |succ j=>exact h3 j z o_ (by simpa using hz)
theorem aA5{b:α->Bool}{l:List α}:decide (AU b l 0>=0)=l.any b:=by
 rcases EG b l with h|⟨e,x,h1,h2,h3⟩
 ·rw[NZ 0 h];have:l.any b=false:=by rw[Ig];intro x hx;rw[h x hx];simp
  rw[this];rfl
 ·rw[N0 0 h1 h2 h3];have:l.any b=true:=r6.2 ⟨x,cL h1,h2⟩;rw[this,qC];omega
section
variable{Bs:ae}{g:FuncId}{ps:List RP}{caps:ak}{b:RP->Bool}
def TZ(g:FuncId):Value:=.func (.func g) #[] #[bY 1]
def yE(g:FuncId)(n i:Nat):aL:=[(8,vI i),(6,sl 0 n),(7,vI n),(0,sl 0 n),(1,TZ g)]
def sL(ps:List RP)(caps:ak):aC:=[(0,.view (db ps)),(1,.view caps)]
noncomputable def ifS{p:RP}{b:Bool}(hc:fN prog g=true)(jf:caps.all flat=true)(hi:i<ps.length)(hp:ps[i]?=some p)(h:cJ prog g [.p p.v,.q caps] (.bool b))(more:bK prog Bs 19):bK prog Bs 19:=
 .lt 9 i ps.length true (aD hi)::.de f82 14 0 ps.length i 40 hi k_::.ld f82 15 66 0 (i*40) (.view (db ps)) p.v rfl (u5 hp) k_::
  .step 16 (au f82 16) [TZ g,p.v] [(1,some (.view caps))] (.bool b) [] (aJi (vs:=[p.v]) (ca:=[bY 1]) (x:=.tmp 11) h (.p rfl (.q (x:=.view caps) rfl jf .nil)) k_ hc rfl)::more
theorem aKv{p:RP}(hc:fN prog g=true)(jf:caps.all flat=true)(hi:i<ps.length)(hp:ps[i]?=some p)(h:cJ prog g [.p p.v,.q caps] a_)(h63:ps.length<9223372036854775807):
  ag prog Bs 19 (aE (af f82 0)) (yE g ps.length i) (sL ps caps) 2 ⟨.normal,yE g ps.length (i+1),sL ps caps,2⟩:=
 ay (ifS hc jf hi hp h [.sum 18 i 1 (i+1) rfl o_])
theorem aKw{p:RP}(hc:fN prog g=true)(jf:caps.all flat=true)(hi:i<ps.length)(hp:ps[i]?=some p)(h:cJ prog g [.p p.v,.q caps] b_):
  ag prog Bs 19 (aE (af f82 0)) (yE g ps.length i) (sL ps caps) 2 ⟨.ret,[(4,vI i)],sL ps caps,2⟩:=
 ay (ifS hc jf hi hp h [])
theorem aKx:ag prog Bs 19 (aE (af f82 0)) (yE g ps.length ps.length) (sL ps caps) 2 ⟨.exit 0,[],sL ps caps,2⟩:=
 ay [.lt 9 ps.length ps.length false s_]
theorem dR{v:i_}(hf:prog.funcs[f]?=some fn)(hl:(l.all aJ.ok)=true)(N:Nat)(rs:∀ w,bK prog (ae.at w) N)(hN:N=(eE 0 l).length+(fn.ntmps-(eE 0 l).length):=by kernel_rfl)(h:∀ w,nO (gu (P:=prog) fn 100 (eE 0 l) (iY 0 l) (jq 0 l) (rs w)) []=nP (gu fn 100 (eE 0 l) (iY 0 l) (jq 0 l) (rs w)) v []:=by intro _;kernel_rfl)(hv:flat v=true:=by kernel_rfl):cJ prog f l v:=jP mixed hf hl 100 hN rs h hv
theorem aKy(hc:fN prog g=true)(jf:caps.all flat=true)(h63:ps.length<9223372036854775807)(h:∀ p∈ps,cJ prog g [.p p.v,.q caps] (.bool (b p))):cJ prog 82 [.r ps.length (db ps),.f g caps] (.int .i64 (AU b ps 0)):=by
 have ax:([aJ.r ps.length (db ps),.f g caps].all aJ.ok)=true:=by simp only[fp,gm,aJ.ok,iZ iD,jf,AV]
 have pL:∀(B:ae) e,e<=ps.length->(∀ j y,j<e->ps[j]?=some y->b y=false)->∀ i,i<e->ag prog B 19 (aE (af f82 0)) (yE g ps.length i) (sL ps caps) 2 ⟨.normal,yE g ps.length (i+1),sL ps caps,2⟩:=λB e he hb i hi=>by
  have av:i<ps.length:=by omega
  have hp:ps[i]?=some ps[i]:=bd av;have hh:=h ps[i] (eh av);rw[hb i ps[i] hi hp]at hh;exact aKv hc jf av hp hh h63
 rcases EG b ps with hn|⟨e,x,h1,h2,h3⟩
 ·rw[NZ 0 hn];have lo:∀ B:ae,ag prog B 19 (.block 0 (af f82 0)) (yE g ps.length 0) (sL ps caps) 2 ⟨.normal,[],sL ps caps,2⟩:=λB=>
   bO (id:=0) (cg ps.length (λi=>yE g ps.length i) (λ_=>sL ps caps) (λi k _=>Iff.rfl) (pL B ps.length (aZ _) λj y _ hy=>hn y (cL hy)) aKx n_)
  exact dR func82 ax 19 (λw=>[.code 0 _ _ _ _ _ (lo _)])
 ·have av:=(eD.1 h1).1;have hh:=h x (cL h1);rw[h2]at hh;rw[N0 0 h1 h2 h3,jv];have lo:∀ B:ae,ag prog B 19 (.block 0 (af f82 0)) (yE g ps.length 0) (sL ps caps) 2 ⟨.ret,[(4,vI e)],sL ps caps,2⟩:=λB=>
   bO (id:=0) (cg e (λi=>yE g ps.length i) (λ_=>sL ps caps) (λi k _=>Iff.rfl) (pL B e o_ h3) (aKw hc jf av h1 hh) n_)
  exact dR func82 ax 19 (λw=>[.code 0 _ _ _ _ _ (lo _)])
theorem aKz(hc:fN prog g=true)(jf:caps.all flat=true)(h63:ps.length<9223372036854775807)(h:∀ p∈ps,cJ prog g [.p p.v,.q caps] (.bool (b p))):cJ prog 42 [.r ps.length (db ps),.f g caps] (.bool (ps.any b)):=by
 have ax:([aJ.r ps.length (db ps),.f g caps].all aJ.ok)=true:=by simp only[fp,gm,aJ.ok,iZ iD,jf,AV]
 rw[<-aA5];exact dR func42 ax 9 (λw=>[.cR f42 7 [sl 0 ps.length,TZ g] (aKy hc jf h63 h) (.w (x:=.view (db ps)) rfl (iZ iD ps) (λh=>by rw[j9 h];rfl) (.f (x:=.view caps) rfl jf .nil))])
end
def bw(ps:List (HS K)):ak:=db (ps.map cS)
def ee(ps:List (HS K)):aJ:=.r ps.length (bw ps)
theorem dF(ps:List (HS K)):(bw ps).all flat=true:=iZ iD _
theorem yF(h:ps[i]?=some p):dB prog 66 (bw ps) (i*40)=some (dr p):=u5 (by rw[xN,h];rfl)
theorem j4(h:ps.length=0):bw ps=[]:=by rw[j9 h];rfl
def aW(vs:List (V3 K)):ak:=dj (vs.map cO)
def tZ(vs:List (V3 K)):aJ:=.r vs.length (aW vs)
theorem eH(vs:List (V3 K)):(aW vs).all flat=true:=iZ iR _
theorem nC{vs:List (V3 K)}{v:V3 K}(h:vs[i]?=some v):dB prog 42 (aW vs) (i*30)=some (bN v):=tY (by rw[xN,h];rfl)
theorem wU{vs:List (V3 K)}(h:vs.length=0):aW vs=[]:=by rw[j9 h];rfl
open Classical in
theorem T0{g:FuncId}{caps:ak}{b:HS K->Bool}(hc:fN prog g=true)(jf:caps.all flat=true)(h63:ps.length<9223372036854775807)(h:∀ p∈ps,cJ prog g [.p (dr p),.q caps] (.bool (b p))):
  cJ prog 42 [ee ps,.f g caps] (.bool (ps.any b)):=by
 have:=aKz (g:=g) (caps:=caps) (ps:=ps.map cS) (b:=λr=>if hr:∃ p∈ps,cS p=r then b hr.choose else false) hc jf (by rw[gF];exact h63) (λr hr=>by obtain⟨p,hp,rfl⟩:=dq.1 hr;have hex:∃ q∈ps,cS q=cS p:=⟨p,hp,rfl⟩;rw[dif_pos hex];have e:hex.choose=p:=NV hex.choose_spec.2;rw[e];exact h p hp)
 rw[gF]at this;have e:(ps.map cS).any (λr=>if hr:∃ p∈ps,cS p=r then b hr.choose else false)=ps.any b:=by
  rw[List.any_map];have:∀ l:List (HS K),(∀ p∈l,p∈ps)->l.any ((λr=>if hr:∃ p∈ps,cS p=r then b hr.choose else false)∘cS)=l.any b:=by
   intro l;induction l with
   |nil=>intro _;rfl
   |cons p l ih=>
    intro hl;rw[List.any_cons,List.any_cons,ih λq hq=>hl q (bB _ hq)];refine b9 (·||l.any b) ?_;have hex:∃ q∈ps,cS q=cS p:=⟨p,hl p (aN ..),rfl⟩;show(if hr:∃ q∈ps,cS q=cS p then b hr.choose else false)=b p;rw[dif_pos hex,NV hex.choose_spec.2]
  exact this ps λp hp=>hp
 rw[e]at this;exact this
theorem aKA{v:V3 K}{n:Nat}(hp:bA m p)(hv:aF n v)(cN:4*(3*(m+n)+14)+20<=az):cJ prog 132 [.p (dr p),.q (cO v).cs] (.bool (decide (OF.aA (dot p.n v)>0))):=by have h1:=tX hp.1 hv (show 3*(m+n)+16<az by omega);have h2:=mO (hp.1.dot hv) cN;generalize OF.aA (dot p.n v)=z at *;exact wT func132 10 (λ_=>[h1.at 7,h2.at 8])
theorem aKB{v:V3 K}{n:Nat}(hp:bA m p)(hv:aF n v)(cN:4*(3*(m+n)+14+m)+30<=az)(h:p.n≠0):cJ prog 95 [.p (dr p),.q (cO v).cs] (.bool (decide (OF.aA (dot p.n v-p.d)>=0))):=
 wT func95 8 (λ_=>[(JW hp hv cN h).at 6])
theorem aKC{q:HS K}{n:Nat}(hp:bA m p)(hq:bA n q)(hm:16*m+80<=az)(hn:16*n+80<=az)(mg:p.n≠0)(EF:q.n≠0):cJ prog 96 [.p (dr q),.q (cS p).cs] (.bool (decide (canon p=canon q))):=
 wT func96 7 (λ_=>[(TU hp hq hm hn mg EF).at 6])
def CG(ps:List (HS K))(v:V3 K):Bool:=!decide (v=0)&&!ps.any λp=>decide (OF.aA (dot p.n v)>0)
theorem aKD{v:V3 K}{n:Nat}(bT:∀ p∈ps,bA m p)(hv:aF n v)(cN:4*(3*(m+n)+14)+20<=az)(h63:ps.length<9223372036854775807):cJ prog 86 [ee ps,.p (bN v)] (.bool (CG ps v)):=by
 have hz:=AP hv o_;have ax:([ee ps,.p (bN v)].all aJ.ok)=true:=by simp only[fp,gm,ee,aJ.ok,dF,ja,oH];rfl
 unfold CG;by_cases h:v=0
 ·rw[aD h]at hz ⊢;exact dR func86 ax 14 (λ_=>[hz.at 6])
 ·rw[aQ h]at hz ⊢;have hc:=T0 (g:=132) (caps:=(cO v).cs) (ps:=ps) (b:=λp=>decide (OF.aA (dot p.n v)>0)) k_ (aX.2 (RV.mN _)) h63 λp hp=>aKA (bT p hp) hv cN;generalize (ps.any λp=>decide (OF.aA (dot p.n v)>0))=t at *;exact dR func86 ax 14 (λ_=>[hz.at 6,.cR f86 11 [sl 0 ps.length,.func (.func 132) #[] #[bY 1]] hc (.w (x:=.view (bw ps)) rfl (dF ps) j4 (.f (x:=.aH (cO v).cs 42) rfl (aX.2 (RV.mN _)) .nil))])
def pM(ps:List (HS K))(u:V3 K):Bool:=CG ps u||CG ps (-u)
def pN(p:HS K)(l:List (HS K)):Bool:=l.any λq=>!decide (aw p.n q.n=0)
def sO:List (HS K)->Nat->Bool
 |_,0=>false
 |l,i+1=>match l[i]? with
  |some p=>sO l i||pN p (l.take i)
  |none=>sO l i
section
variable{Bs:ae}{ps:List (HS K)}
def AW(n i:Nat)(s:Bool)(j:Nat):aL:=[(20,vI j),(18,sl 0 i),(19,vI i),(0,sl 0 n),(5,bY 1),(3,.bool s)]
def rM(ps:List (HS K))(p:HS K):aC:=[(0,.view (bw ps)),(1,.aH (cS p).cs 66)]
theorem aA6(p:HS K)(m:Nat):∀ x∈rM ps p,fW m x.2:=λx hx=>by
 simp only[rM,ch,fF,fG]at hx;rcases hx with rfl|rfl
 ·exact λv hv=>iM (aX.1 (dF ps) v hv)
 ·exact λv hv=>iM (iD.flat _ v hv)
noncomputable def G4{q:HS K}(hj:j<i)(hq:ps[j]?=some q)(bT:∀ p∈ps,bA m p)(hp:bA m p)(hm:100*m+1000<=az)(s:Bool)(more:bK prog Bs 47):bK prog Bs 47:=
 .lt 21 j i true (aD hj)::.de f45 22 0 i j 40 hj k_::.ld f45 23 66 0 (j*40) (.view (bw ps)) (dr q) rfl (yF hq) k_::
  (uZ hp.1 (bT q (cL hq)).1 o_).at 28::
  (if s then more else(AP (hp.1.aw (bT q (cL hq)).1) o_).at 32::more)
theorem N1{u:V3 K}{n:Nat}(bT:∀ p∈ps,bA m p)(hu:aF n u)(cN:4*(3*(m+n)+14)+20<=az)(h63:ps.length<9223372036854775807)(ho:da o.op=some x):
  ct prog Bs o [.func (.func 86) #[] #[],sl 0 ps.length,bN u] [(0,some (.view (bw ps)))] (.bool (CG ps u)) []:=
 od (aKD bT hu cN h63) (.w (x:=.view (bw ps)) rfl (dF ps) j4 (.p k_ .nil)) ho k_ k_
theorem aKE{q:HS K}(hj:j<i)(hq:ps[j]?=some q)(bT:∀ p∈ps,bA m p)(hp:bA m p)(hm:100*m+1000<=az)(h63:ps.length<9223372036854775807)(mh:i<=ps.length)(s:Bool)(hb:pM ps (aw p.n q.n)=false):
  ag prog Bs 47 (aE (af f45 2)) (AW ps.length i s j) (rM ps p) 2 ⟨.normal,AW ps.length i (s||!decide (aw p.n q.n=0)) (j+1),rM ps p,2⟩:=by
 have T1:=bT q (cL hq);have hc:=hp.1.aw T1.1;unfold pM at hb;rw[Lr]at hb;have o1:=λBs=>N1 (Bs:=Bs) (x:=.func 86) (o:=au f45 37) bT hc o_ h63 k_;have o2:=λBs=>N1 (Bs:=Bs) (x:=.func 86) (o:=au f45 42) bT hc.neg o_ h63 k_;rw[hb.1]at o1;rw[hb.2]at o2;have ng:=GZ hc o_;have hs:∀ d:Bool,(s||!d)=(if s then true else !d):=λd=>by cases s<;>rfl
 cases s
 ·exact vP mixed 100 (gg:=4) (G4 hj hq bT hp hm false [.step 37 _ _ _ _ _ (o1 _),ng.at 41,.step 42 _ _ _ _ _ (o2 _),.sum 44 j 1 (j+1) rfl o_]) k_ rfl k_ (aA6 _ 2) k_
 ·exact vP mixed 100 (gg:=4) (G4 hj hq bT hp hm true [.step 37 _ _ _ _ _ (o1 _),ng.at 41,.step 42 _ _ _ _ _ (o2 _),.sum 44 j 1 (j+1) rfl o_]) k_ rfl k_ (aA6 _ 2) k_
theorem aKF{q:HS K}(hj:j<i)(hq:ps[j]?=some q)(bT:∀ p∈ps,bA m p)(hp:bA m p)(hm:100*m+1000<=az)(h63:ps.length<9223372036854775807)(s:Bool)(hb:pM ps (aw p.n q.n)=true):
  ag prog Bs 47 (aE (af f45 2)) (AW ps.length i s j) (rM ps p) 2 ⟨.ret,[(2,.bool false)],rM ps p,4⟩:=by
 have T1:=bT q (cL hq);have hc:=hp.1.aw T1.1;unfold pM at hb;have o1:=λBs=>N1 (Bs:=Bs) (x:=.func 86) (o:=au f45 37) bT hc o_ h63 k_;have o2:=λBs=>N1 (Bs:=Bs) (x:=.func 86) (o:=au f45 42) bT hc.neg o_ h63 k_;have ng:=GZ hc o_;cases h1:CG ps (aw p.n q.n)with
 |true=>
  rw[h1]at o1;cases s
  ·exact ay (G4 hj hq bT hp hm false [.step 37 _ _ _ _ _ (o1 _)])
  ·exact ay (G4 hj hq bT hp hm true [.step 37 _ _ _ _ _ (o1 _)])
 |false=>
  rw[h1,vY]at hb;rw[h1]at o1;rw[hb]at o2;cases s
  ·exact ay (G4 hj hq bT hp hm false [.step 37 _ _ _ _ _ (o1 _),ng.at 41,.step 42 _ _ _ _ _ (o2 _)])
  ·exact ay (G4 hj hq bT hp hm true [.step 37 _ _ _ _ _ (o1 _),ng.at 41,.step 42 _ _ _ _ _ (o2 _)])
theorem aKG(s:Bool):ag prog Bs 47 (aE (af f45 2)) (AW ps.length i s i) (rM ps p) 2 ⟨.exit 2,[(3,.bool s)],rM ps p,2⟩:=
 ay [.lt 21 i i false s_]
theorem aKH{q:HS K}(hq:ps[j]?=some q):pN p (ps.take (j+1))=(pN p (ps.take j)||!decide (aw p.n q.n=0)):=by unfold pN;rw[ua,hq,List.any_append];simp
theorem aA7(mh:i<=ps.length)(bT:∀ p∈ps,bA m p)(hp:bA m p)(hm:100*m+1000<=az)(h63:ps.length<9223372036854775807)(s:Bool):
  ag prog Bs 47 (.block 2 (af f45 2)) (AW ps.length i s 0) (rM ps p) 2 (if(ps.take i).any (λq=>pM ps (aw p.n q.n))=true then⟨.ret,[(2,.bool false)],rM ps p,4⟩else⟨.normal,[(3,.bool (s||pN p (ps.take i)))],rM ps p,2⟩):=by
 have at':∀{j:Nat},j<i->(ps.take i)[j]?=ps[j]?:=λhj=>by rw[tj,aq hj]
 have pL:∀ e,e<=i->(∀(j:Nat) y,j<e->(ps.take i)[j]?=some y->pM ps (aw p.n y.n)=false)->∀ j,j<e->
   ag prog Bs 47 (aE (af f45 2)) (AW ps.length i (s||pN p (ps.take j)) j) (rM ps p) 2 ⟨.normal,AW ps.length i (s||pN p (ps.take (j+1))) (j+1),rM ps p,2⟩:=λe he hb j hj=>by
  have hq:ps[j]?=some ps[j]:=bd o_;have:=aKE (Bs:=Bs) (p:=p) (show j<i by omega) hq bT hp hm h63 mh (s||pN p (ps.take j)) (hb j _ hj (by rw[at' o_];exact hq));rwa[Bool.or_assoc,<-aKH hq]at this
 have e0:(s||pN p (ps.take 0))=s:=by simp[pN]
 rcases EG (λq:HS K=>pM ps (aw p.n q.n)) (ps.take i)with hn|⟨e,q,h1,h2,h3⟩
 ·have:¬(ps.take i).any (λq=>pM ps (aw p.n q.n))=true:=by rw[N2,Ig];intro x hx;rw[hn x hx];simp
  rw[al this];have:=cg (P:=prog) (B:=Bs) (N:=47) i (λj=>AW ps.length i (s||pN p (ps.take j)) j) (λ_=>rM ps p) (λi k _=>Iff.rfl) (pL i (aZ _) λj y _ hy=>hn y (cL hy)) (aKG _) n_;rw[e0]at this;exact bO (id:=2) this
 ·have ha:(ps.take i).any (λq=>pM ps (aw p.n q.n))=true:=r6.2 ⟨q,cL h1,h2⟩;rw[aq ha];have hei:e<i:=by have:=(eD.1 h1).1;rw[je]at this;omega
  have:=cg (P:=prog) (B:=Bs) (N:=47) e (λj=>AW ps.length i (s||pN p (ps.take j)) j) (λ_=>rM ps p) (λi k _=>Iff.rfl) (pL e o_ h3) (aKF hei (by rw[<-at' hei];exact h1) bT hp hm h63 _ h2) n_;rw[e0]at this;exact bO (id:=2) this
def EH(ps:List (HS K))(i:Nat):Bool:=match ps[i]? with
 |some p=>(ps.take i).any λq=>pM ps (aw p.n q.n)
 |none=>false
def N3(ps:List (HS K))(n:Nat):Bool:=(List.range n).any (EH ps)
theorem N4(h:ps[i]?=some p):EH ps i=(ps.take i).any λq=>pM ps (aw p.n q.n):=by unfold EH;rw[h]
theorem aA8(h:ps[i]?=some p):sO ps (i+1)=(sO ps i||pN p (ps.take i)):=by show(match ps[i]? with|some p=>sO ps i||pN p (ps.take i)|none=>sO ps i)=_;rw[h]
def oS(ps:List (HS K)):Bool:=!N3 ps ps.length&&sO ps ps.length
def yG(n i:Nat)(s:Bool):aL:=[(11,vI i),(9,sl 0 n),(10,vI n),(0,sl 0 n),(3,.bool s)]
def qD(ps:List (HS K)):aC:=[(0,.view (bw ps))]
theorem aKI(m:Nat):∀ x∈qD ps,fW m x.2:=λx hx=>by simp only[qD,ch,fF,fG]at hx;subst hx;exact λv hv=>iM (aX.1 (dF ps) v hv)
noncomputable def coS(hi:i<ps.length)(hp:ps[i]?=some p)(more:bK prog Bs 47):bK prog Bs 47:=
 .lt 12 i ps.length true (aD hi)::.de f45 14 0 ps.length i 40 hi k_::.ld f45 15 66 0 (i*40) (.view (bw ps)) (dr p) rfl (yF hp) k_::.upto f45 18 0 ps.length i 40 o_ k_::more
theorem aKJ(hi:i<ps.length)(hp:ps[i]?=some p)(bT:∀ p∈ps,bA m p)(hm:100*m+1000<=az)(h63:ps.length<9223372036854775807)(s:Bool)(hb:(ps.take i).any (λq=>pM ps (aw p.n q.n))=false):
  ag prog Bs 47 (aE (af f45 0)) (yG ps.length i s) (qD ps) 1 ⟨.normal,yG ps.length (i+1) (s||pN p (ps.take i)),qD ps,1⟩:=by
 have lo:=aA7 (Bs:=Bs) (show i<=ps.length by omega) bT (bT p (cL hp)) hm h63 s;rw[hb,al s_]at lo;generalize pN p (ps.take i)=t at *;exact vP mixed 100 (gg:=2) (coS hi hp [.code 2 _ _ _ _ _ lo,.sum 45 i 1 (i+1) rfl o_]) k_ rfl k_ (aKI 1) k_
theorem aKK(hi:i<ps.length)(hp:ps[i]?=some p)(bT:∀ p∈ps,bA m p)(hm:100*m+1000<=az)(h63:ps.length<9223372036854775807)(s:Bool)(hb:(ps.take i).any (λq=>pM ps (aw p.n q.n))=true):
  ag prog Bs 47 (aE (af f45 0)) (yG ps.length i s) (qD ps) 1 ⟨.ret,[(2,.bool false)],qD ps,4⟩:=by
 have lo:=aA7 (Bs:=Bs) (show i<=ps.length by omega) bT (bT p (cL hp)) hm h63 s;rw[aq hb]at lo;exact ay (coS hi hp [.code 2 _ _ _ _ _ lo])
theorem aKL(s:Bool):ag prog Bs 47 (aE (af f45 0)) (yG ps.length ps.length s) (qD ps) 1 ⟨.exit 0,[(3,.bool s)],qD ps,1⟩:=
 ay [.lt 12 ps.length ps.length false s_]
theorem aKM(bT:∀ p∈ps,bA m p)(hm:100*m+1000<=az)(h63:ps.length<9223372036854775807):cJ prog 45 [ee ps] (.bool (oS ps)):=by
 have ax:([ee ps].all aJ.ok)=true:=by simp only[fp,gm,ee,aJ.ok,dF,ja]
 have pL:∀(B:ae) e,e<=ps.length->(∀(j:Nat) y,j<e->(List.range ps.length)[j]?=some y->EH ps y=false)->∀ i,i<e->
   ag prog B 47 (aE (af f45 0)) (yG ps.length i (sO ps i)) (qD ps) 1 ⟨.normal,yG ps.length (i+1) (sO ps (i+1)),qD ps,1⟩:=λB e he hb i hi=>by
  have av:i<ps.length:=by omega
  have hp:ps[i]?=some ps[i]:=bd av;rw[aA8 hp];exact aKJ av hp bT hm h63 _ (by rw[<-N4 hp];exact hb i i hi (J1 av))
 unfold oS N3;rcases EG (EH ps) (List.range ps.length)with hn|⟨e,y,h1,h2,h3⟩
 ·have ha:(List.range ps.length).any (EH ps)=false:=by rw[Ig];intro x hx;rw[hn x hx];simp
  rw[ha];have lo:∀ B:ae,ag prog B 47 (.block 0 (af f45 0)) (yG ps.length 0 false) (qD ps) 1 ⟨.normal,[(3,.bool (sO ps ps.length))],qD ps,1⟩:=λB=>
   bO (id:=0) (cg ps.length (λi=>yG ps.length i (sO ps i)) (λ_=>qD ps) (λi k _=>Iff.rfl) (pL B ps.length (aZ _) λj y _ hy=>hn y (cL hy)) (aKL _) n_)
  generalize sO ps ps.length=t at *;exact dR func45 ax 47 (λw=>[.code 0 _ _ _ _ _ (lo _)])
 ·have ha:(List.range ps.length).any (EH ps)=true:=r6.2 ⟨y,cL h1,h2⟩;rw[ha];have av:e<ps.length:=by have:=(eD.1 h1).1;rwa[zL]at this
  have hy:y=e:=by rw[J1 av]at h1;injection h1 with h1;exact h1.symm
  subst hy;have hp:ps[y]?=some ps[y]:=bd av;have lo:∀ B:ae,ag prog B 47 (.block 0 (af f45 0)) (yG ps.length 0 false) (qD ps) 1 ⟨.ret,[(2,.bool false)],qD ps,4⟩:=λB=>
   bO (id:=0) (cg y (λi=>yG ps.length i (sO ps i)) (λ_=>qD ps) (λi k _=>Iff.rfl) (pL B y o_ h3) (aKK av hp bT hm h63 _ (by rw[<-N4 hp];exact h2)) n_)
  exact dR func45 ax 47 (λw=>[.code 0 _ _ _ _ _ (lo _)])
end
end
section
variable{P:j_}{B:ae}{N:Nat}
def T2(o:Oper):Bool:=match o.op with|.nilCheck _=>true|_=>false
theorem aKN(ho:T2 o=true)(k off:Nat):ct P B o [.pointer (some ⟨k,off,some 7⟩)] [] (.pointer (some ⟨k,off,some 7⟩)) []:=by
 unfold T2 at ho;split at ho
 ·rename_i x bM;refine gL.step λι c ρ w aK hm hn=>?_;rw[bM]at aK;obtain⟨u,hu,hc⟩:=lO aK;have hu:ρ x=u:=by simpa[Op.operands]using hu
  obtain⟨b,oo,cap,hb,he⟩:=hc.ux rfl;refine⟨ι,.pointer (some ⟨b,oo+off,none⟩),w,Map.le.refl _,.ptr hb,hm,.inl ?_⟩;simp only[execOp,bM,hu,he];simp[go_sem]
 ·cases ho
def aO.cd(fn:Func)(key k off:Nat)(ho:T2 (au fn key)=true):aO P B N:=.step key (au fn key) [.pointer (some ⟨k,off,some 7⟩)] [] (.pointer (some ⟨k,off,some 7⟩)) [] (aKN ho k off)
end
section
open V3 (dot aw cV smul)
def T3:Option K->ak
 |some x=>(dM x).cs
 |none=>zN.cs
def qE(s:eG K)(b d:V3 K):ak:=T3 s.lo++(T3 s.hi++(.bool s.lo.isSome::.bool s.hi.isSome::((cO b).cs++(cO d).cs)))
def qF(s:eG K)(a b:K):eG K:=
 if OF.aA a=0 then s
 else if OF.aA a>0 then(match s.hi with|some h=>if OF.aA (b*a⁻¹-h)<0 then⟨s.lo,some (b*a⁻¹)⟩else s|none=>⟨s.lo,some (b*a⁻¹)⟩)
 else(match s.lo with|some l=>if OF.aA (b*a⁻¹-l)>0 then⟨some (b*a⁻¹),s.hi⟩else s|none=>⟨some (b*a⁻¹),s.hi⟩)
def aA9(s:eG K):Bool:=match s.lo,s.hi with
 |some l,some h=>decide (OF.aA (l-h)<0)
 |_,_=>true
def rN(s:eG K)(a b:K):Bool:=if OF.aA a=0 then decide (OF.aA b>=0)else aA9 (qF s a b)
def mS(n:Nat)(x:Option K):Prop:=∀ y,x=some y->Sz n y
theorem aKO{s:eG K}{b d:V3 K}{z:Nat}(hp:bA m p)(hb:aF q b)(hd:aF q d)(ep:mS z s.lo)(gT:mS z s.hi)(hn:1000*(m+q)+100*z+10000<=az):
  yD prog 136 20 [bY 6,dr p] [(6,.aH (qE s b d) 142)] [] (.bool (rN s (dot p.n d) (p.d-dot p.n b))) [(6,.aH (qE (qF s (dot p.n d) (p.d-dot p.n b)) b d) 142)]:=by
 have il:Sz (3*(m+q)+14) (dot p.n d):=hp.1.dot hd;have nq:Sz (m+(3*(m+q)+14)+1) (p.d-dot p.n b):=hp.2.sub (hp.1.dot hb);have d1:=tX hp.1 hd o_;have d2:=tX hp.1 hb o_;have sb:=As hp.2 (hp.1.dot hb) o_;have nD:=mO il o_;have sgb:=mO nq o_;unfold rN qF;generalize p.d-dot p.n b=y at *;generalize dot p.n d=a at *;obtain⟨lo,hi⟩:=s;dsimp only at ep gT ⊢;by_cases mG:a=0
 ·have e:OF.aA a=0:=(OF.eZ a).2 mG;rw[aq e,aq e];have dv:=aIO nq o_;rw[<-mG]at dv;cases lo<;>cases hi<;>exact oh mixed func136 100 (N:=116) k_ (λ_=>[.cd f136 12 6 0 k_,d1.at 15,.cd f136 21 6 0 k_,d2.at 24,sb.at 25,dv.at 29,sgb.at 36]) (λ_=>k_)
 ·have e:OF.aA a≠0:=λh=>mG ((OF.eZ a).1 h);rw[al e,al e];have dv:=GK mG nq il o_;have ht:=Sz.div mG nq il;generalize y*a⁻¹=t at *;by_cases h:OF.aA a>0
  ·rw[aq h];rcases lo with _|lo
   ·rcases hi with _|hi
    ·exact oh mixed func136 100 (N:=116) k_ (λ_=>[.cd f136 12 6 0 k_,d1.at 15,.cd f136 21 6 0 k_,d2.at 24,sb.at 25,dv.at 29,nD.at 40,.rw 41 (.bool (decide (OF.aA a>0))) b_ (by rw[aD h]),.cd f136 44 6 0 k_,.cd f136 61 6 0 k_,.cd f136 63 6 0 k_,.cd f136 93 6 0 k_]) (λ_=>k_)
    ·dsimp only;by_cases hc:OF.aA (t-hi)<0
     ·rw[aq hc];exact oh mixed func136 100 (N:=116) k_ (λ_=>[.cd f136 12 6 0 k_,d1.at 15,.cd f136 21 6 0 k_,d2.at 24,sb.at 25,dv.at 29,nD.at 40,.rw 41 (.bool (decide (OF.aA a>0))) b_ (by rw[aD h]),.cd f136 44 6 0 k_,.cd f136 51 6 0 k_,(lE ht (gT _ rfl) o_).at 54,.rw 55 (.bool (decide (OF.aA (t-hi)<0))) b_ (by rw[aD hc]),.cd f136 61 6 0 k_,.cd f136 63 6 0 k_,.cd f136 93 6 0 k_]) (λ_=>k_)
     ·rw[al hc];exact oh mixed func136 100 (N:=116) k_ (λ_=>[.cd f136 12 6 0 k_,d1.at 15,.cd f136 21 6 0 k_,d2.at 24,sb.at 25,dv.at 29,nD.at 40,.rw 41 (.bool (decide (OF.aA a>0))) b_ (by rw[aD h]),.cd f136 44 6 0 k_,.cd f136 51 6 0 k_,(lE ht (gT _ rfl) o_).at 54,.rw 55 (.bool (decide (OF.aA (t-hi)<0))) a_ (by rw[aQ hc]),nD.at 67,.rw 68 (.bool (decide (OF.aA a<0))) a_ (by rw[aQ o_]),.cd f136 93 6 0 k_]) (λ_=>k_)
   ·rcases hi with _|hi
    ·exact oh mixed func136 100 (N:=116) k_ (λ_=>[.cd f136 12 6 0 k_,d1.at 15,.cd f136 21 6 0 k_,d2.at 24,sb.at 25,dv.at 29,nD.at 40,.rw 41 (.bool (decide (OF.aA a>0))) b_ (by rw[aD h]),.cd f136 44 6 0 k_,.cd f136 61 6 0 k_,.cd f136 63 6 0 k_,.cd f136 93 6 0 k_,.cd f136 99 6 0 k_,.cd f136 106 6 0 k_,.cd f136 110 6 0 k_,(lE (ep _ rfl) ht o_).at 113]) (λ_=>k_)
    ·dsimp only;by_cases hc:OF.aA (t-hi)<0
     ·rw[aq hc];exact oh mixed func136 100 (N:=116) k_ (λ_=>[.cd f136 12 6 0 k_,d1.at 15,.cd f136 21 6 0 k_,d2.at 24,sb.at 25,dv.at 29,nD.at 40,.rw 41 (.bool (decide (OF.aA a>0))) b_ (by rw[aD h]),.cd f136 44 6 0 k_,.cd f136 51 6 0 k_,(lE ht (gT _ rfl) o_).at 54,.rw 55 (.bool (decide (OF.aA (t-hi)<0))) b_ (by rw[aD hc]),.cd f136 61 6 0 k_,.cd f136 63 6 0 k_,.cd f136 93 6 0 k_,.cd f136 99 6 0 k_,.cd f136 106 6 0 k_,.cd f136 110 6 0 k_,(lE (ep _ rfl) ht o_).at 113]) (λ_=>k_)
     ·rw[al hc];exact oh mixed func136 100 (N:=116) k_ (λ_=>[.cd f136 12 6 0 k_,d1.at 15,.cd f136 21 6 0 k_,d2.at 24,sb.at 25,dv.at 29,nD.at 40,.rw 41 (.bool (decide (OF.aA a>0))) b_ (by rw[aD h]),.cd f136 44 6 0 k_,.cd f136 51 6 0 k_,(lE ht (gT _ rfl) o_).at 54,.rw 55 (.bool (decide (OF.aA (t-hi)<0))) a_ (by rw[aQ hc]),nD.at 67,.rw 68 (.bool (decide (OF.aA a<0))) a_ (by rw[aQ o_]),.cd f136 93 6 0 k_,.cd f136 99 6 0 k_,.cd f136 106 6 0 k_,.cd f136 110 6 0 k_,(lE (ep _ rfl) (gT _ rfl) o_).at 113]) (λ_=>k_)
  ·rw[al h];rcases lo with _|lo
   ·rcases hi with _|hi
    ·exact oh mixed func136 100 (N:=116) k_ (λ_=>[.cd f136 12 6 0 k_,d1.at 15,.cd f136 21 6 0 k_,d2.at 24,sb.at 25,dv.at 29,nD.at 40,.rw 41 (.bool (decide (OF.aA a>0))) a_ (by rw[aQ h]),nD.at 67,.rw 68 (.bool (decide (OF.aA a<0))) b_ (by rw[aD o_]),.cd f136 71 6 0 k_,.cd f136 88 6 0 k_,.cd f136 90 6 0 k_,.cd f136 93 6 0 k_,.cd f136 99 6 0 k_]) (λ_=>k_)
    ·exact oh mixed func136 100 (N:=116) k_ (λ_=>[.cd f136 12 6 0 k_,d1.at 15,.cd f136 21 6 0 k_,d2.at 24,sb.at 25,dv.at 29,nD.at 40,.rw 41 (.bool (decide (OF.aA a>0))) a_ (by rw[aQ h]),nD.at 67,.rw 68 (.bool (decide (OF.aA a<0))) b_ (by rw[aD o_]),.cd f136 71 6 0 k_,.cd f136 88 6 0 k_,.cd f136 90 6 0 k_,.cd f136 93 6 0 k_,.cd f136 99 6 0 k_,.cd f136 106 6 0 k_,.cd f136 110 6 0 k_,(lE ht (gT _ rfl) o_).at 113]) (λ_=>k_)
   ·rcases hi with _|hi
    ·dsimp only;by_cases hc:OF.aA (t-lo)>0
     ·rw[aq hc];exact oh mixed func136 100 (N:=116) k_ (λ_=>[.cd f136 12 6 0 k_,d1.at 15,.cd f136 21 6 0 k_,d2.at 24,sb.at 25,dv.at 29,nD.at 40,.rw 41 (.bool (decide (OF.aA a>0))) a_ (by rw[aQ h]),nD.at 67,.rw 68 (.bool (decide (OF.aA a<0))) b_ (by rw[aD o_]),.cd f136 71 6 0 k_,.cd f136 78 6 0 k_,(lE ht (ep _ rfl) o_).at 81,.rw 82 (.bool (decide (OF.aA (t-lo)>0))) b_ (by rw[aD hc]),.cd f136 88 6 0 k_,.cd f136 90 6 0 k_,.cd f136 93 6 0 k_,.cd f136 99 6 0 k_]) (λ_=>k_)
     ·rw[al hc];exact oh mixed func136 100 (N:=116) k_ (λ_=>[.cd f136 12 6 0 k_,d1.at 15,.cd f136 21 6 0 k_,d2.at 24,sb.at 25,dv.at 29,nD.at 40,.rw 41 (.bool (decide (OF.aA a>0))) a_ (by rw[aQ h]),nD.at 67,.rw 68 (.bool (decide (OF.aA a<0))) b_ (by rw[aD o_]),.cd f136 71 6 0 k_,.cd f136 78 6 0 k_,(lE ht (ep _ rfl) o_).at 81,.rw 82 (.bool (decide (OF.aA (t-lo)>0))) a_ (by rw[aQ hc]),.cd f136 93 6 0 k_,.cd f136 99 6 0 k_]) (λ_=>k_)
    ·dsimp only;by_cases hc:OF.aA (t-lo)>0
     ·rw[aq hc];exact oh mixed func136 100 (N:=116) k_ (λ_=>[.cd f136 12 6 0 k_,d1.at 15,.cd f136 21 6 0 k_,d2.at 24,sb.at 25,dv.at 29,nD.at 40,.rw 41 (.bool (decide (OF.aA a>0))) a_ (by rw[aQ h]),nD.at 67,.rw 68 (.bool (decide (OF.aA a<0))) b_ (by rw[aD o_]),.cd f136 71 6 0 k_,.cd f136 78 6 0 k_,(lE ht (ep _ rfl) o_).at 81,.rw 82 (.bool (decide (OF.aA (t-lo)>0))) b_ (by rw[aD hc]),.cd f136 88 6 0 k_,.cd f136 90 6 0 k_,.cd f136 93 6 0 k_,.cd f136 99 6 0 k_,.cd f136 106 6 0 k_,.cd f136 110 6 0 k_,(lE ht (gT _ rfl) o_).at 113]) (λ_=>k_)
     ·rw[al hc];exact oh mixed func136 100 (N:=116) k_ (λ_=>[.cd f136 12 6 0 k_,d1.at 15,.cd f136 21 6 0 k_,d2.at 24,sb.at 25,dv.at 29,nD.at 40,.rw 41 (.bool (decide (OF.aA a>0))) a_ (by rw[aQ h]),nD.at 67,.rw 68 (.bool (decide (OF.aA a<0))) b_ (by rw[aD o_]),.cd f136 71 6 0 k_,.cd f136 78 6 0 k_,(lE ht (ep _ rfl) o_).at 81,.rw 82 (.bool (decide (OF.aA (t-lo)>0))) a_ (by rw[aQ hc]),.cd f136 93 6 0 k_,.cd f136 99 6 0 k_,.cd f136 106 6 0 k_,.cd f136 110 6 0 k_,(lE (ep _ rfl) (gT _ rfl) o_).at 113]) (λ_=>k_)
end
def G6(P:j_)(f:FuncId)(l:List aJ)(ty:TypeId)(size n:Nat)(xs:ak)(u:i_):Prop:=
 ∀ w vs,tT w l vs->Calls P f vs.toArray w λe w'=>∃ v,e=.returned (.tuple #[v,u])/\w'.ownsRow w.heap.size ty size v n xs/\Below w.heap.size w w'
section
variable{P:j_}{B:ae}{N:Nat}
theorem aKP(gV:P.follows .mixedOrders=true)(hf:P.funcs[f]?=some fn)(hl:(l.all aJ.ok)=true)(n:Nat){N:Nat}(hN:N=(eE 0 l).length+(fn.ntmps-(eE 0 l).length))
  (rs:∀ w,bK P (ae.at w) N) (h:∀ w,nO (gu (P:=P) fn n (eE 0 l) (iY 0 l) (jq 0 l) (rs w)) [(k,.row xs ty size)]=nP (gu fn n (eE 0 l) (iY 0 l) (jq 0 l) (rs w)) (.tuple #[.slice (some ⟨k,0,some 7⟩) m 0,u]) [(k,.row xs ty size)])
  (hx:(xs.all flat)=true) (hlen:xs.length=m*size) (hu:flat u=true):G6 P f l ty size m xs u:=by
 intro w vs cB;obtain⟨ι,c,h1,h2,h3,h4,h5,h6,h7⟩:=wL cB (aX.1 hl) 0 _ _ (sj w) n_ (λ_ _=>rfl);refine tA gV hf hN n (h w) h6 h2 h4 h3 λao bP v' w' hle hc hm dD=>?_;obtain⟨cU,rfl,ht⟩:=hc.tg;have ht:bJ (aG ao) [.slice (some ⟨k,0,some 7⟩) m 0,u] cU.toList:=ht;cases aK:cU.toList with
 |nil=>rw[aK]at ht;cases ht
 |cons a t=>
  rw[aK]at ht;cases ht with
  |cons q1 q2=>
   cases q2 with
   |cons q3 q4=>
    cases q4;refine⟨a,?_,?_,hm.base⟩
    ·rw[q3.eW hu]at aK
     congr 2
     apply Dr;rw[aK]
    ·have:=uJ hm (dD (k,_) (aN ..)) q1 o_ (aX.1 hx);rwa[<-hlen,nB]at this
theorem T4{n:Nat}{nd:q_}(h:G6 P f l ty size n xs u)(hs:gk B l vs nd)(ho:da o.op=some x)(eB:fN P f=true)(hx:(xs.all flat)=true)(hu:flat u=true)(k:Nat):
  ct P B o (.func (.func f) #[] #[]::vs) ((k,none)::nd) (.tuple #[.slice (some ⟨k,0,some 7⟩) n 0,u]) [(k,.row xs ty size)]:=by
 have:=jy (P:=P) (B:=B) (o:=o) (x:=x) (f:=f) (fi:=[]) (args:=vs) (ca:=[]) (need:=(k,none)::nd) (val:=.tuple #[.slice (some ⟨k,0,some 7⟩) n 0,u]) (cK:=[(k,.row xs ty size)]) ho eB ?_
 ·simpa using this
 ·intro ι c w hm hn args' ha;rw[jg,gO]at ha;refine(h w args' (AG hs hm (λp hp=>hn p (bB _ hp)) ha)).mono ?_
  rintro e w' ⟨v,rfl,h1,h2⟩
  obtain⟨ao,q1,q2,q3⟩:=DN hm h2 (k:=k) (hn (k,none) (aN ..)) h1 (aX.1 hx);exact⟨ao,_,rfl,q1,.tup (.cons q3 (.cons (.same hu) .nil)),q2⟩
end
section
open V3 (dot aw cV smul)
def dS(p q:HS K):V3 K:=aw p.n q.n
def u7(p q:HS K):V3 K:=smul (smul (aw q.n (dS p q)) p.d+smul (aw (dS p q) p.n) q.d) (kI 1*(dot (dS p q) (dS p q))⁻¹)
def nE(s:eG K)(b d:V3 K):List (HS K)->eG K
 |[]=>s
 |p::l=>nE (qF s (dot p.n d) (p.d-dot p.n b)) b d l
def u9(s:eG K)(b d:V3 K):List (HS K)->Bool
 |[]=>true
 |p::l=>rN s (dot p.n d) (p.d-dot p.n b)&&u9 (qF s (dot p.n d) (p.d-dot p.n b)) b d l
theorem aBa{b d:V3 K}{p:HS K}:∀(l:List (HS K)) (s:eG K),nE s b d (l++[p])=qF (nE s b d l) (dot p.n d) (p.d-dot p.n b)
 |[],s=>rfl
 |q::l,s=>aBa l _
def J2(ps:List (HS K))(p q:HS K):eG K:=nE ⟨none,none⟩ (u7 p q) (dS p q) ps
def EI(ps:List (HS K))(p q:HS K):Option (V3 K×V3 K):=
 if dS p q=0 then none
 else if u9 ⟨none,none⟩ (u7 p q) (dS p q) ps then(match (J2 ps p q).lo,(J2 ps p q).hi with
  |some l,some h=>some (u7 p q+smul (dS p q) l,u7 p q+smul (dS p q) h)
  |_,_=>none)
 else none
theorem T5{q:HS K}(hp:bA m p)(hq:bA m q):aF (4*m+9) (dS p q):=(hp.1.aw hq.1).mono o_
theorem aBb{q:HS K}(hp:bA m p)(hq:bA m q)(h:dS p q≠0)(hd:dot (dS p q) (dS p q)≠0):aF (300*m+1000) (u7 p q):=by have hc:=T5 hp hq;have h1:=(hq.1.aw hc).smul hp.2;have h2:=(hc.aw hp.1).smul hq.2;have h3:=Sz.div (m:=1) hd (qs (z:=1) d_ d_) (hc.dot hc);exact((h1.add h2).smul h3).mono o_
theorem aKQ{s:eG K}{a b:K}{z C:Nat}(ep:mS z s.lo)(gT:mS z s.hi)(ha:Sz A a)(hb:Sz C b)(hz:C+7*A+28<=z):mS z (qF s a b).lo/\mS z (qF s a b).hi:=by
 unfold qF;by_cases h0:OF.aA a=0
 ·rw[aq h0];exact⟨ep,gT⟩
 ·rw[al h0];have mG:a≠0:=λe=>h0 ((OF.eZ a).2 e);have ht:Sz z (b*a⁻¹):=(Sz.div mG hb ha).mono hz;have N5:mS z (some (b*a⁻¹)):=λy e=>by injection e with e;subst e;exact ht
  obtain⟨lo,hi⟩:=s;dsimp only at ep gT ⊢;split
  ·split
   ·split
    ·exact⟨ep,N5⟩
    ·exact⟨ep,gT⟩
   ·exact⟨ep,N5⟩
  ·split
   ·split
    ·exact⟨N5,gT⟩
    ·exact⟨ep,gT⟩
   ·exact⟨N5,gT⟩
theorem N6{b d:V3 K}{m q z:Nat}(hb:aF q b)(hd:aF q d)(hz:m+(3*(m+q)+14)+1+7*(3*(m+q)+14)+28<=z):∀(l:List (HS K)) (s:eG K),(∀ p∈l,bA m p)->mS z s.lo->mS z s.hi->mS z (nE s b d l).lo/\mS z (nE s b d l).hi
 |[],s,_,h1,h2=>⟨h1,h2⟩
 |p::l,s,hl,h1,h2=>by have hp:=hl p (aN ..);obtain⟨q1,q2⟩:=aKQ h1 h2 (hp.1.dot hd) (hp.2.sub (hp.1.dot hb)) hz;exact N6 hb hd hz l _ (λr hr=>hl r (bB _ hr)) q1 q2
theorem aKR{s:eG K}{b d:V3 K}{t:K}{z:Nat}(hb:aF q b)(hd:aF q d)(ht:Sz z t)(hn:10*q+10*z+100<=az):
  yD prog 137 20 ([bZ t]++[bY 7,bY 3]) [(6,.aH (qE s b d) 142),(7,.aH [bY 6] 140),(3,.aH (cO d).cs 42)] [] (bN (b+smul d t)) [(6,.aH (qE s b d) 142),(7,.aH [bY 6] 140),(3,.aH (cO d).cs 42)]:=by
 have h1:=uY hd ht o_;have h2:=ED hb (hd.smul ht) o_;obtain⟨lo,hi⟩:=s;cases lo<;>cases hi<;>exact oh mixed func137 100 (N:=13) k_ (λ_=>[.cd f137 6 6 0 k_,h1.at 11,h2.at 12]) (λ_=>k_)
theorem aBc(x:Option K):∀ v∈T3 x,flat v=true:=by
 cases x with
 |none=>exact RN.mN zN
 |some y=>exact RN.mN _
theorem N7(s:eG K)(b d:V3 K):∀ v∈qE s b d,flat v=true:=λv hv=>by
 simp only[qE,fm,ch]at hv;rcases hv with h|h|rfl|rfl|h|h
 ·exact aBc _ v h
 ·exact aBc _ v h
 ·rfl
 ·rfl
 ·exact RV.mN _ v h
 ·exact RV.mN _ v h
theorem yH{x:Obj}(h:∀ v∈x.cells,flat v=true):lF m (k,x)=true:=aX.2 λv hv=>iM (h v hv)
section
variable{Bs:ae}{ps:List (HS K)}
theorem T6{b d:V3 K}:∀(l:List (HS K)) (s:eG K),u9 s b d l=true↔∀(i:Nat) (p:HS K),l[i]?=some p->rN (nE s b d (l.take i)) (dot p.n d) (p.d-dot p.n b)=true
 |[],s=>by simp[u9]
 |q::l,s=>by
  unfold u9;rw[cY,T6 l];constructor
  ·rintro⟨h1,h2⟩ i p hp
   cases i with
   |zero=>simp at hp;subst hp;exact h1
   |succ i=>exact h2 i p (by simpa using hp)
  ·intro h;exact⟨h 0 q rfl,λi p hp=>h (i+1) p (by simpa using hp)⟩
def eI(n i:Nat):aL:=[(54,vI i),(52,sl 0 n),(53,vI n),(0,sl 0 n),(12,bY 7),(8,bY 3)]
def eJ(ps:List (HS K))(s:eG K)(b d:V3 K):aC:=[(0,.view (bw ps)),(6,.aH (qE s b d) 142),(7,.aH [bY 6] 140)]
theorem aKS{s:eG K}{b d:V3 K}:∀ x∈eJ ps s b d,fW 8 x.2:=λx hx=>by
 simp only[eJ,ch,fF,fG]at hx;rcases hx with rfl|rfl|rfl
 ·exact λv hv=>iM (aX.1 (dF ps) v hv)
 ·exact λv hv=>iM (N7 _ _ _ v hv)
 ·exact Ni (p:=(7,.aH [bY 6] 140)) k_
theorem aKT{s:eG K}{b d:V3 K}{z:Nat}(hp:bA m p)(hb:aF q b)(hd:aF q d)(ep:mS z s.lo)(gT:mS z s.hi)(hn:1000*(m+q)+100*z+10000<=az)(ho:da o.op=some x):
  ct prog Bs o [.func (.func 136) #[] #[],bY 6,dr p] [(6,some (.aH (qE s b d) 142))] (.bool (rN s (dot p.n d) (p.d-dot p.n b))) [(6,.aH (qE (qF s (dot p.n d) (p.d-dot p.n b)) b d) 142)]:=
 NW (K:=20) (args:=[bY 6,dr p]) (ca:=[]) (Os:=[(6,.aH (qE s b d) 142)]) (Vs:=[]) (aKO hp hb hd ep gT hn) ho k_ k_ k_ (by simp only[gO,fp,gm,ja];rw[yH (x:=.aH (qE s b d) 142) (N7 _ _ _)];rfl)
  (by simp only[fp,gm,ja];exact yH (x:=.aH (qE (qF s (dot p.n d) (p.d-dot p.n b)) b d) 142) (N7 _ _ _)) rfl rfl rfl rfl
noncomputable def eS{s:eG K}{b d:V3 K}{z:Nat}(hi:i<ps.length)(iE:ps[i]?=some p)(hp:bA m p)(hb:aF q b)(hd:aF q d)(ep:mS z s.lo)(gT:mS z s.hi)(hn:1000*(m+q)+100*z+10000<=az)(ht:rN s (dot p.n d) (p.d-dot p.n b)=t)(more:bK prog Bs 89):bK prog Bs 89:=
 .lt 55 i ps.length true (aD hi)::.de f88 56 0 ps.length i 40 hi k_::.ld f88 57 66 0 (i*40) (.view (bw ps)) (dr p) rfl (yF iE) k_::
  .step 60 (au f88 60) _ _ (.bool t) _ (ht▸aKT (x:=.func 136) hp hb hd ep gT hn k_)::more
theorem aKU{s:eG K}{b d:V3 K}{z:Nat}(hi:i<ps.length)(iE:ps[i]?=some p)(hp:bA m p)(hb:aF q b)(hd:aF q d)(ep:mS z s.lo)(gT:mS z s.hi)(hn:1000*(m+q)+100*z+10000<=az)(h63:ps.length<9223372036854775807)
  (ht:rN s (dot p.n d) (p.d-dot p.n b)=true):ag prog Bs 89 (aE (af f88 0)) (eI ps.length i) (eJ ps s b d) 8 ⟨.normal,eI ps.length (i+1),eJ ps (qF s (dot p.n d) (p.d-dot p.n b)) b d,8⟩:=
 vP mixed 100 (gg:=9) (eS hi iE hp hb hd ep gT hn ht [.sum 62 i 1 (i+1) rfl o_]) k_ rfl k_ aKS k_
theorem aKV{s:eG K}{b d:V3 K}{z:Nat}(hi:i<ps.length)(iE:ps[i]?=some p)(hp:bA m p)(hb:aF q b)(hd:aF q d)(ep:mS z s.lo)(gT:mS z s.hi)(hn:1000*(m+q)+100*z+10000<=az)
  (ht:rN s (dot p.n d) (p.d-dot p.n b)=false):ag prog Bs 89 (aE (af f88 0)) (eI ps.length i) (eJ ps s b d) 8 ⟨.ret,[(6,.slice none 0 0),(7,.bool false)],eJ ps (qF s (dot p.n d) (p.d-dot p.n b)) b d,9⟩:=
 ay (eS hi iE hp hb hd ep gT hn ht [])
theorem aKW{s:eG K}{b d:V3 K}:ag prog Bs 89 (aE (af f88 0)) (eI ps.length ps.length) (eJ ps s b d) 8 ⟨.exit 0,[(12,bY 7),(8,bY 3)],eJ ps s b d,8⟩:=
 ay [.lt 55 ps.length ps.length false s_]
theorem aBd{b d:V3 K}(s s':eG K)(k:Nat):ah (eJ ps s b d) k=none↔ah (eJ ps s' b d) k=none:=ZD (L':=eJ ps s b d) (L:=eJ ps s' b d) rfl k
theorem aKX{b d:V3 K}{z:Nat}(bT:∀ p∈ps,bA m p)(hb:aF q b)(hd:aF q d)(hz:m+(3*(m+q)+14)+1+7*(3*(m+q)+14)+28<=z)(hn:1000*(m+q)+100*z+10000<=az)(h63:ps.length<9223372036854775807):
  (u9 ⟨none,none⟩ b d ps=true->ag prog Bs 89 (.block 0 (af f88 0)) (eI ps.length 0) (eJ ps ⟨none,none⟩ b d) 8 ⟨.normal,[(12,bY 7),(8,bY 3)],eJ ps (nE ⟨none,none⟩ b d ps) b d,8⟩)/\
  (u9 ⟨none,none⟩ b d ps=false->∃ s,ag prog Bs 89 (.block 0 (af f88 0)) (eI ps.length 0) (eJ ps ⟨none,none⟩ b d) 8 ⟨.ret,[(6,.slice none 0 0),(7,.bool false)],eJ ps s b d,9⟩):=by
 have N8:∀ i,mS z (nE ⟨none,none⟩ b d (ps.take i)).lo/\mS z (nE ⟨none,none⟩ b d (ps.take i)).hi:=λi=>N6 hb hd hz (ps.take i) _ (λp hp=>bT p (EJ hp)) n_ n_;have tk:∀{i:Nat} {p:HS K},ps[i]?=some p->ps.take (i+1)=ps.take i++[p]:=λh=>by rw[ua,h];rfl
 let J3:Nat->Bool:=λi=>match ps[i]? with|some p=>rN (nE ⟨none,none⟩ b d (ps.take i)) (dot p.n d) (p.d-dot p.n b)|none=>true
 have N9:∀{i:Nat} {p:HS K},ps[i]?=some p->J3 i=rN (nE ⟨none,none⟩ b d (ps.take i)) (dot p.n d) (p.d-dot p.n b):=λh=>by simp only[J3,h]
 have pL:∀ e,e<=ps.length->(∀ i,i<e->J3 i=true)->∀ i,i<e->
   ag prog Bs 89 (aE (af f88 0)) (eI ps.length i) (eJ ps (nE ⟨none,none⟩ b d (ps.take i)) b d) 8 ⟨.normal,eI ps.length (i+1),eJ ps (nE ⟨none,none⟩ b d (ps.take (i+1))) b d,8⟩:=λe he ax i hi=>by
  have av:i<ps.length:=by omega
  have hp:ps[i]?=some ps[i]:=bd av;have h:=ax i hi;rw[N9 hp]at h;rw[tk hp,aBa];exact aKU av hp (bT _ (eh av)) hb hd (N8 i).1 (N8 i).2 hn h63 h
 refine⟨λaU=>?_,λfP=>?_⟩
 ·have ax:∀ i,i<ps.length->J3 i=true:=λi hi=>by have hp:ps[i]?=some ps[i]:=bd hi;rw[N9 hp];exact(T6 ps _).1 aU i _ hp
  have:=cg (P:=prog) (B:=Bs) (N:=89) ps.length (λi=>eI ps.length i) (λi=>eJ ps (nE ⟨none,none⟩ b d (ps.take i)) b d) (λi k _=>aBd _ _ k) (pL ps.length (aZ _) ax) aKW n_;rw[nB]at this;exact bO (id:=0) this
 ·rcases EG (λi=>!J3 i) (List.range ps.length)with Bz|⟨e,y,h1,h2,h3⟩
  ·exfalso;have:u9 ⟨none,none⟩ b d ps=true:=(T6 ps _).2 λi p hp=>by have av:=(eD.1 hp).1;have:=Bz i (kf.2 av);rw[N9 hp]at this;simpa using this
   rw[this]at fP;cases fP
  ·have av:e<ps.length:=by have:=(eD.1 h1).1;rwa[zL]at this
   have hy:y=e:=by rw[J1 av]at h1;injection h1 with h1;exact h1.symm
   subst hy;have hp:ps[y]?=some ps[y]:=bd av;rw[N9 hp]at h2
   have:=cg (P:=prog) (B:=Bs) (N:=89) y (λi=>eI ps.length i) (λi=>eJ ps (nE ⟨none,none⟩ b d (ps.take i)) b d) (λi k _=>aBd _ _ k)
    (pL y o_ λi hi=>by have:=h3 i i hi (J1 o_);simpa using this) (aKV av hp (bT _ (eh av)) hb hd (N8 y).1 (N8 y).2 hn (by simpa using h2)) n_
   exact⟨_,bO (id:=0) this⟩
end
theorem aBe{s:eG K}{b d:V3 K}{t:K}{z:Nat}(hb:aF q b)(hd:aF q d)(ht:Sz z t)(hn:10*q+10*z+100<=az)(ho:da o.op=some x):
  ct prog Bs o [.func (.func 137) #[] #[bY 7,bY 3],bZ t] [(6,some (.aH (qE s b d) 142)),(7,some (.aH [bY 6] 140)),(3,some (.aH (cO d).cs 42))] (bN (b+smul d t)) []:=by
 have l6:lF 20 (6,.aH (qE s b d) 142)=true:=yH (x:=.aH (qE s b d) 142) (N7 _ _ _);have l7:lF 20 (7,.aH [bY 6] 140)=true:=k_;have l3:lF 20 (3,.aH (cO d).cs 42)=true:=k_
 exact aKs (K:=20) (args:=[bZ t]) (ca:=[bY 7,bY 3]) (Os:=[(6,.aH (qE s b d) 142),(7,.aH [bY 6] 140),(3,.aH (cO d).cs 42)]) (Vs:=[]) (aKR hb hd ht hn) ho k_ k_ k_
  (by simp only[gO,fp,gm,ja,l6,l7,l3];rfl) (by simp only[fp,gm,ja,l6,l7,l3]) rfl rfl
set_option maxRecDepth 8000 in
theorem aKY{q:HS K}(bT:∀ p∈ps,bA m p)(hp:bA m p)(hq:bA m q)(hm:10000000*(m+10)<=az)(h63:ps.length<9223372036854775807)(kX:dS p q≠0->dot (dS p q) (dS p q)≠0):
  match EI ps p q with
  |some (u,v)=>G6 prog 88 [ee ps,.p (dr p),.p (dr q)] 42 30 2 (aW [u,v]) b_
  |none=>cJ prog 88 [ee ps,.p (dr p),.p (dr q)] (.tuple #[.slice none 0 0,.bool false]):=by
 have ax:([ee ps,.p (dr p),.p (dr q)].all aJ.ok)=true:=by simp only[fp,gm,ee,aJ.ok,dF,ja,oH];rfl
 have c1:aB prog 85 [bN p.n,bN q.n] (bN (dS p q)):=uZ hp.1 hq.1 o_;have hD:=T5 hp hq;have z1:=AP hD o_;unfold EI;by_cases h0:dS p q=0
 ·rw[aq h0];rw[aD h0]at z1;exact dR func88 ax 89 (λ_=>[c1.at 20,z1.at 22])
 ·rw[al h0];rw[aQ h0]at z1;have jV:=kX h0;obtain⟨r,hr⟩:∃ r,r=300*m+1000:=⟨_,rfl⟩;obtain⟨z,hz⟩:∃ z,z=30*(m+r)+500:=⟨_,rfl⟩;have hB:aF r (u7 p q):=hr▸aBb hp hq h0 jV;have EK:aF r (dS p q):=hD.mono o_;have c2:=uZ hq.1 hD o_;have s2:=uY (hq.1.aw hD) hp.2 o_;have c3:=uZ hD hp.1 o_;have s3:=uY (hD.aw hp.1) hq.2 o_;have a1:=ED ((hq.1.aw hD).smul hp.2) ((hD.aw hp.1).smul hq.2) o_;have o1:=sK (z:=1) d_;have dd:=tX hD hD o_;have one:Sz 1 (kI 1):=qs d_ d_;have hDD:=hD.dot hD;have dv:=GK jV one hDD o_;have oJ:=Sz.div jV one hDD;have s4:=uY (((hq.1.aw hD).smul hp.2).add ((hD.aw hp.1).smul hq.2)) oJ o_;have lo:=λBs=>aKX (Bs:=Bs) (ps:=ps) (m:=m) (q:=r) (z:=z) bT hB EK o_ o_ h63;have zs:=N6 (m:=m) (q:=r) (z:=z) hB EK o_ ps ⟨none,none⟩ bT n_ n_;unfold J2;have e1:smul (smul (aw q.n (dS p q)) p.d+smul (aw (dS p q) p.n) q.d) (kI 1*(dot (dS p q) (dS p q))⁻¹)=u7 p q:=rfl;rw[e1]at s4;generalize u7 p q=eb at *;generalize dS p q=ed at *;by_cases hs:u9 ⟨none,none⟩ eb ed ps=true
  ·rw[aq hs];have BD:=λBs=>(lo Bs).1 hs;clear lo;obtain⟨zl,zh⟩:=zs;generalize nE ⟨none,none⟩ eb ed ps=sg at *;obtain⟨l,h⟩:=sg;rcases l with _|l
   ·cases h<;>exact dR func88 ax 89 (λw=>[c1.at 20,z1.at 22,c2.at 26,s2.at 29,c3.at 33,s3.at 36,a1.at 37,o1.at 39,dd.at 42,dv.at 43,s4.at 48,.code 0 _ _ _ _ _ (BD _),.cd f88 64 6 0 k_])
   ·rcases h with _|h
    ·exact dR func88 ax 89 (λw=>[c1.at 20,z1.at 22,c2.at 26,s2.at 29,c3.at 33,s3.at 36,a1.at 37,o1.at 39,dd.at 42,dv.at 43,s4.at 48,.code 0 _ _ _ _ _ (BD _),.cd f88 64 6 0 k_,.cd f88 70 6 0 k_])
    ·exact aKP (k:=8) mixed func88 ax 100 (N:=89) k_ (λw=>[c1.at 20,z1.at 22,c2.at 26,s2.at 29,c3.at 33,s3.at 36,a1.at 37,o1.at 39,dd.at 42,dv.at 43,s4.at 48,.code 0 _ _ _ _ _ (BD _),.cd f88 64 6 0 k_,.cd f88 70 6 0 k_,.cd f88 78 6 0 k_,.step 81 (au f88 81) _ _ _ _ (aBe (s:=⟨some l,some h⟩) (x:=.tmp 76) hB EK (zl l rfl) o_ k_),.cd f88 84 6 0 k_,.step 87 (au f88 87) _ _ _ _ (aBe (s:=⟨some l,some h⟩) (x:=.tmp 82) hB EK (zh h rfl) o_ k_),.bs f88 88 8 2 42 30 [0,1] zV.v [bN (eb+smul ed l),bN (eb+smul ed h)] (aW [eb+smul ed l,eb+smul ed h]).toArray (.row (aW [eb+smul ed l,eb+smul ed h]) 42 30) rfl (aX.1 k_) (aX.1 (eH _)) k_ k_ d_ d_ k_]) (λ_=>k_) (eH _) k_ k_
  ·rw[al hs];have BD:=λBs=>(lo Bs).2 (by simpa using hs);exact dR func88 ax 89 (λw=>[c1.at 20,z1.at 22,c2.at 26,s2.at 29,c3.at 33,s3.at 36,a1.at 37,o1.at 39,dd.at 42,dv.at 43,s4.at 48,.code 0 _ _ _ _ _ (BD _).choose_spec])
def yI(p q:Int):K:=(Fr.mk p 0 0 0 q).val
theorem aKZ{p q:Int}(hq:q≠0):bZ (yI p q)=gP (Fr.mk p 0 0 0 q).low:=by show(qp (bI (Fr.mk p 0 0 0 q).val)).v=(qp _).v;rw[Ei (x:=Fr.mk p 0 0 0 q) hq]
theorem aK0{p q:Int}{n:Nat}(hq:q≠0)(h1:p.natAbs<2^n)(h2:q.natAbs<2^n):Sz n (yI p q):=by unfold Sz yI;rw[Ei (x:=Fr.mk p 0 0 0 q) hq];have hp:0<2^n:=cE d_;exact dE.low ⟨h1,hp,hp,hp,h2⟩ hq
def AX(l:List (V3 K)):V3 K:=l.foldl (·+·) ⟨kI 0,kI 0,kI 0⟩
def AY(l:List (V3 K)):V3 K:=smul (AX l) (yI 1 l.length)
theorem aK1(l:List (V3 K))(v:V3 K):AX (l++[v])=AX l+v:=by unfold AX;rw[aBf];rfl
theorem aBg(l:List (V3 K))(hl:∀ v∈l,aF m v):aF (1+l.length*(m+1)) (AX l):=by
 have key:∀(l:List (V3 K)) (u:V3 K) (n:Nat),(∀ v∈l,aF m v)->aF n u->aF (n+l.length*(m+1)) (l.foldl (·+·) u):=by
  intro l;induction l with
  |nil=>intro u n _ h;exact h.mono o_
  |cons v l ih=>
   intro u n hl h;have:=ih (u+v) (n+m+1) (λx hx=>hl x (bB _ hx)) (h.add (hl v (aN ..)));refine this.mono ?_;rw[pU,tC];omega
 exact key l _ 1 hl JV
def rO(ps:List (HS K))(vs:List (V3 K)):Bool:=!decide (vs.length=0)&&!ps.any λp=>decide (OF.aA (dot p.n (AY vs)-p.d)>=0)
section
variable{Bs:ae}{ps:List (HS K)}{vs:List (V3 K)}
def J4(n i:Nat):aL:=[(17,vI i),(15,sl 1 n),(16,vI n),(5,bY 2)]
def sP(vs:List (V3 K))(s:V3 K):aC:=[(1,.view (aW vs)),(2,.aH (cO s).cs 42)]
theorem aK2{s:V3 K}:∀ x∈sP vs s,fW 3 x.2:=λx hx=>by
 simp only[sP,ch,fF,fG]at hx;rcases hx with rfl|rfl
 ·exact λv hv=>iM (aX.1 (eH vs) v hv)
 ·exact λv hv=>iM (RV.mN _ v hv)
theorem aK3{v s:V3 K}{n:Nat}(hi:i<vs.length)(hv:vs[i]?=some v)(hs:aF n s)(hm:aF m v)(cN:m+n<az)(h63:vs.length<9223372036854775807):
  ag prog Bs 38 (aE (af Tryz.f47 0)) (J4 vs.length i) (sP vs s) 3 ⟨.normal,J4 vs.length (i+1),sP vs (s+v),3⟩:=
 vP mixed 100 (gg:=4) [.lt 18 i vs.length true (aD hi),.de Tryz.f47 19 1 vs.length i 30 hi k_,.ld Tryz.f47 20 42 1 (i*30) (.view (aW vs)) (bN v) rfl (nC hv) k_,(ED hs hm o_).at 23,.sum 24 i 1 (i+1) rfl o_] k_ rfl k_ aK2 k_
theorem aK4{s:V3 K}:ag prog Bs 38 (aE (af Tryz.f47 0)) (J4 vs.length vs.length) (sP vs s) 3 ⟨.exit 0,[(5,bY 2)],sP vs s,3⟩:=
 ay [.lt 18 vs.length vs.length false s_]
theorem aK5(s s':V3 K)(k:Nat):ah (sP vs s) k=none↔ah (sP vs s') k=none:=ZD (L':=sP vs s) (L:=sP vs s') rfl k
theorem aK6(aK:∀ v∈vs,aF m v)(hm:m+(1+vs.length*(m+1))<az)(h63:vs.length<9223372036854775807):
  ag prog Bs 38 (.block 0 (af Tryz.f47 0)) (J4 vs.length 0) (sP vs ⟨kI 0,kI 0,kI 0⟩) 3 ⟨.normal,[(5,bY 2)],sP vs (AX vs),3⟩:=by
 have:=cg (P:=prog) (B:=Bs) (N:=38) vs.length (λi=>J4 vs.length i) (λi=>sP vs (AX (vs.take i))) (λi k _=>aK5 _ _ k) (λi hi=>by have hv:vs[i]?=some vs[i]:=bd hi;have hs:=aBg (m:=m) (vs.take i) λv hv=>aK v (EJ hv);have hle:(vs.take i).length*(m+1)<=vs.length*(m+1):=eR _ (by rw[je];omega);rw[ua,hv];show ag _ _ _ _ _ _ _ ⟨_,_,sP vs (AX (vs.take i++[vs[i]])),_⟩;rw[aK1];exact aK3 hi hv hs (aK _ (eh hi)) o_ h63) (by rw[nB];exact aK4) n_
 exact bO (id:=0) this
theorem aK7(bT:∀ p∈ps,bA m p/\p.n≠0)(aK:∀ v∈vs,aF q v)(hm:100*(m+vs.length*(q+1))+10000<=az)(h63:vs.length<2^40)(aK8:ps.length<9223372036854775807):cJ prog 47 [ee ps,tZ vs] (.bool (rO ps vs)):=by
 have ax:([ee ps,tZ vs].all aJ.ok)=true:=by simp only[fp,gm,ee,tZ,aJ.ok,dF,eH,ja]
 unfold rO;by_cases h0:vs.length=0
 ·rw[aD h0];exact dR func47 ax 38 (λw=>[.fX 13 vs.length 0 true (by simp[h0])])
 ·rw[aQ h0];have Ai:q+1<=vs.length*(q+1):=T7 _ o_;have lo:=λBs=>aK6 (Bs:=Bs) aK o_ o_;have aY:(vs.length:Int)≠0:=by omega
  have rt:=aIE (p:=1) (q:=(vs.length:Int)) (n:=40) aY d_ (by simpa using h63) d_;rw[<-aKZ aY]at rt;have hr:=aK0 (p:=1) (q:=(vs.length:Int)) (n:=40) aY d_ (by simpa using h63);have hs:=aBg vs aK;have sc:=uY hs hr o_;have CH:aF (1+vs.length*(q+1)+40+4) (AY vs):=hs.smul hr;have hc:=T0 (g:=95) (caps:=(cO (AY vs)).cs) (ps:=ps) (b:=λp=>decide (OF.aA (dot p.n (AY vs)-p.d)>=0)) k_ (aX.2 (RV.mN _)) aK8 λp hp=>aKB (bT p hp).1 CH o_ (bT p hp).2;have e:smul (AX vs) (yI 1 (vs.length:Int))=AY vs:=rfl;rw[e]at sc;generalize (ps.any λp=>decide (OF.aA (dot p.n (AY vs)-p.d)>=0))=t at *;generalize AY vs=mv at *;exact dR func47 ax 38 (λw=>[.fX 13 vs.length 0 false (by simp[h0]),(wS (a:=0) (b:=0) (c:=0) d_ d_ d_).at 14,.code 0 _ _ _ _ _ (lo _),rt.at 28,sc.at 33,.cR Tryz.f47 36 [sl 0 ps.length,.func (.func 95) #[] #[bY 4]] hc (.w (x:=.view (bw ps)) rfl (dF ps) j4 (.f (x:=.aH (cO mv).cs 42) rfl (aX.2 (RV.mN _)) .nil))])
end
def qG(ps:List (HS K))(p q:HS K):List (V3 K):=match EI ps p q with|some (u,v)=>[u,v]|none=>[]
def kK(ps:List (HS K))(p:HS K)(l:List (HS K)):List (V3 K):=l.flatMap (qG ps p)
theorem aK9{q:HS K}(l:List (HS K)):kK ps p (l++[q])=kK ps p l++qG ps p q:=by unfold kK;rw[JZ];simp
theorem aLa(ps:List (HS K))(p q:HS K):(qG ps p q).length<=2:=by
 unfold qG;split
 ·exact aZ _
 ·exact kB _
theorem T8(ps:List (HS K))(p:HS K):∀ l:List (HS K),(kK ps p l).length<=2*l.length
 |[]=>kB _
 |q::l=>by have h1:=T8 ps p l;have h2:=aLa ps p q;show(qG ps p q++kK ps p l).length<=_;rw[jW,pU];omega
theorem sQ(l:List (V3 K)):(aW l).length=l.length*30:=by unfold aW;rw[rL iR,gF]
theorem T9(l m:List (V3 K)):aW l++aW m=aW (l++m):=by unfold aW dj;rw[vC,JY]
theorem J5(l:List (V3 K)):∀ v∈aW l,v.oneCell'=true:=λv hv=>by unfold aW dj cr at hv;rw[CF]at hv;obtain⟨x,_,hx⟩:=hv;exact iR.one x v hx
section
variable{Bs:ae}{ps:List (HS K)}
def J6(n i j L:Nat):aL:=[(21,vI j),(19,sl 0 i),(20,vI i),(0,sl 0 n),(5,bY 2),(3,sl 3 L)]
def yJ(ps:List (HS K))(p:HS K):aC:=[(0,.view (bw ps)),(2,.aH (cS p).cs 66)]
def qH(acc:List (V3 K)):List Obj:=[.row (aW acc) 42 30]
theorem aLb{q:HS K}(hj:j<i)(mh:i<=ps.length)(hq:ps[j]?=some q)(bT:∀ p∈ps,bA m p)(hp:bA m p)(hm:10000000*(m+10)<=az)(h63:ps.length<1000)(Ua:acc.length<=1000000)(kX:dS p q≠0->dot (dS p q) (dS p q)≠0):
  ∃ σ gg,(∀ AZ:List (V3 K),uO (yJ ps p++dc [some 1] (qH AZ)) 3 σ (J6 ps.length i (j+1) (acc++qG ps p q).length) (yJ ps p) (qH (acc++qG ps p q))=true)/\
   ag prog Bs 42 (aE (af Tryz.f46 2)) (J6 ps.length i j acc.length) (yJ ps p++marks 3 (qH acc)) 4 ⟨.normal,eY 3 σ (J6 ps.length i (j+1) (acc++qG ps p q).length),yJ ps p++dc σ (qH (acc++qG ps p q)),gg⟩:=by
 have he:=aKY bT hp (bT q (cL hq)) hm o_ kX;unfold qG;cases hk:EI ps p q with
 |none=>
  rw[hk]at he;dsimp only at he ⊢;rw[gO];refine⟨[some 3],5,λAZ=>k_,?_⟩;exact ay [.lt 22 j i true (aD hj),.de Tryz.f46 23 0 i j 40 hj k_,.ld Tryz.f46 24 66 0 (j*40) (.view (bw ps)) (dr q) rfl (yF hq) k_,.cR Tryz.f46 29 [sl 0 ps.length,dr p,dr q] he (.w (x:=.view (bw ps)) rfl (dF ps) j4 (.p k_ (.p k_ .nil))),.sum 36 j 1 (j+1) rfl o_]
 |some uv=>
  obtain⟨u,v⟩:=uv;rw[hk]at he;dsimp only at he ⊢;have hl:(acc++[u,v]).length=acc.length+2:=by simp
  rw[hl];refine⟨[some 6],7,λAZ=>k_,?_⟩;exact ay [.lt 22 j i true (aD hj),.de Tryz.f46 23 0 i j 40 hj k_,.ld Tryz.f46 24 66 0 (j*40) (.view (bw ps)) (dr q) rfl (yF hq) k_,.step 29 (au Tryz.f46 29) [.func (.func 88) #[] #[],sl 0 ps.length,dr p,dr q] [(5,none),(0,some (.view (bw ps)))] (.tuple #[sl 5 2,.bool true]) [(5,.row (aW [u,v]) 42 30)]
    (T4 he (.w (x:=.view (bw ps)) rfl (dF ps) j4 (.p k_ (.p k_ .nil))) (x:=.func 88) k_ k_ (eH _) k_ 5),
   .pr Tryz.f46 35 6 3 acc.length 2 (acc.length+2) 42 30 360 (aW acc) 5 (.row (aW [u,v]) 42 30) (aW (acc++[u,v])) rfl rfl (sQ _) (sQ _) (T9 _ _) (J5 _) d_ (by simp[maxLen];omega) o_ k_,
   .sum 36 j 1 (j+1) rfl o_]
theorem aLc:∀ x∈yJ ps p,fW 3 x.2:=λx hx=>by
 simp only[yJ,ch,fF,fG]at hx;rcases hx with rfl|rfl
 ·exact λv hv=>iM (aX.1 (dF ps) v hv)
 ·exact λv hv=>iM (iD.flat _ v hv)
theorem aBh:∀ x∈qH acc,fW m x:=λx hx=>by simp only[qH,ch,fF,fG]at hx;subst hx;exact λv hv=>iM (aX.1 (eH acc) v hv)
theorem aLd(mh:i<=ps.length)(bT:∀ p∈ps,bA m p)(hp:bA m p)(hm:10000000*(m+10)<=az)(h63:ps.length<=500)(Ua:acc.length+2*i<=1000000)
  (kX:∀ p q:HS K,dS p q≠0->dot (dS p q) (dS p q)≠0) :
  ag prog Bs 42 (.block 2 (af Tryz.f46 2)) (eY 3 [some 1] (J6 ps.length i 0 acc.length)) (yJ ps p++dc [some 1] (qH acc)) 3
   ⟨.normal,[(3,sl 3 (acc++kK ps p (ps.take i)).length)],yJ ps p++marks 3 (qH (acc++kK ps p (ps.take i))),4⟩:=by
 have hlen:∀ j,j<=i->(acc++kK ps p (ps.take j)).length<=1000000:=λj hj=>by have:=T8 ps p (ps.take j);rw[je]at this;rw[jW];omega
 have:=rm (P:=prog) (B:=Bs) (N:=42) (b:=aE (af Tryz.f46 2)) (next:=3) (p:=1) (r:=⟨.exit 2,[(3,sl 3 (acc++kK ps p (ps.take i)).length)],yJ ps p++marks 3 (qH (acc++kK ps p (ps.take i))),4⟩) i
  (λj=>J6 ps.length i j (acc++kK ps p (ps.take j)).length) (λ_=>yJ ps p) (λj=>qH (acc++kK ps p (ps.take j))) [some 1] (λ_ _=>rfl) (λj _=>⟨aLc,aBh⟩) k_ k_
  (λj hj=>by
   have hq:ps[j]?=some ps[j]:=bd o_;have e:acc++kK ps p (ps.take (j+1))=(acc++kK ps p (ps.take j))++qG ps p ps[j]:=by
    rw[ua,hq,Bx]
    congr 1
    exact aK9 _
   obtain⟨σ,gg,h1,h2⟩:=aLb (Bs:=Bs) (acc:=acc++kK ps p (ps.take j)) hj mh hq bT hp hm o_ (hlen j o_) (kX p ps[j]);rw[e];exact⟨σ,gg,h1 _,h2⟩)
  (by generalize acc++kK ps p (ps.take i)=a;exact ay [.lt 22 i i false s_]) n_
 have e0:acc++kK ps p (ps.take 0)=acc:=by simp[kK]
 rw[e0]at this;exact bO (id:=2) this
def J7(ps:List (HS K))(i:Nat):List (V3 K):=match ps[i]? with|some p=>kK ps p (ps.take i)|none=>[]
def ml(ps:List (HS K))(n:Nat):List (V3 K):=(List.range n).flatMap (J7 ps)
theorem Oa(h:ps[i]?=some p):J7 ps i=kK ps p (ps.take i):=by unfold J7;rw[h]
theorem aBi(n:Nat):ml ps (n+1)=ml ps n++J7 ps n:=by unfold ml;rw[Jj,JZ];simp
theorem Ob:∀ n,n<=ps.length->(ml ps n).length<=n*(2*ps.length)
 |0,_=>by simp[ml]
 |n+1,h=>by have h1:=Ob n o_;have hp:ps[n]?=some ps[n]:=bd o_;have h2:=T8 ps ps[n] (ps.take n);rw[je]at h2;rw[aBi,Oa hp,jW,tC];omega
def Oc(n i L:Nat):aL:=[(12,vI i),(10,sl 0 n),(11,vI n),(0,sl 0 n),(3,sl 1 L)]
def CI(ps:List (HS K)):aC:=[(0,.view (bw ps))]
theorem aLe:∀ x∈CI ps,fW m x.2:=λx hx=>by simp only[CI,ch,fF,fG]at hx;subst hx;exact λv hv=>iM (aX.1 (dF ps) v hv)
theorem aLf(hi:i<ps.length)(iE:ps[i]?=some p)(bT:∀ p∈ps,bA m p)(hm:10000000*(m+10)<=az)(h63:ps.length<=500)(Ua:acc.length+2*i<=1000000)
  (kX:∀ p q:HS K,dS p q≠0->dot (dS p q) (dS p q)≠0) :
  ag prog Bs 42 (aE (af Tryz.f46 0)) (Oc ps.length i acc.length) (CI ps++marks 1 (qH acc)) 2
   ⟨.normal,eY 1 [some 3] (Oc ps.length (i+1) (acc++kK ps p (ps.take i)).length),CI ps++dc [some 3] (qH (acc++kK ps p (ps.take i))),4⟩:=by
 have lo:=aLd (Bs:=Bs) (acc:=acc) (p:=p) (show i<=ps.length by omega) bT (bT p (cL iE)) hm h63 Ua kX;generalize acc++kK ps p (ps.take i)=a at *;exact ay [.lt 13 i ps.length true (aD hi),.de Tryz.f46 15 0 ps.length i 40 hi k_,.ld Tryz.f46 16 66 0 (i*40) (.view (bw ps)) (dr p) rfl (yF iE) k_,.upto Tryz.f46 19 0 ps.length i 40 o_ k_,.code 2 _ _ _ _ _ lo,.sum 37 i 1 (i+1) rfl o_]
theorem aLg(bT:∀ p∈ps,bA m p)(hm:10000000*(m+10)<=az)(h63:ps.length<=500)(kX:∀ p q:HS K,dS p q≠0->dot (dS p q) (dS p q)≠0):
  ag prog Bs 42 (.block 0 (af Tryz.f46 0)) (eY 1 [none] (Oc ps.length 0 0)) (CI ps++dc [none] (qH [])) 1 ⟨.normal,[(3,sl 1 (ml ps ps.length).length)],CI ps++marks 1 (qH (ml ps ps.length)),2⟩:=by
 have:=rm (P:=prog) (B:=Bs) (N:=42) (b:=aE (af Tryz.f46 0)) (next:=1) (p:=1) (r:=⟨.exit 0,[(3,sl 1 (ml ps ps.length).length)],CI ps++marks 1 (qH (ml ps ps.length)),2⟩) ps.length
  (λi=>Oc ps.length i (ml ps i).length) (λ_=>CI ps) (λi=>qH (ml ps i)) [none] (λ_ _=>rfl) (λj _=>⟨aLe,aBh⟩) k_ k_
  (λi hi=>by have hp:ps[i]?=some ps[i]:=bd hi;have hl:=Ob i (by omega:i<=ps.length);have kO:i*(2*ps.length)<=500*1000:=BS o_ o_;refine⟨[some 3],4,k_,?_⟩;rw[aBi,Oa hp];exact aLf hi hp bT hm h63 o_ kX)
  (by generalize ml ps ps.length=a;exact ay [.lt 13 ps.length ps.length false s_]) n_
 exact bO (id:=0) this
end
end
section
open Go Go.RowKit
deriving instance DecidableEq for RI
deriving instance DecidableEq for RN
deriving instance DecidableEq for RV
deriving instance DecidableEq for RP
theorem CJ{α:Type}[DecidableEq α]:∀(a b:List α),a.length=b.length->a=b\/∃(e:Nat) (x y:α),a[e]?=some x/\b[e]?=some y/\x≠y/\∀(j:Nat) (u v:α),j<e->a[j]?=some u->b[j]?=some v->u=v
 |[],[],_=>.inl rfl
 |[],_::_,h=>by cases h
 |_::_,[],h=>by cases h
 |x::a,y::b,h=>by
  by_cases jX:x=y
  ·subst jX;rcases CJ a b (by simpa using h)with h|⟨e,u,v,h1,h2,h3,h4⟩
   ·exact .inl (by rw[h])
   ·refine .inr ⟨e+1,u,v,by simpa using h1,by simpa using h2,h3,λj p q hj hp hq=>?_⟩;cases j with
    |zero=>simp at hp hq;rw[<-hp,<-hq]
    |succ j=>exact h4 j p q o_ (by simpa using hp) (by simpa using hq)
  ·exact .inr ⟨0,x,y,rfl,rfl,jX,λj u v hj=>by omega⟩
section
variable{Bs:ae}{a b:List RV}
def CK(n i:Nat):aL:=[(13,vI i),(11,sl 0 n),(12,vI n),(0,sl 0 n),(1,sl 1 n)]
def vf(a b:List RV):aC:=[(0,.view (dj a)),(1,.view (dj b))]
noncomputable def aBj{n:Nat}{x y:RV}(hi:i<n)(hx:a[i]?=some x)(hy:b[i]?=some y)(mT:x.Sm)(wW:y.Sm)(ht:(!t)=true↔x=y)(more:bK prog Bs 26):bK prog Bs 26:=
 .lt 14 i n true (aD hi)::.de Tryz.f57 18 0 n i 30 hi k_::.ld Tryz.f57 19 42 0 (i*30) (.view (dj a)) x.v rfl (tY hx) k_::.de Tryz.f57 22 1 n i 30 hi k_::.ld Tryz.f57 23 42 1 (i*30) (.view (dj b)) y.v rfl (tY hy) k_::
  .step 24 (au Tryz.f57 24) [x.v,y.v] [] (.bool t) [] (Em (neg:=false) k_ x y mT wW ht)::more
theorem aBk{n:Nat}{x:RV}(hi:i<n)(hx:a[i]?=some x)(hy:b[i]?=some x)(mT:x.Sm)(h63:n<9223372036854775807):
  ag prog Bs 26 (aE (af Tryz.f57 0)) (CK n i) (vf a b) 2 ⟨.normal,CK n (i+1),vf a b,2⟩:=
 ay (aBj (t:=false) hi hx hy mT mT s_ [.sum 25 i 1 (i+1) rfl o_])
theorem aLh{n:Nat}{x y:RV}(hi:i<n)(hx:a[i]?=some x)(hy:b[i]?=some y)(mT:x.Sm)(wW:y.Sm)(aY:x≠y):
  ag prog Bs 26 (aE (af Tryz.f57 0)) (CK n i) (vf a b) 2 ⟨.ret,[(4,.bool false)],vf a b,2⟩:=
 ay (aBj (t:=true) hi hx hy mT wW (by simp[aY]) [])
theorem aLi{n:Nat}:ag prog Bs 26 (aE (af Tryz.f57 0)) (CK n n) (vf a b) 2 ⟨.exit 0,[],vf a b,2⟩:=
 ay [.lt 14 n n false s_]
theorem aLj(ha:∀ x∈a,x.Sm)(hb:∀ x∈b,x.Sm)(h63:a.length<9223372036854775807):cJ prog 57 [.r a.length (dj a),.r b.length (dj b)] (.bool (decide (a=b))):=by
 have ax:([aJ.r a.length (dj a),.r b.length (dj b)].all aJ.ok)=true:=by simp only[fp,gm,aJ.ok,iZ iR,ja]
 by_cases hl:a.length=b.length
 ·have aY:(Value.bool (!((a.length:Int)==(b.length:Int))))=.bool false:=by rw[hl];simp
  rcases CJ a b hl with h|⟨e,x,y,h1,h2,h3,h4⟩
  ·rw[aD h];subst h;have lo:∀ B:ae,ag prog B 26 (.block 0 (af Tryz.f57 0)) (CK a.length 0) (vf a a) 2 ⟨.normal,[],vf a a,2⟩:=λB=>
    bO (id:=0) (cg a.length (λi=>CK a.length i) (λ_=>vf a a) (λi k _=>Iff.rfl) (λi hi=>by have hx:a[i]?=some a[i]:=bd hi;exact aBk hi hx hx (ha _ (eh hi)) h63) aLi n_)
   exact dR func57 ax 26 (λw=>[.rw 10 _ _ aY,.code 0 _ _ _ _ _ (lo _)])
  ·have bX:a≠b:=λh=>by subst h;rw[h1]at h2;injection h2 with h2;exact h3 h2
   rw[aQ bX];have av:=(eD.1 h1).1;have lo:∀ B:ae,ag prog B 26 (.block 0 (af Tryz.f57 0)) (CK a.length 0) (vf a b) 2 ⟨.ret,[(4,.bool false)],vf a b,2⟩:=λB=>
    bO (id:=0) (cg e (λi=>CK a.length i) (λ_=>vf a b) (λi k _=>Iff.rfl) (λi hi=>by have hx:a[i]?=some a[i]:=bd o_;have hy:b[i]?=some b[i]:=bd o_;have:=h4 i _ _ hi hx hy;rw[<-this]at hy;exact aBk o_ hx hy (ha _ (eh _)) h63) (aLh av h1 h2 (ha _ (cL h1)) (hb _ (cL h2)) h3) n_)
   have AF:([aJ.r a.length (dj a),.r a.length (dj b)].all aJ.ok)=true:=by simp only[fp,gm,aJ.ok,iZ iR,ja]
   rw[<-hl]at aY ⊢;exact dR func57 AF 26 (λw=>[.rw 10 _ _ aY,.code 0 _ _ _ _ _ (lo _)])
 ·have bX:a≠b:=λh=>hl (by rw[h]);rw[aQ bX];exact dR func57 ax 26 (λw=>[.rw 10 (.bool (!((a.length:Int)==(b.length:Int)))) b_ (by congr 1;simp;omega)])
end
end
section
variable{P:j_}{B:ae}{N:Nat}
theorem aBl{ι:Map}{off:Nat}:∀{l l':ak},bJ (aG ι) l l'->∀(k:Nat) {cs bW:p_},bJ (aG ι) cs.toList bW.toList->
  bJ (aG ι) ((l.zipIdx k).foldl (λ(cs:p_) p=>cs.setIfInBounds (off+p.2) p.1) cs).toList ((l'.zipIdx k).foldl (λ(cs:p_) p=>cs.setIfInBounds (off+p.2) p.1) bW).toList
 |_,_,.nil,k,cs,bW,h=>h
 |_,_,.cons (a:=a) (b:=b) bX ht,k,cs,bW,h=>by simp only[List.zipIdx_cons,uH];refine aBl ht (k+1) ?_;simp only[aFC];exact h.set bX _
theorem Od{ι:Map}{place:Nat->Option (Nat×Nat)}:∀(idx:l_) {vs cU:ak} {cs bW r:p_},bJ (aG ι) vs cU->bJ (aG ι) cs.toList bW.toList->Instr.fill place cs (idx.zip vs)=some r->
  ∃ r',Instr.fill place bW (idx.zip cU)=some r'/\bJ (aG ι) r.toList r'.toList
 |[],vs,cU,cs,bW,r,_,hc,h=>by simp only[List.zip_nil_left,Instr.fill]at h ⊢;injection h with h;subst h;exact⟨bW,rfl,hc⟩
 |i::idx,_,_,cs,bW,r,.nil,hc,h=>by simp only[List.zip_nil_right,Instr.fill]at h ⊢;injection h with h;subst h;exact⟨bW,rfl,hc⟩
 |i::idx,_,_,cs,bW,r,.cons (a:=v) (b:=v') hv ht,hc,h=>by
  simp only[List.zip_cons_cons,Instr.fill]at h ⊢;split at h
  ·cases h
  ·rename_i off size hp;have jI:=hv.cells;have bE:v'.cells.size=v.cells.size:=by have:=jI.length;simpa using this.symm
   have e7:bW.size=cs.size:=by have:=hc.length;simpa using this.symm
   split at h
   ·cases h
   ·rename_i o9;rw[bE,e7,al o9];refine Od idx ht ?_ h;have:=aBl (off:=off) jI 0 hc;rw[<-ZR,<-ZR,Array.toList_zipIdx,Array.toList_zipIdx];exact this
def aBm(o:Oper):Option (TypeId×List Nat):=match o.op with
 |.build t parts=>some (t,parts.toList.map (·.1))
 |_=>none
theorem Oe{t:TypeId}{idx:l_}(ho:aBm o=some (t,idx)){cells:p_}(hz:∀ it z,P.info? t=some it->it.zero=some z->∀ v∈z.cells.toList,flat v=true)(h:P.built t (idx.zip vs)=some cells):
  ct P B o vs [] (.agg cells) []:=by
 unfold aBm at ho;split at ho
 ·rename_i t' parts bM;injection ho with ho;injection ho with h1 h2;subst h1;subst h2;refine gL.step λι c ρ w aK hm hn=>?_;rw[bM]at aK;have aK:bJ (aG ι) vs ((parts.toList.map (·.2)).map ρ):=by simpa[Op.operands]using aK
  have hex:∃ cells',P.built t' ((parts.toList.map (·.1)).zip ((parts.toList.map (·.2)).map ρ))=some cells'/\bJ (aG ι) cells.toList cells'.toList:=by
   unfold Program.built at h ⊢;split at h
   ·rename_i it n e hi hu;split at h
    ·rename_i z ie G7 J8;exact Od _ aK (j7 (hz it z hi G7)) h
    ·cases h
   ·rename_i it fields hi hu;split at h
    ·rename_i z places G7 J8;exact Od _ aK (j7 (hz it z hi G7)) h
    ·cases h
   ·cases h
  obtain⟨cells',e1,e2⟩:=hex;refine⟨ι,.agg cells',w,Map.le.refl _,?_,hm,.inl ?_⟩
  ·have:=aG.agg (ι:=ι) e2;simpa using this
  ·have bT:(parts.map λ(i,x)=>(i,ρ x)).toList=(parts.toList.map (·.1)).zip ((parts.toList.map (·.2)).map ρ):=by rw[<-Mb parts.toList rfl];simp
   have:=run_build (P:=P) w t' (parts.map λ(i,x)=>(i,ρ x)) cells' (by rw[bT];exact e1);simp only[execOp,bM];simp[this]
 ·cases ho
end
def hZ:Value->Option Nat
 |.slice (some a) _ _=>some a.block
 |_=>none
def wX(w w':h_)(b:Nat):Prop:=∀ cs ty f,w.heap[b]?=some (Go.Obj.cells cs ty f)->w'.heap[b]?=some (Go.Obj.cells cs ty f)
theorem Ub{o:Nat}(h:wX w w' b)(hc:w.cell? ⟨b,o,none⟩=some u):w'.cell? ⟨b,o,none⟩=some u:=by
 unfold World.cell? at hc ⊢;dsimp only at hc ⊢;split at hc
 ·rename_i cs ty f he;rw[h _ _ _ he];exact hc
 ·cases hc
theorem cZ.kept{v:i_}{n:Nat}(h:cZ w v n xs)(hs:w.heap.size<=w'.heap.size)(hk:∀ b,hZ v=some b->wX w w' b):cZ w' v n xs:=by
 rcases h with h|⟨b,o,c,h1,h2,h3,h4⟩
 ·exact .inl h
 ·exact .inr ⟨b,o,c,h1,h2,cy h3 hs,λj u hj=>Ub (hk b (by rw[h1];rfl)) (h4 j u hj)⟩
theorem cZ.lt{v:i_}{n:Nat}(h:cZ w v n xs)(hb:hZ v=some b):b<w.heap.size:=by
 rcases h with ⟨h,_⟩|⟨b',o,c,h1,h2,h3,h4⟩
 ·rw[h]at hb;cases hb
 ·rw[h1]at hb;injection hb with hb;subst hb;exact h3
def aj(l:l_):ak:=l.map vI
def iV(z:Int):Value:=.int .i64 z
def e6(l:List Int):ak:=l.map iV
inductive nF(w:h_):f_->ak->Prop
 |nil:nF w [] []
 |cons {i:Int} {l:List Int} {u:i_} {fs:f_} {cs:ak}:cZ w u l.length (e6 l)->flat u=true->nF w fs cs->nF w ((i,l)::fs) (iV i::u::cs)
theorem nF.length{cs:ak}(h:nF w fs cs):cs.length=fs.length*2:=by
 induction h with
 |nil=>rfl
 |cons _ _ _ ih=>simp only[pU,ih];omega
theorem nF.kept{cs:ak}(h:nF w fs cs)(hs:w.heap.size<=w'.heap.size)(hk:∀ u∈cs,∀ b,hZ u=some b->wX w w' b):nF w' fs cs:=by
 induction h with
 |nil=>exact .nil
 |cons h1 h2 _ ih=>exact .cons (h1.kept hs (hk _ (bB _ (aN ..)))) h2 (ih λu hu=>hk u (bB _ (bB _ hu)))
theorem nF.lt{cs:ak}(h:nF w fs cs):∀ u∈cs,∀ b,hZ u=some b->b<w.heap.size:=by
 induction h with
 |nil=>intro u hu;cases hu
 |cons h1 _ _ ih=>
  intro u hu b hb;rcases ch.1 hu with rfl|hu
  ·cases hb
  ·rcases ch.1 hu with rfl|hu
   ·exact h1.lt hb
   ·exact ih u hu b hb
def Of(w:h_)(v:i_)(fs:f_):Prop:=∃ cs,cZ w v fs.length cs/\nF w fs cs
def Og(n:Nat)(v:i_)(w:h_)(k:Nat):Prop:=
 hZ v=some k\/∃ b o c j u,v=.slice (some ⟨b,o,none⟩) n c/\j<n*2/\w.cell? ⟨b,o+j,none⟩=some u/\hZ u=some k
theorem Oh{v:i_}{cs:ak}(h1:cZ w v fs.length cs)(h2:nF w fs cs){o c:Nat}(hv:v=.slice (some ⟨b,o,none⟩) fs.length c)(hj:j<fs.length*2)(hu:w.cell? ⟨b,o+j,none⟩=some u):u∈cs:=by
 rcases h1 with ⟨h,_⟩|⟨b',o',c',e,_,_,h4⟩
 ·rw[h]at hv;cases hv
 ·rw[e]at hv;injection hv with hv _ _;injection hv with hv;injection hv with e1 e2 _;subst e1;subst e2;have av:j<cs.length:=by rw[h2.length];exact hj
  have oQ:cs[j]?=some cs[j]:=bd av;have:=h4 j _ oQ;rw[hu]at this;injection this with this;rw[this];exact eh av
theorem aBn{v:i_}(h:Of w v fs)(hs:w.heap.size<=w'.heap.size)(hk:∀ k,Og fs.length v w k->wX w w' k):
  Of w' v fs/\∀ k,Og fs.length v w' k->Og fs.length v w k:=by
 obtain⟨cs,h1,h2⟩:=h;have G8:∀ b,hZ v=some b->wX w w' b:=λb hb=>hk b (.inl hb);have Oi:∀ u∈cs,∀ b,hZ u=some b->wX w w' b:=λu hu b hb=>by
  rcases h1 with ⟨_,_,h⟩|⟨b',o',c',e,_,_,h4⟩
  ·rw[h]at hu;cases hu
  ·obtain⟨j,hj,rfl⟩:=lI hu;refine hk b (.inr ⟨b',o',c',j,_,e,by rw[<-h2.length];exact hj,h4 j _ (bd hj),hb⟩)
 refine⟨⟨cs,h1.kept hs G8,h2.kept hs Oi⟩,λk hF=>?_⟩;rcases hF with hF|⟨b,o,c,j,u,e,hj,hc,hb⟩
 ·exact .inl hF
 ·have:=Oh (h1.kept hs G8) (h2.kept hs Oi) e hj hc;rcases h1 with ⟨h,_⟩|⟨b',o',c',e',_,_,h4⟩
  ·rw[h]at e;cases e
  ·rw[e']at e;injection e with e1 _ e3;injection e1 with e1;injection e1 with e1 e2 _;subst e1;subst e2;subst e3;have av:j<cs.length:=by rw[h2.length];exact hj
   have h5:=h4 j _ (bd av);have h6:=Ub (G8 b' (by rw[e'];rfl)) h5;rw[hc]at h6;injection h6 with h6;exact .inr ⟨b',o',c',j,u,e',hj,by rw[h6];exact h5,hb⟩
def mn(fs:f_):Fact where
 G v w:=Of w v fs
 cI v w k:=Og fs.length v w k
 lt v w k h hF:=by
  obtain⟨cs,h1,h2⟩:=h;rcases hF with hF|⟨b,o,c,j,u,e,hj,hc,hb⟩
  ·exact h1.lt hF
  ·exact h2.lt u (Oh h1 h2 e hj hc) k hb
 dep v w w' h hs hk:=aBn h hs λk hF cs ty f hc=>(hk k hF).trans hc
 soft _ v w w' h hs hk:=aBn h hs hk
theorem aBo(l:List Int):(e6 l).all flat=true:=by rw[aX];intro v hv;obtain⟨z,_,rfl⟩:=dq.1 hv;rfl
theorem EL(cells:ak)(i:Nat):dB prog 3 cells i=cells[i]?:=by kernel_rfl
theorem Oj{l:List Int}(h:l[i]?=some z):dB prog 3 (e6 l) i=some (iV z):=by rw[EL];show(l.map iV)[i]?=_;rw[xN,h];rfl
section
variable{Bs:ae}{a b:List Int}
def CL(n i:Nat):aL:=[(13,vI i),(11,sl 0 n),(12,vI n),(0,sl 0 n),(1,sl 1 n)]
def vg(a b:List Int):aC:=[(0,.view (e6 a)),(1,.view (e6 b))]
noncomputable def aBp{n:Nat}{x:Int}(hi:i<n)(hx:a[i]?=some x)(hy:b[i]?=some y)(ht:(!(x==y))=t)(more:bK prog Bs 26):bK prog Bs 26:=
 .lt 14 i n true (aD hi)::.ix f56 18 0 n i hi k_::.ld f56 19 3 0 i (.view (e6 a)) (iV x) rfl (Oj hx) k_::.ix f56 22 1 n i hi k_::.ld f56 23 3 1 i (.view (e6 b)) (iV y) rfl (Oj hy) k_::
  .rw 24 (.bool (!(x==y))) (.bool t) (by rw[ht])::more
theorem aBq{n:Nat}{x:Int}(hi:i<n)(hx:a[i]?=some x)(hy:b[i]?=some x)(h63:n<9223372036854775807):
  ag prog Bs 26 (aE (af f56 0)) (CL n i) (vg a b) 2 ⟨.normal,CL n (i+1),vg a b,2⟩:=
 ay (aBp (t:=false) hi hx hy s_ [.sum 25 i 1 (i+1) rfl o_])
theorem aLk{n:Nat}{x:Int}(hi:i<n)(hx:a[i]?=some x)(hy:b[i]?=some y)(aY:x≠y):
  ag prog Bs 26 (aE (af f56 0)) (CL n i) (vg a b) 2 ⟨.ret,[(4,.bool false)],vg a b,2⟩:=
 ay (aBp (t:=true) hi hx hy (by simp[aY]) [])
theorem aLl{n:Nat}:ag prog Bs 26 (aE (af f56 0)) (CL n n) (vg a b) 2 ⟨.exit 0,[],vg a b,2⟩:=
 ay [.lt 14 n n false s_]
theorem aLm(h63:a.length<9223372036854775807):cJ prog 56 [.r a.length (e6 a),.r b.length (e6 b)] (.bool (decide (a=b))):=by
 have ax:([aJ.r a.length (e6 a),.r b.length (e6 b)].all aJ.ok)=true:=by simp only[fp,gm,aJ.ok,aBo,ja]
 by_cases hl:a.length=b.length
 ·have aY:(Value.bool (!((a.length:Int)==(b.length:Int))))=.bool false:=by rw[hl];simp
  rcases CJ a b hl with h|⟨e,x,y,h1,h2,h3,h4⟩
  ·rw[aD h];subst h;have lo:∀ B:ae,ag prog B 26 (.block 0 (af f56 0)) (CL a.length 0) (vg a a) 2 ⟨.normal,[],vg a a,2⟩:=λB=>
    bO (id:=0) (cg a.length (λi=>CL a.length i) (λ_=>vg a a) (λi k _=>Iff.rfl) (λi hi=>by have hx:a[i]?=some a[i]:=bd hi;exact aBq hi hx hx h63) aLl n_)
   exact dR func56 ax 26 (λw=>[.rw 10 _ _ aY,.code 0 _ _ _ _ _ (lo _)])
  ·have bX:a≠b:=λh=>by subst h;rw[h1]at h2;injection h2 with h2;exact h3 h2
   rw[aQ bX];have av:=(eD.1 h1).1;have lo:∀ B:ae,ag prog B 26 (.block 0 (af f56 0)) (CL a.length 0) (vg a b) 2 ⟨.ret,[(4,.bool false)],vg a b,2⟩:=λB=>
    bO (id:=0) (cg e (λi=>CL a.length i) (λ_=>vg a b) (λi k _=>Iff.rfl) (λi hi=>by have hx:a[i]?=some a[i]:=bd o_;have hy:b[i]?=some b[i]:=bd o_;have:=h4 i _ _ hi hx hy;rw[<-this]at hy;exact aBq o_ hx hy h63) (aLk av h1 h2 h3) n_)
   have AF:([aJ.r a.length (e6 a),.r a.length (e6 b)].all aJ.ok)=true:=by simp only[fp,gm,aJ.ok,aBo,ja]
   rw[<-hl]at aY ⊢;exact dR func56 AF 26 (λw=>[.rw 10 _ _ aY,.code 0 _ _ _ _ _ (lo _)])
 ·have bX:a≠b:=λh=>hl (by rw[h]);rw[aQ bX];exact dR func56 ax 26 (λw=>[.rw 10 (.bool (!((a.length:Int)==(b.length:Int)))) b_ (by congr 1;simp;omega)])
end
section
variable{P:j_}{B:ae}{N:Nat}
def aBr(P:j_)(o:Oper):Bool:=match o.op with
 |.binOp .eql t _ _ _=>(match P.underlying t with|some (.slice _)=>true|_=>false)
 |_=>false
theorem aBs(ho:aBr P o=true){n:Nat}(jV:0<n):ct P B o [.slice (some ⟨k,off,some 7⟩) n cc,.slice none 0 0] [] a_ []:=by
 unfold aBr at ho;split at ho
 ·rename_i t x y ty bM;split at ho
  ·rename_i e ht;refine gL.step λι c ρ w aK hm hn=>?_;rw[bM]at aK;obtain⟨u,v,Ol,hu,hv⟩:=iH aK;have Ol:ρ x=u/\ρ y=v:=by simpa[Op.operands]using Ol
   have oC:=hv.eW rfl;rcases hu.gK rfl with ⟨_,h0,_⟩|⟨b,oo,cap,c',hb,kQ,lP,he⟩
   ·omega
   ·refine⟨ι,.bool false,w,Map.le.refl _,.same rfl,hm,.inl ?_⟩;simp only[execOp,bM,Ol.1,Ol.2,he,oC];have h2:=Lib.run_eql_slice_nil (P:=P) w t e (some ⟨b,oo+off,none⟩) n c' 0 0 ht;simp only[Option.isNone_some]at h2;simp[eqGuard,h2]
  ·cases ho
 ·cases ho
end
abbrev bz:Nat:=16777216
theorem lJ(l:l_):∀ u∈aj l,flat u=true:=λu hu=>by obtain⟨x,_,rfl⟩:=dq.1 hu;rfl
theorem gQ(l:l_):(aj l).all flat=true:=aX.2 (lJ l)
theorem mU(l:l_):(aj l).length=l.length:=by simp[aj]
theorem dJ{l:l_}{x:Nat}(h:l[i]?=some x):dB prog 3 (aj l) i=some (vI x):=by rw[EL];simp[aj,h]
theorem Om(cells:ak)(i:Nat)(z:Int)(h:i<cells.length):eM prog 3 cells i (.int .i64 z)=some (cells.set i (.int .i64 z)):=by
 have e:eM prog 3 cells i (.int .i64 z)=if(Nat.ble (i+1) cells.length&&true)then some (iv cells i [.int .i64 z])else none:=by kernel_rfl
 rw[e,Qg h];rfl
theorem On(l:l_)(i d:Nat):(aj l).set i (vI d)=aj (l.set i d):=by simp[aj,List.map_set]
theorem vh{l:l_}(h:i<l.length):eM prog 3 (aj l) i (vI d)=some (aj (l.set i d)):=by rw[<-On];exact Om _ _ _ (by rw[mU];exact h)
theorem J9(n:Nat):List.replicate n (vI 0)=aj (List.replicate n 0):=by simp[aj]
def cG(a:Nat):ak:=aj (aa bz (nd bz a) a)
def jb(a:Nat):aJ:=.r (nd bz a) (cG a)
theorem Uc(a:Nat):(cG a).length=nd bz a:=by unfold cG;rw[mU,nR]
theorem rP(a:Nat):(cG a).all flat=true:=gQ _
theorem aLn(h:nd bz a=0):cG a=[]:=j9 (by rw[Uc,h])
theorem aLo{n:Nat}:a/bz^n%bz<bz:=cC _ d_
theorem aLp{n:Nat}(hm:m+1<=n)(ha:a<bz^m)(h63:n<=9223372036854775807):
  ag prog Bs 21 (aE (af f206 0)) [(0,sl 0 (m+1))] [(0,.view (aj (aa bz n a)))] 1 ⟨.normal,[(0,sl 0 m)],[(0,.view (aj (aa bz n a)))],1⟩:=by
 have hd:a/bz^m%bz=0:=(FH d_ (cy ha (cX d_ (xM m)))).2 ha;exact ay [.gt 5 (m+1) 0 true s_,.eO 10 (m+1) 1 m rfl o_,.ix f206 11 0 (m+1) m o_ k_,.ld f206 12 3 0 m (.view (aj (aa bz n a))) (vI (a/bz^m%bz)) rfl (dJ (dV o_)) k_,.fX 13 (a/bz^m%bz) 0 true (by simp[hd]),.eO 18 (m+1) 1 m rfl o_,.upto f206 19 0 (m+1) m 1 o_ k_]
theorem aLq{n:Nat}(hm:m<=n)(ha:a<bz^m)(hl:m=nd bz a)(h63:n<=9223372036854775807):
  ag prog Bs 21 (aE (af f206 0)) [(0,sl 0 m)] [(0,.view (aj (aa bz n a)))] 1 ⟨.exit 0,[(0,sl 0 m)],[(0,.view (aj (aa bz n a)))],1⟩:=by
 cases m with
 |zero=>exact ay [.gt 5 0 0 false s_]
 |succ m=>
  have hd:a/bz^m%bz≠0:=λe=>by have:=iN (B:=bz) d_ ((FH d_ ha).1 e);omega
  exact ay [.gt 5 (m+1) 0 true s_,.eO 10 (m+1) 1 m rfl o_,.ix f206 11 0 (m+1) m o_ k_,.ld f206 12 3 0 m (.view (aj (aa bz n a))) (vI (a/bz^m%bz)) rfl (dJ (dV o_)) k_,.fX 13 (a/bz^m%bz) 0 false (by simp[hd])]
theorem aLr{n:Nat}(ha:a<bz^n)(h63:n<=9223372036854775807):
  ag prog Bs 21 (.block 0 (af f206 0)) [(0,sl 0 n)] [(0,.view (aj (aa bz n a)))] 1 ⟨.normal,[(0,sl 0 (nd bz a))],[(0,.view (aj (aa bz n a)))],1⟩:=by
 have hle:=iN (B:=bz) d_ ha;have av:=dL (B:=bz) d_ a
 have:=cg (P:=prog) (B:=Bs) (N:=21) (b:=aE (af f206 0)) (next:=1) (n-nd bz a) (λi=>[(0,sl 0 (n-i))]) (λ_=>[(0,.view (aj (aa bz n a)))])
  (r:=⟨.exit 0,[(0,sl 0 (nd bz a))],[(0,.view (aj (aa bz n a)))],1⟩) (λ_ _ _=>Iff.rfl)
  (λi hi=>by
   have e:n-i=(n-(i+1))+1:=by omega
   simp only[e];exact aLp o_ (cy av (cX d_ o_)) h63)
  (by
   have e:n-(n-nd bz a)=nd bz a:=by omega
   simp only[e];exact aLq hle av rfl h63) n_
 exact bO this
theorem aBt{v:i_}{n:Nat}(hv:cZ w v n (aj (aa bz n a)))(ha:a<bz^n)(h63:n<=9223372036854775807):
  Calls prog 206 #[v] w λe w'=>e=.returned (LY v (nd bz a))/\Below w.heap.size w w':=by
 refine kU (Q:=λe w'=>e=.returned (LY v (nd bz a))/\Below w.heap.size w w') mixed func206 [.row v n (aj (aa bz n a))] (λs hs=>by simp at hs;subst hs;exact⟨hv,lJ _⟩) 100 (N:=21) k_
  (rs:=[.code 0 _ _ _ _ _ (aLr ha h63)]) (v:=sl 0 (nd bz a)) (ms:=[]) k_ λao bP v' w' hc hm _ dw=>⟨?_,hm.base⟩
 cases dw with
 |cons h1 _=>
 congr 1
 rcases hc.gK rfl with ⟨q1,q2,_,_,q5⟩|⟨b,o,cap,c',q1,q2,q3,q5⟩<;>rcases h1.gK rfl with ⟨p1,p2,_,_,p5⟩|⟨b2,o2,o6,c2,p1,p2,p3,p5⟩
 ·have p5:v=.slice none 0 0:=p5;rw[q5,p5,q2];rfl
 ·rw[q1]at p1;cases p1
 ·rw[q1]at p1;cases p1
 ·rw[q1]at p1;injection p1 with p1;injection p1 with e1 e2 e3;subst e1;subst e2;subst e3;have p5:v=_:=p5;rw[q5,p5,show c'=c2 by omega];rfl
theorem aLs{y:m_}(ho:da o.op=some y){n:Nat}{x:Obj}(hx:x.reads=true)(cA:(x.cells.all flat)=true)(hc:(x.cells.drop off).take n=aj (aa bz n a))(ha:a<bz^n)(h63:n<=9223372036854775807)(xK:n=0->off=0\/True):
  ct prog Bs o [.func (.func 206) #[] #[],.slice (some ⟨k,off,some 7⟩) n 0] [(k,some x)] (.slice (some ⟨k,off,some 7⟩) (nd bz a) 0) []:=by
 refine jy (fi:=[]) (ca:=[]) ho k_ λι c w hm hn args' dw=>?_;obtain⟨v,rfl,h1⟩:=lO dw;have hk:c k=some x:=hn _ (aN ..);have hr:=nQ (len:=n) hm hk hx (aX.1 cA) (λh=>h) h1;rw[hc]at hr;refine(aBt hr ha h63).mono ?_
 rintro e w' ⟨rfl,hb⟩
 refine⟨ι,_,rfl,Map.le.refl _,?_,hm.call hb⟩;have jA:=iN (B:=bz) d_ ha;rcases h1.gK rfl with ⟨q1,q2,_,q4,q5⟩|⟨b,oo,cap,c',q1,q2,q3,q5⟩
 ·rw[q5];have:nd bz a=0:=by omega
  dsimp only at q4;rw[this,q4];exact .slcN q1
 ·rw[q5];exact .slc q1 o_ q3
def aO.CM(fn:Func)(key k n a:Nat)(x:Obj)(hx:x.reads=true)(hc:x.cells=aj (aa bz n a))(ha:a<bz^n)(h63:n<=9223372036854775807)(ho:da (au fn key).op=some (.func 206)):aO prog Bs N:=
 .step key (au fn key) [.func (.func 206) #[] #[],sl k n] [(k,some x)] (sl k (nd bz a)) [] (aLs ho hx (by rw[hc];exact gQ _) (by rw[hc,lv,jN (by simp[aj,nR])]) ha h63 (λ_=>.inr trivial))
section
open Go.Sort (flatK putRowK HoldsK putRow putCells Holds mapBlock grow ahead PermIn SortedIn SWO swp)
section
variable{α:Type}[Inhabited α]{enc:α->ak}{s:Nat}
omit [Inhabited α] in
theorem aBu(h:pK enc s){l:List α}{x:α}(hx:l[i]?=some x)(hr:r<s):(cr enc l)[i*s+r]?=(enc x)[r]?:=by have e:=NX h hx;rw[<-e,tj,aq hr,Fw]
theorem aBv(h:pK enc s)(hs:0<s)(d:Array α):(flatK enc s d).toList=cr enc d.toList:=by
 apply Ru;intro t;by_cases ht:t<d.size*s
 ·have hi:t/s<d.size:=(gY hs).2 ht;have hr:t%s<s:=cC _ hs;have hx:d.toList[t/s]?=some d[t/s]:=by simp[hi]
  have e:=aBu h hx hr;rw[cH,iP]at e;rw[e];have hl:t%s<(enc d[t/s]).length:=by rw[h.len];exact hr
  have e2:=Go.Sort.get_flatK enc s d t ht;have bE:t<(flatK enc s d).size:=by rw[Ud];exact ht
  rw[A0 (flatK enc s d) t bE,A0 d (t/s) hi,A0 (enc d[t/s]) (t%s) hl]at e2;rw[Array.getElem?_toList,xO bE,e2,bd hl]
 ·rw[xH (by simp;omega),xH (by rw[rL h];simp;omega)]
def Ue(P:j_)(f:FuncId)(g:i_)(enc:α->ak)(s:Nat)(lt:α->α->Bool)(l:List α):Prop:=
 ∀(aH cap:Nat) (w:h_),HoldsK enc s w aH 0 l.toArray->aH<w.heap.size->Calls P f #[.slice (some ⟨aH,0,none⟩) l.length cap,g] w λe w'=>
  e=.returned (.tuple #[])/\∃ d' n os,PermIn 0 l.length l.toArray d'/\SortedIn lt 0 l.length d'/\w'=Go.Proofs.sortWorldK enc s w aH 0 n d' os
theorem aBw{g:FuncId}{cf:α->α->Int}(h:∀ x y:α,aB P g [.agg (enc x).toArray,.agg (enc y).toArray] (.int .i64 (cf x y)))(aH off size:Nat)(w:h_):Go.Proofs.CmpLays P g #[] enc s cf aH off size w:=by
 intro m os dk _ x y;refine(h x y _).mono ?_
 rintro e w' ⟨rfl,hb⟩
 generalize Go.Proofs.sortWorldK enc s w aH off m dk os=W at *;refine⟨rfl,w'.drawn-W.drawn,w'.heap.extract W.heap.size w'.heap.size,?_⟩;obtain⟨heap,tape,drawn,osW,out⟩:=W;obtain⟨aLt,aSK,aSL,os',aSM⟩:=w';obtain⟨⟨h1,h2⟩,h3,h4,h5,h6⟩:=hb;dsimp only at h1 h2 h3 h4 h5 h6;subst h1;subst h3;subst h4;unfold grow World.drewN;dsimp only
 congr 1
 ·apply Array.ext_getElem?;intro k;by_cases hk:k<heap.size
  ·rw[h6 k hk,aBx hk]
  ·rw[Array.getElem?_append_right o_,Array.getElem?_extract];by_cases fT:k<aLt.size
   ·rw[aq o_];congr 1;omega
   ·rw[al o_,WW o_]
 ·omega
theorem aBy{g:i_}{lt:α->α->Bool}{l l':List α}(h:pK enc s)(hs:0<s)(hso:Ue P f g enc s lt l)(hg:flat g=true)(ho:da o.op=some x)(eB:fN P f=true)(k:Nat)
  (aLu:l=[]->aB P f [.slice none 0 0,g] (.tuple #[])) (cW:∀ d:List α,d.Perm l->(∀ i j,i<j->j<d.length->∀ x y,d[i]?=some x->d[j]?=some y->lt y x=false)->d=l') :
  ct P B o [.func (.func f) #[] #[],.slice (some ⟨k,0,some 7⟩) l.length 0,g] [(k,some (.row (cr enc l) ty s))] (.tuple #[]) [(k,.row (cr enc l') ty s)]:=by
 refine jy (fi:=[]) (ca:=[]) ho eB λι c w hm hn args' dw=>?_;obtain⟨v,u,rfl,h1,h2⟩:=iH (by simpa using dw);have hu:=h2.eW hg;subst hu;have hk:=hn (k,_) (aN ..);rcases h1.gK rfl with ⟨q1,q2,_,_,q5⟩|⟨b,oo,cap,c',q1,q2,q3,q5⟩
 ·have hl:l=[]:=j9 q2;subst hl;have e:l'=[]:=(cW [] (.refl _) λi j _ hj=>by simp at hj).symm;subst e;rw[q5];refine(aLu rfl w).mono ?_
  rintro e w' ⟨rfl,hb⟩
  refine⟨ι,_,rfl,Map.le.refl _,.same rfl,((hm.call hb).ext λj=>?_)⟩;show aT c k _ j=c j;unfold aT;by_cases hj:j=k
  ·rw[aq hj,hj];exact hk.symm
  ·rw[al hj]
 ·obtain⟨lo,p1,p2⟩:=hm.born k _ hk;dsimp only at q1;rw[q1]at p1;injection p1 with p1;subst p1;rcases p2 with p2|⟨b',bf,cur,e1,lk,dC,e7,jI⟩
  ·cases p2.1
  injection e1 with e1 e2 e3;subst e1;subst e2;subst e3;have gy:=(hm.own k _ b 0 cap hk rfl q1).1;have aBz:cur.toList.take (cr enc l).length=cr enc l:=mD jI (G2 h l);have hlen:(cr enc l).length=l.length*s:=rL h l;have hle:l.length*s<=cur.size:=by have:=b9 List.length aBz;rw[je,hlen]at this;simp at this;omega
  have lT:(flatK enc s l.toArray).toList=cr enc l:=aBv h hs l.toArray;have hold:HoldsK enc s w b 0 l.toArray:=by
   intro j hj;rw[Ud]at hj;simp only[Lk]at hj;have Oo:j<cur.size:=by omega
   have bE:j<(flatK enc s l.toArray).size:=by rw[Ud];simpa using hj
   have e:cur[j]=(flatK enc s l.toArray)[j]:=by
    have e1:(cur.toList.take (cr enc l).length)[j]?=(cr enc l)[j]?:=by rw[aBz]
    rw[tj,aq (by rw[hlen];exact hj),<-lT]at e1;rw[Array.getElem?_toList,Array.getElem?_toList,xO Oo,xO bE]at e1;injection e1
   refine⟨?_,?_⟩
   ·rw[A0 _ j bE];simp[World.cell?,lk,Oo,e]
   ·simp[World.frozen?,lk]
  rw[q5];refine(hso b c' w hold gy).mono ?_
  rintro e w' ⟨rfl,d',n,os,hp,Uf,rfl⟩
  obtain⟨ik,Dt,hp3⟩:=hp;have MY:d'.toList=l':=by
   refine cW _ ?_ λi j nJ hj x y hx hy=>?_
   ·have e1:d'.extract 0 l.length=d':=by rw[<-Lk,<-ik];exact Array.extract_size
    have e2:l.toArray.extract 0 l.length=l.toArray:=by rw[<-Lk];exact Array.extract_size
    rw[e1,e2]at hp3;simpa using hp3
   ·have gA:j<d'.size:=by simpa using hj
    have hz:d'.size=l.length:=by rw[ik];simp
    have:=Uf i j (kB _) nJ o_;rw[A0 d' i o_,A0 d' j gA]at this;rw[Array.getElem?_toList,xO o_]at hx;rw[Array.getElem?_toList,xO gA]at hy;injection hx with hx;injection hy with hy;rw[hx,hy]at this;exact this
  have hz:d'.size=l.length:=by rw[ik];simp
  have Af:l'.length=l.length:=by rw[<-MY];simpa using hz
  refine⟨ι,_,rfl,Map.le.refl _,.same rfl,?_⟩;have zQ:(flatK enc s d').toList=cr enc l':=by rw[aBv h hs,MY]
  have hF:(flatK enc s d').size=l.length*s:=by rw[Ud,hz]
  show aI B ι (aT c k (.row (cr enc l') ty s)) _;have hW:(Go.Proofs.sortWorldK enc s w b 0 n d' os).heap=w.heap.modify b (Go.Sort.onCells (putCells id 0 (flatK enc s d')))++os:=rfl;have aLv:(Go.Proofs.sortWorldK enc s w b 0 n d' os).heap[b]?=some (.cells (putCells id 0 (flatK enc s d') cur) ty (0,0)):=by rw[hW,aBx (by simpa using gy),Wp,aq rfl,lk];rfl
  have hcz:(putCells id 0 (flatK enc s d') cur).size=cur.size:=by simp[putCells]
  refine hm.write hk rfl q1 ⟨rfl,IG _ _⟩ rfl rfl ?_ (λj hj DT=>?_) (.inr ⟨b,cap,_,rfl,aLv,dC,by rw[hcz,e7],?_⟩) n_ rfl
  ·rw[hW];simp
  ·rw[hW,aBx (by simpa using hj),Wp,al (λe=>DT e.symm)]
  ·have e:(putCells id 0 (flatK enc s d') cur).toList.take (cr enc l').length=cr enc l':=by
    rw[rL h,Af,<-zQ];apply Ru;intro j;rw[tj];by_cases hj:j<l.length*s
    ·rw[aq hj];have Oo:j<cur.size:=by omega
     have bE:j<(flatK enc s d').size:=by rw[hF];exact hj
     rw[Array.getElem?_toList,Array.getElem?_toList,xO bE];unfold putCells;rw[Array.getElem?_mapIdx,xO Oo];simp only[PX,FF,id_eq];rw[aq ⟨kB _,by rw[hF];omega⟩,A0 _ j bE]
    ·rw[al hj,xH (by simp[hF];omega)]
   rw[e];exact j7 (G2 h l')
end
end
section
variable{P:j_}{B:ae}{N:Nat}
def Oq(P:j_)(o:Oper):Option (TypeId×Nat×Value):=match o.op with
 |.call c=>match c.callee,c.args.toList,c.argTypes.toList with
  |.builtin .clear,[_],[t]=>(match P.underlying t with
   |some (.slice e)=>(match P.info? e with|some i=>(match i.zero with|some z=>some (e,i.size,z)|none=>none)|none=>none)
   |_=>none)
  |_,_,_=>none
 |_=>none
theorem aLw{s:Nat}{z:i_}(ho:Oq P o=some (e,s,z)):∃ x t i,o.op=.call { callee:=.builtin .clear,args:=#[x],argTypes:=#[t]}/\P.underlying t=some (.slice e)/\P.info? e=some i/\i.zero=some z/\i.size=s:=by
 unfold Oq at ho;split at ho
 ·rename_i c bM;split at ho
  ·rename_i x t h1 h2 h3;split at ho
   ·rename_i e' ht;split at ho
    ·rename_i i hi;split at ho
     ·rename_i z' hz;injection ho with ho;injection ho with q1 ho;injection ho with q2 q3;subst q1;subst q2;subst q3;refine⟨x,t,i,?_,ht,hi,hz,rfl⟩;rw[bM];obtain⟨ce,ar,at'⟩:=c;dsimp only at h1 h2 h3;subst h1;have e1:ar=#[x]:=by rw[<-yw (xs:=ar),h2]
      have e2:at'=#[t]:=by rw[<-yw (xs:=at'),h3]
      rw[e1,e2]
     ·cases ho
    ·cases ho
   ·cases ho
  ·cases ho
 ·cases ho
theorem aLx{s:Nat}{z:i_}(ho:Oq P o=some (e,s,z))(h1:∀ v∈z.cells.toList,v.oneCell'=true/\flat v=true){n:Nat}{cells new:ak}(hn:0<n)(hlen:off+n*z.cells.size<=cells.length)
  (iw:iv cells off (Builtin.zeroCells z.cells n).toList=new):ct P B o [.slice (some ⟨k,off,some 7⟩) n cc] [(k,some (.row cells e s))] (.tuple #[]) [(k,.row new e s)]:=by
 subst iw;obtain⟨x,t,i,bM,ht,hi,hz,rfl⟩:=aLw ho;refine gL.step λι c ρ w aK hm nN=>?_;have hk:c k=some (.row cells e i.size):=nN _ (aN ..);rw[bM]at aK;obtain⟨u,hu,hc⟩:=lO aK;have hu:ρ x=u:=by simpa[Op.operands,Call.operands]using hu
 rcases hc.gK rfl with ⟨_,q2,_⟩|⟨b,oo,cap,c',hb,kQ,lP,he⟩
 ·omega
 dsimp only at hb he;have Af:((Builtin.zeroCells z.cells n).toList).length=n*z.cells.size:=by rw[xG,Lg]
 have G9:∀ v∈(Builtin.zeroCells z.cells n).toList,v.oneCell'=true/\flat v=true:=by
  intro v hv;unfold Builtin.zeroCells at hv;rw[Array.toList_map,dq]at hv;obtain⟨j,hj,rfl⟩:=hv;have hjs:j<n*z.cells.size:=by simpa using hj
  have h0:0<z.cells.size:=by
   rcases nr z.cells.size with h|h
   ·rw[h]at hjs;omega
   ·exact h
  rw[A0 z.cells _ (cC _ h0)];exact h1 _ s_
 obtain⟨h0,bH,bW,ty,lk,tn⟩:=hm.store hk rfl hb (j7 λv hv=>(G9 v hv).2) (o:=off) (by rw[Af];exact hlen);subst h0;rw[jv]at he;refine⟨ι,.tuple #[],_,Map.le.refl _,.same rfl,bH,.inl ?_⟩
 have run:=run_storeCells_cells (P:=P) b off (Builtin.zeroCells z.cells n).toList 0 w
  (λj hj=>by
   have:j+off<bW.length:=by omega
   simp[World.cell?,lk];omega)
  (λj hj=>by simp[World.frozen?,lk]) λv hv=>(G9 v hv).1
 simp only[iJ]at run;obtain⟨m,rfl⟩:∃ m,n=m+1:=⟨n-1,by omega⟩;have ga:(Builtin.clear_ #[t] o.type #[.slice (some ⟨b,off,none⟩) (m+1) c']).run P w=.ok (.tuple #[]) (w.setCells b off (Builtin.zeroCells z.cells (m+1)).toList):=by simp[Builtin.clear_,iI ht,zeroValue,typeInfo,hi,hz,run]
 simp[execOp,bM,resolve,invoke,builtin,hu,he,ga]
theorem aLy{enc:α->ak}{s:Nat}(h:pK enc s){x:α}{z:p_}(hz:z.toList=enc x)(hs:0<s)(n:Nat):(Builtin.zeroCells z n).toList=cr enc (List.replicate n x):=by
 have bE:z.size=s:=by rw[<-xG,hz,h.len]
 apply Ru;intro t;by_cases ht:t<n*s
 ·have hi:t/s<n:=(gY hs).2 ht;have hr:t%s<s:=cC _ hs;have e:=aBu h (l:=List.replicate n x) (i:=t/s) (x:=x) (by simp[hi]) hr;rw[cH,iP]at e;rw[e,<-hz];unfold Builtin.zeroCells;rw[Array.toList_map,xN];have:(Array.range (n*z.size)).toList[t]?=some t:=by rw[bE];simp[ht]
  rw[this,PX,bE,A0 z _ o_,Array.getElem?_toList,xO o_]
 ·rw[xH (by rw[xG,Lg,bE];omega),xH (by rw[rL h];simp;omega)]
def aO.oT(fn:Func)(key k a n cc i j s:Nat)(hi:i<n)(hj:a+i=j)(ho:vQ P (au fn key)=some s):aO P B N:=
 .step key (au fn key) [.slice (some ⟨k,a*s,some 7⟩) n cc,vI i] [] (.pointer (some ⟨k,j*s,some 7⟩)) [] (by have:=LK (B:=B) ho (k:=k) (off:=a*s) (cc:=cc) (kd:=.i64) hi;rw[<-e8,hj]at this;exact this)
def aO.behind(fn:Func)(key k n a m s:Nat)(hm:a+m=n)(h0:0<m)(ho:rf P (au fn key)=some (true,false,s)):aO P B N:=
 .step key (au fn key) [.slice (some ⟨k,0,some 7⟩) n 0,vI a] [] (.slice (some ⟨k,a*s,some 7⟩) m a) [] (by have:=FG (B:=B) ho (k:=k) (off:=0) (n:=n) (cc:=0) (l:=a) (h:=n) n_ (λ_=>rfl) o_ (aZ _) (.inl o_);rw[show n-a=m by omega]at this;simpa using this)
def aO.clear(fn:Func)(key k off n cc e s:Nat)(z:i_)(cells new:ak)(h1:∀ v∈z.cells.toList,v.oneCell'=true/\flat v=true)(hn:0<n)(hlen:off+n*z.cells.size<=cells.length)(iw:iv cells off (Builtin.zeroCells z.cells n).toList=new)
  (ho:Oq P (au fn key)=some (e,s,z)):aO P B N:=
 .step key (au fn key) [.slice (some ⟨k,off,some 7⟩) n cc] [(k,some (.row cells e s))] (.tuple #[]) [(k,.row new e s)] (aLx ho h1 hn hlen iw)
end
def ae.jd(B:ae)(ks:List (Value×ak)):ae where
 G w:=B.G w/\∀ p∈ks,cZ w p.1 p.2.length p.2
 cI k:=B.cI k\/∃ p∈ks,hZ p.1=some k
 ds:=B.ds
 Fa:=B.Fa
 mp:=B.mp
 lt w k h hk:=by
  rcases hk with hk|⟨p,hp,hb⟩
  ·exact B.lt w k h.1 hk
  ·exact(h.2 p hp).lt hb
 dep w w' h h1 h2 h3 h4 h5:=⟨B.dep w w' h.1 h1 h2 h3 h4 λk hk=>h5 k (.inl hk),λp hp=>(h.2 p hp).kept h4 λb hb _ _ _ e=>(h5 b (.inr ⟨p,hp,hb⟩)).trans e⟩
theorem aBA(h:aI B ι c w):aI (B.jd []) ι c w:=
 ⟨⟨h.base,λp hp=>by cases hp⟩,h.dp,h.born,λk x b o cap e hx hl=>⟨(h.own k x b o cap e hx hl).1,λhF=>by
  rcases hF with hF|⟨p,hp,_⟩
  ·exact(h.own k x b o cap e hx hl).2 hF
  ·cases hp⟩,h.inj,h.apart,h.seen,h.fa,h.one,h.qR⟩
theorem Ot(h:aI (B.jd ks) ι c w)(hm:c m=some (.row xs ty 1))(cA:∀ v∈xs,flat v=true)
  (hu:aG ι (.slice (some ⟨m,0,some 7⟩) xs.length 0) u):aI (B.jd ((u,xs)::ks)) ι (aT c m .dead) w/\flat u=true/\∀ b,hZ u=some b->¬B.cI b:=by
 have iW:=nQ (len:=xs.length) h hm rfl cA (λe=>e) hu;have iW:cZ w u xs.length xs:=by
  have e:((Obj.row xs ty 1).cells.drop 0).take xs.length=xs:=by rw[lv];exact nB
  rwa[e]at iW
 have hk:=h.kill m (by rw[hm];exact n_);have hb:∀ b,hZ u=some b->∃ o cap,ι m=some (.at b o cap):=by
  intro b hb;rcases hu.gK rfl with ⟨_,_,_,_,q5⟩|⟨b',oo,cap,c',q1,_,_,q5⟩
  ·rw[q5]at hb;cases hb
  ·rw[q5]at hb;injection hb with hb;subst hb;exact⟨oo,cap,q1⟩
 have cM:∀ j z,j≠m->aT c m .dead j=some z->c j=some z:=λj z hj e=>by unfold aT at e;rwa[al hj]at e
 refine⟨⟨⟨h.base.1,λp hp=>?_⟩,hk.dp,hk.born,λk x b o cap e hx hl=>⟨(hk.own k x b o cap e hx hl).1,λhF=>?_⟩,hk.inj,hk.apart,hk.seen,hk.fa,hk.one,hk.qR⟩,?_,λb hbu hF=>?_⟩
 ·rcases ch.1 hp with rfl|hp
  ·exact iW
  ·exact h.base.2 p hp
 ·rcases hF with hF|⟨p,hp,IU⟩
  ·exact(hk.own k x b o cap e hx hl).2 (.inl hF)
  ·rcases ch.1 hp with rfl|hp
   ·obtain⟨o',bf,cW⟩:=hb b IU;by_cases Ha:k=m
    ·subst Ha;unfold aT at e;rw[aq rfl]at e;injection e with e;subst e;cases hx
    ·exact Ha (h.inj k m x _ b o cap o' bf (cM k x Ha e) hx hm rfl hl cW)
   ·exact(hk.own k x b o cap e hx hl).2 (.inr ⟨p,hp,IU⟩)
 ·rcases hu.gK rfl with ⟨_,_,_,_,q5⟩|⟨b',oo,cap,c',q1,_,_,q5⟩
  ·rw[q5];rfl
  ·rw[q5];rfl
 ·obtain⟨o,cap,hl⟩:=hb b hbu;exact(h.own m _ b o cap hm rfl hl).2 (.inl hF)
def j5:List (Nat×Nat)->Nat->Option Nat
 |[],_=>none
 |(j,m)::l,k=>if Nat.beq j k then some m else j5 l k
def qI(ι:Map)(r:List (Nat×Nat)):Map:=λj=>(j5 r j).bind ι
def Ka:List (Nat×Nat)->Bool
 |[]=>true
 |(_,m)::l=>(l.all λp=>!Nat.beq m p.2)&&Ka l
theorem Ug:∀{r:List (Nat×Nat)} {j m:Nat},j5 r j=some m->(j,m)∈r
 |(i,q)::l,j,m,h=>by
  unfold j5 at h;split at h
  ·rename_i hb;injection h with h;subst h;rw[jK hb];exact aN ..
  ·exact bB _ (Ug h)
theorem Uh:∀{r:List (Nat×Nat)},Ka r=true->∀ i j m:Nat,j5 r i=some m->j5 r j=some m->i=j
 |(a,q)::l,h,i,j,m,h1,h2=>by
  unfold Ka at h;rw[cY,aX]at h;have ih:=Uh h.2;have no:∀ k,j5 l k=some q->False:=λk hk=>by have:=h.1 _ (Ug hk);simp at this
  unfold j5 at h1 h2;split at h1<;>split at h2
  ·rename_i e1 e2;rw[<-jK e1,<-jK e2]
  ·injection h1 with h1;subst h1;exact(no j h2).elim
  ·injection h2 with h2;subst h2;exact(no i h1).elim
  ·exact ih i j m h1 h2
 |[],_,i,j,m,h,_=>by cases h
def Hb(a:Addr):Bool:=match a.spot with|some s=>Nat.beq s 7||Nat.beq s 9|none=>false
def wY(r:List (Nat×Nat)):Value->Value
 |.slice (some ad) n c=>if lM ad then(match j5 r ad.block with|some m=>.slice (some ⟨m,ad.off,some 7⟩) n c|none=>.slice (some ad) n c)else .slice (some ad) n c
 |.pointer (some ad)=>if Hb ad then(match j5 r ad.block with|some m=>.pointer (some ⟨m,ad.off,ad.spot⟩)|none=>.pointer (some ad))else .pointer (some ad)
 |v=>v
def yK(r:List (Nat×Nat)):Value->Value
 |.func f fi ca=>.func f (fi.toList.map (wY r)).toArray (ca.toList.map (wY r)).toArray
 |v=>wY r v
def EM(r:List (Nat×Nat)):Value->Bool
 |.slice (some ad) _ _=>if lM ad then(j5 r ad.block).isSome else lh ad
 |.pointer (some ad)=>if Hb ad then(j5 r ad.block).isSome else lh ad
 |v=>flat v&&!lN v
def yL(r:List (Nat×Nat)):Value->Bool
 |.func _ fi ca=>fi.toList.all (EM r)&&ca.toList.all (EM r)
 |v=>EM r v
theorem aBB{a:Addr}(h:Hb a=true):lh a=false:=by
 unfold Hb at h;unfold lh;cases hs:a.spot with
 |none=>rw[hs]at h;cases h
 |some s=>rfl
theorem aLz{r:List (Nat×Nat)}{v:i_}(h:flat v=true):wY r v=v:=by
 unfold wY;split
 ·rename_i ad n c;split
  ·rename_i ho;have:lh ad=true:=h;rw[K8 ho]at this;cases this
  ·rfl
 ·rename_i ad;split
  ·rename_i ho;have:lh ad=true:=h;rw[aBB ho]at this;cases this
  ·rfl
 ·rfl
theorem aBC{r:List (Nat×Nat)}{v:i_}(ax:EM r v=true)(h:aG ι (wY r v) v'):aG (qI ι r) v v':=by
 have fl:∀ v:Value,flat v=true->aG ι (wY r v) v'->aG (qI ι r) v v':=λv hv hc=>by rw[aLz hv]at hc;rw[hc.eW hv];exact .same hv
 unfold EM at ax;split at ax
 ·rename_i ad n c;split at ax
  ·rename_i ho;cases hr:j5 r ad.block with
   |none=>rw[hr]at ax;cases ax
   |some m=>
    have Ui:wY r (.slice (some ad) n c)=.slice (some ⟨m,ad.off,some 7⟩) n c:=by show(if lM ad=true then(match j5 r ad.block with|some m=>Value.slice (some ⟨m,ad.off,some 7⟩) n c|none=>.slice (some ad) n c)else .slice (some ad) n c)=_;rw[aq ho,hr]
    rw[Ui]at h;have hm:qI ι r ad.block=ι m:=by unfold qI;rw[hr];rfl
    obtain⟨bl,off,sp⟩:=ad;have tO:=Ft ho;dsimp only at tO;subst tO;rcases h.gK rfl with ⟨q1,q2,q3,q4,q5⟩|⟨b,oo,cap,c',q1,q2,q3,q5⟩
    ·dsimp only at q1 q4 hm;rw[q5,q2,q3,q4];exact .slcN (hm.trans q1)
    ·dsimp only at q1 hm q5;rw[q5];exact .slc (hm.trans q1) q2 q3
  ·exact fl _ ax h
 ·rename_i ad;split at ax
  ·rename_i ho;cases hr:j5 r ad.block with
   |none=>rw[hr]at ax;cases ax
   |some m=>
    have Ui:wY r (.pointer (some ad))=.pointer (some ⟨m,ad.off,ad.spot⟩):=by show(if Hb ad=true then(match j5 r ad.block with|some m=>Value.pointer (some ⟨m,ad.off,ad.spot⟩)|none=>.pointer (some ad))else .pointer (some ad))=_;rw[aq ho,hr]
    rw[Ui]at h;have hm:qI ι r ad.block=ι m:=by unfold qI;rw[hr];rfl
    obtain⟨bl,off,sp⟩:=ad;dsimp only at hm h;generalize hp:Value.pointer (some ⟨m,off,sp⟩)=p at h;cases h with
    |same hf=>subst hp;have:lh ⟨m,off,sp⟩=true:=hf;rw[aBB (a:=⟨m,off,sp⟩) ho]at this;cases this
    |ptr q=>injection hp with hp;injection hp with hp;injection hp with h1 h2 h3;subst h1;subst h2;subst h3;exact .ptr (hm.trans q)
    |slc q=>cases hp
    |slcN q=>cases hp
    |opq q1 q2 q3=>injection hp with hp;injection hp with hp;injection hp with h1 h2 h3;subst h1;subst h2;subst h3;exact .opq (hm.trans q1) q2 q3
    |fn=>cases hp
    |agg=>cases hp
    |tup=>cases hp
  ·exact fl _ ax h
 ·rw[cY]at ax;exact fl _ ax.1 h
theorem Uj{ι:Map}{r:List (Nat×Nat)}:∀{l l':ak},(l.all (EM r))=true->bJ (aG ι) (l.map (wY r)) l'->bJ (aG (qI ι r)) l l'
 |[],_,_,h=>by cases h;exact .nil
 |v::l,_,ax,h=>by
  rw[fp,cY]at ax;cases h with
  |cons h1 h2=>exact .cons (aBC ax.1 h1) (Uj ax.2 h2)
theorem aBD{r:List (Nat×Nat)}{v:i_}(ax:yL r v=true)(h:aG ι (yK r v) v'):aG (qI ι r) v v':=by
 unfold yL at ax;split at ax
 ·rename_i f fi ca;rw[cY]at ax;obtain⟨ju,gp,rfl,h1,h2⟩:=h.zo;have g1:=Uj ax.1 h1;have g2:=Uj ax.2 h2;have:=aG.fn (f:=f) g1 g2;simpa using this
 ·rename_i hn;have:yK r v=wY r v:=by
   unfold yK;split
   ·exact absurd rfl (hn _ _ _)
   ·rfl
  rw[this]at h;exact aBC ax h
theorem aLA(r:List (Nat×Nat)){v:i_}(h:lN v=false):lN (yK r v)=false:=by
 cases v with
 |slice a n c=>
  cases a with
  |none=>rfl
  |some ad=>
   show lN (if lM ad=true then(match j5 r ad.block with|some m=>Value.slice (some ⟨m,ad.off,some 7⟩) n c|none=>.slice (some ad) n c)else .slice (some ad) n c)=false;split
   ·split<;>rfl
   ·rfl
 |pointer a=>
  cases a with
  |none=>rfl
  |some ad=>
   show lN (if Hb ad=true then(match j5 r ad.block with|some m=>Value.pointer (some ⟨m,ad.off,ad.spot⟩)|none=>.pointer (some ad))else .pointer (some ad))=false;split
   ·split<;>rfl
   ·rfl
 |func f fi ca=>rfl
 |_=>exact h
theorem aBE{ι:Map}{r:List (Nat×Nat)}:∀{l l':ak},(l.all (yL r))=true->bJ (aG ι) (l.map (yK r)) l'->bJ (aG (qI ι r)) l l'
 |[],_,_,h=>by cases h;exact .nil
 |v::l,_,ax,h=>by
  rw[fp,cY]at ax;cases h with
  |cons h1 h2=>exact .cons (aBD ax.1 h1) (aBE ax.2 h2)
def CN(r:List (Nat×Nat)):Obj->Obj
 |.aH cs ty=>.aH (cs.map (yK r)) ty
 |x=>x
def Hc(r:List (Nat×Nat)):Obj->Prop
 |.aH cs _=>(cs.all (yL r))=true
 |.fact _=>True
 |.dead=>True
 |x=>∀ v∈x.cells,flat v=true
theorem Hd(r:List (Nat×Nat))(x:Obj):(CN r x).owns=x.owns/\(CN r x).jc=x.jc:=by cases x<;>exact⟨rfl,rfl⟩
theorem aLB{l:oZ}{r:List (Nat×Nat)}{x:Obj}(ax:Hc r x)(h:ij ι w l (CN r x)):ij (qI ι r) w l x:=by
 have fl:∀{cs bW:ak},(∀ v∈cs,flat v=true)->bJ (aG ι) cs bW->bJ (aG (qI ι r)) cs bW:=λhf h=>by rw[mD h hf];exact j7 hf
 cases x with
 |aH cells ty=>
  obtain⟨b,bW,e1,e2,e3⟩:=h;exact⟨b,bW,e1,aBE ax e2,e3⟩
 |row cells ty size=>
  rcases h with h|⟨b,cap,cur,e1,e2,e3,e4,e5⟩
  ·exact .inl h
  ·exact .inr ⟨b,cap,cur,e1,e2,e3,e4,fl ax e5⟩
 |view cells=>
  rcases h with h|⟨b,o,cap,cs,e1,e2,e3⟩
  ·exact .inl h
  ·exact .inr ⟨b,o,cap,cs,e1,fl ax e2,e3⟩
 |fact F=>exact h
 |dead=>trivial
theorem aLC(h:aI B ι c w)(qk:∀ k,B.mp k=none){r:List (Nat×Nat)}(jA:Ka r=true)(kE:∀ j,ah L j=none↔j5 r j=none)
  (hL:∀ j x m,ah L j=some x->j5 r j=some m->Hc r x/\c m=some (CN r x)):aI B (qI ι r) (ah L) w:=by
 have src:∀ j x,ah L j=some x->∃ m,j5 r j=some m/\Hc r x/\c m=some (CN r x)/\qI ι r j=ι m:=λj x e=>by
  cases hr:j5 r j with
  |none=>rw[(kE j).2 hr]at e;cases e
  |some m=>
   obtain⟨h1,h2⟩:=hL j x m e hr;exact⟨m,rfl,h1,h2,by unfold qI;rw[hr];rfl⟩
 refine⟨h.base,λk e=>?_,λk x e=>?_,λk x b o cap e hx hl=>?_,λk j x y b o cap o' bf e hx e' hy hl cW=>?_,λk j x F b o cap v e hx hl e' hv=>?_,λk x b o cap e hx hl=>?_,λj F e=>?_,λj k F F' e e' h1 h2=>?_,λk l e=>?_⟩
 ·unfold qI;rw[(kE k).1 e];rfl
 ·obtain⟨m,_,h2,h3,h4⟩:=src k x e;obtain⟨l,q1,q2⟩:=h.born m _ h3;exact⟨l,h4.trans q1,aLB h2 q2⟩
 ·obtain⟨m,_,_,h3,h4⟩:=src k x e;exact h.own m _ b o cap h3 ((Hd r x).1.trans hx) (h4▸hl)
 ·obtain⟨m,h1,_,h3,h4⟩:=src k x e;obtain⟨m',nK,_,EN,Kb⟩:=src j y e';have:=h.inj m m' _ _ b o cap o' bf h3 ((Hd r x).1.trans hx) EN ((Hd r y).1.trans hy) (h4▸hl) (Kb▸cW);subst this;exact Uh jA k j m h1 nK
 ·obtain⟨m,_,_,h3,h4⟩:=src k x e;obtain⟨m',_,_,EN,Kb⟩:=src j _ e';exact h.apart m m' _ F b o cap v h3 ((Hd r x).1.trans hx) (h4▸hl) EN (Kb▸hv)
 ·obtain⟨m,_,_,h3,h4⟩:=src k x e;obtain⟨p1,p2⟩:=h.seen m _ b o cap h3 ((Hd r x).2.trans hx) (h4▸hl);refine⟨p1,λj y o' bf e' hy cW=>?_⟩;obtain⟨m',_,_,EN,Kb⟩:=src j y e';exact p2 m' _ o' bf EN ((Hd r y).1.trans hy) (Kb▸cW)
 ·obtain⟨m,_,_,h3,_⟩:=src j _ e;exact h.fa m F h3
 ·obtain⟨m,q1,_,h3,_⟩:=src j _ e;obtain⟨m',zq,_,EN,_⟩:=src k _ e';have:=h.one m m' F F' h3 EN h1 h2;subst this;exact Uh jA j k m q1 zq
 ·rw[qk k]at e;cases e
def St(B:ae)(N:Nat)(fr:aL)(M:aC)(next:Nat)(a:Act)(w:h_):Prop:=∃ ι cc,fk B ι (bt fr) N a/\aI B ι cc w/\cT cc M/\eA cc next
section
variable{P:j_}{B:ae}{N:Nat}
theorem pO{c:Code}{next:Nat}{r:kR}{a:Act}{Q:Exit->Act->World->Prop}(g:ag P B N c fr M next r)(h:St B N fr M next a w)
  (hQ:∀ a' w',St B N r.fr r.M r.next a' w'->Q r.ex.zx a' w'):c.wpIn (FW none) 0 P Q a w:=by
 obtain⟨ι,cc,h1,h2,h3,h4⟩:=h;exact g none ι cc a w Q h1 h2 h3 h4 λao bP a' w' _ q2 q3 q4 q5 _ _=>hQ a' w' ⟨ao,bP,q2,q3,q4,q5⟩
theorem aBF{b:Code}{Q:Exit->Act->World->Prop}{a:Act}(n:Nat)(Inv:Nat->Act->World->Prop)(h0:Inv 0 a w)
  (body:∀ i,i<n->∀ a w,Inv i a w->∀ K:Act->World->Prop,(∀ a' w',Inv (i+1) a' w'->K a' w')->b.wpIn (FW none) 0 P (Exit.then K Q) a w)
  (last:∀ a w,Inv n a w->b.wpIn (FW none) 0 P (Exit.then (λ_ _=>False) Q) a w):(Code.loop b).wpIn (FW none) 0 P Q a w:=by
 refine QB (n+1) ?_;have key:∀ d i,i+d=n->∀ a w,Inv i a w->Code.roundsIn (FW none) 0 P b Q (d+1) a w:=by
  intro d;induction d with
  |zero=>
   intro i hi a w h;have:i=n:=by omega
   subst this;rw[DI];exact last a w h
  |succ d ih=>
   intro i hi a w h;rw[DI];exact body i o_ a w h _ λa' w' h'=>ih (i+1) o_ a' w' h'
 exact key n 0 o_ a w h0
theorem St.Kc{rQ:aL}{next:Nat}{a:Act}(h:St B N fr M next a w)(qk:∀ k,B.mp k=none)(r:List (Nat×Nat))(jA:Ka r=true)(kE:L.map (·.1)=r.map (·.1))
  (ax:∀ p∈L,Hc r p.2) (hL:(r.map λp=>ah M p.2)=L.map λp=>some (CN r p.2)) (Xn:(L.map λp=>ah L p.1)=L.map λp=>some p.2) (lT:(rQ.all λp=>yL r p.2)=true) (hs:(rQ.map λp=>bt fr p.1)=rQ.map λp=>yK r p.2) (hn:(r.all λp=>Nat.blt p.1 n2)=true):St B N rQ L n2 a w:=by
 obtain⟨ι,cc,h1,h2,h3,h4⟩:=h;have hk:∀{L:aC} {r:List (Nat×Nat)},L.map (·.1)=r.map (·.1)->∀ j,ah L j=none↔j5 r j=none:=by
  intro L;induction L with
  |nil=>intro r e j;cases r with
   |nil=>exact⟨λ_=>rfl,λ_=>rfl⟩
   |cons p r=>cases e
  |cons q L ih=>intro r e j;cases r with
   |nil=>cases e
   |cons p r=>
    injection e with e1 e2;obtain⟨q1,q2⟩:=q;obtain⟨p1,p2⟩:=p;dsimp only at e1;subst e1;unfold ah j5;cases Nat.beq q1 j with
    |true=>simp
    |false=>simpa using ih e2 j
 have aLD:∀{L:aC} {r':List (Nat×Nat)},L.map (·.1)=r'.map (·.1)->(r'.map λp=>ah M p.2)=L.map (λp=>some (CN r p.2))->∀ j x m,ah L j=some x->j5 r' j=some m->ah M m=some (CN r x):=by
  intro L;induction L with
  |nil=>intro r' _ _ j x m e;cases e
  |cons q L ih=>intro r' e e' j x m hx hm;cases r' with
   |nil=>cases e
   |cons p r'=>
    injection e with e1 e2;injection e' with e3 e4;obtain⟨q1,q2⟩:=q;obtain⟨p1,p2⟩:=p;dsimp only at e1 e3;subst e1;unfold ah at hx;unfold j5 at hm;cases hb:Nat.beq q1 j with
    |true=>
     rw[hb]at hx hm;simp only[pV]at hx hm;injection hx with hx;injection hm with hm;subst hx;subst hm;exact e3
    |false=>
     rw[hb]at hx hm;simp only[tE,tF]at hx hm;exact ih e2 e4 j x m hx hm
 refine⟨qI ι r,ah L,⟨h1.defers,h1.size,λt=>?_⟩,aLC h2 qk jA (hk kE) (λj x m e hr=>⟨ax _ (iy e),h3 m _ (aLD kE hL j x m e hr)⟩),λk x e=>e,λk qb=>?_⟩
 ·have aU:∀{rQ:aL},(rQ.all λp=>yL r p.2)=true->(rQ.map λp=>bt fr p.1)=(rQ.map λp=>yK r p.2)->(lN (bt rQ t)=true)\/(yL r (bt rQ t)=true/\bt fr t=yK r (bt rQ t)):=by
   intro rQ;induction rQ with
   |nil=>exact λ_ _=>.inl rfl
   |cons p l ih=>
    intro ho he;rw[fp,cY]at ho;injection he with e1 e2;obtain⟨p1,p2⟩:=p;rw[show bt ((p1,p2)::l) t=if Nat.beq p1 t=true then p2 else bt l t from rfl];by_cases hb:Nat.beq p1 t=true
    ·have:=jK hb;subst this;rw[aq hb];exact .inr ⟨ho.1,e1⟩
    ·rw[al hb];exact ih ho.2 e2
  rcases aU lT hs with h|⟨q1,q2⟩
  ·exact .inl h
  ·have rZ:=h1.slot t;rw[q2]at rZ;have RM:lN (yK r (bt rQ t))=false:=by
    refine aLA r ?_;generalize bt rQ t=v at *;unfold yL at q1;split at q1
    ·rfl
    ·unfold EM at q1;split at q1
     ·rfl
     ·rfl
     ·rw[cY]at q1;simpa using q1.2
   exact .inr (aBD q1 (rZ.zp RM))
 ·refine(hk kE k).2 ?_;cases e:j5 r k with
  |none=>rfl
  |some m=>
   have:=aX.1 hn _ (Ug e);simp at this;omega
theorem aBH{c:Code}{next:Nat}{cc:g_}
  (hf:P.funcs[f]?=some fn) (hb:fn.body=some c) (hN:N=args.length+(fn.ntmps-args.length)) (dw:bJ (aG ι) args args') (hm:aI B ι cc w) (ha:cT cc M) (hu:eA cc next) (lV:B.ds=[])
  (h:∀ a,St B N (jL 0 args) M next a w->c.wpIn (FW none) 0 P (bodyPost P fn Q) a w):Calls P f args'.toArray w Q:=by
 refine calls_of_wp hf hb (Xy (h _ ⟨ι,cc,⟨lV.symm,by simp[hN,dw.length],λt=>?_⟩,hm,ha,hu⟩));rcases LG dw 0 t (List.replicate (fn.ntmps-args'.length) undef)with h|h
 ·simp only[kB,pV,FF]at h;have e:(args'.toArray++Array.replicate (fn.ntmps-args'.toArray.size) undef).getD t undef=(args'++List.replicate (fn.ntmps-args'.length) undef).getD t undef:=by simp[pb,Dw,<-Array.getElem?_toList]
  dsimp only;rw[e];exact h
 ·exact .inl h
theorem aBI{next:Nat}{v:i_}{a:Act}(h:St B N fr M next a w)(lV:B.ds=[])(hv:zJ P fn fr M=some v)
  (hQ:∀ ι cc v',aI B ι cc w->cT cc M->aG ι v v'->Q (.returned v') w):bodyPost P fn Q .ret a w/\bodyPost P fn Q .normal a w:=by
 obtain⟨ι,cc,h1,h2,h3,_⟩:=h;obtain⟨v',hc,o8⟩:=LF (fn:=fn) h1 h2 h3 hv;have:=hQ ι cc v' h2 h3 hc;exact⟨⟨h1.defers.trans lV,v',o8,this⟩,⟨h1.defers.trans lV,v',o8,this⟩⟩
end
section
variable{P:j_}{B:ae}{N:Nat}
theorem aLE{z:i_}(ho:zY P o=some (0,[],e,size,z))(k:Nat):ct P B o [] [(k,none)] (.slice (some ⟨k,0,some 7⟩) 0 0) [(k,.row [] e size)]:=by
 unfold zY at ho;split at ho
 ·rename_i t kV parts bM;split at ho
  ·rename_i e' ht;split at ho
   ·rename_i i hi;split at ho
    ·rename_i z' hz;injection ho with ho;injection ho with h1 ho;injection ho with h2 ho;injection ho with h3 ho;injection ho with h4 h5;subst h1;subst h3;subst h4;subst h5;refine gL.step λι c ρ w aK hm hn=>?_;have hk:c k=none:=hn _ (aN ..);have hp:parts=#[]:=by
      have:parts.toList=[]:=by simpa using h2
      exact GR.1 this
     subst hp;have tn:Map.le ι _:=fZ (l:=.at w.heap.size 0 0) (hm.dp k hk);have iw:=Fy (ty:=e') (size:=i.size) (cap:=0) (rest:=#[]) hm hk (.nil:bJ (aG ι) [] []) (kB _) s_;refine⟨_,.slice (some ⟨w.heap.size,0,none⟩) 0 0,_,tn,.slc (o:=0) (off:=0) (fj _ _ _) (aZ _) rfl,iw,.inl ?_⟩;simp only[execOp,bM];simp[Instr.buildSlice,iI ht,sizeOf,typeInfo,hi,newRow,Instr.fill,newObj,Sem.run];have e0:∀ f:Nat->Value,Array.map f (Array.range 0)=#[]:=λf=>GR.1 (by rw[Array.toList_map,Array.toList_range];rfl);rw[e0]
    ·cases ho
   ·cases ho
  ·cases ho
 ·cases ho
theorem aLF{idx:l_}{z:i_}(ho:zY P o=some (len,idx,e,size,z)){cells:p_}(G9:∀ v∈z.cells.toList,flat v=true)(zt:0<z.cells.size)
  (BW:IH size len z (idx.zip vs)=some cells) (bE:cells.size=len*size) (yb:0<len*size) (hle:len*size<=16777216) (k:Nat) :
  ct P B o vs [(k,none)] (.slice (some ⟨k,0,some 7⟩) len 0) [(k,.row cells.toList e size)]:=by
 unfold zY at ho;split at ho
 ·rename_i t kV parts bM;split at ho
  ·rename_i e' ht;split at ho
   ·rename_i i hi;split at ho
    ·rename_i z' hz;injection ho with ho;injection ho with h1 ho;injection ho with h2 ho;injection ho with h3 ho;injection ho with h4 h5;subst h1;subst h2;subst h3;subst h4;subst h5;refine gL.step λι c ρ w aK hm hn=>?_;have hk:c k=none:=hn _ (aN ..);rw[bM]at aK;obtain⟨cU,aBJ⟩:∃ cU,List.map ρ (parts.toList.map (·.2))=cU:=⟨_,rfl⟩;have rZ:bJ (aG ι) vs cU:=by rw[<-aBJ];simpa[Op.operands]using aK
     have bT:List.map (λx=>(x.fst,ρ x.snd)) parts.toList=(parts.toList.map (·.1)).zip cU:=Mb parts.toList aBJ;have h0z:bJ (aG ι) ((Array.range (kV*i.size)).map (z'.cells[·%z'.cells.size]!)).toList ((Array.range (kV*i.size)).map (z'.cells[·%z'.cells.size]!)).toList:=j7 λv hv=>by rw[Array.toList_map,dq]at hv;obtain⟨j,_,rfl⟩:=hv;rw[A0 z'.cells _ (cC _ zt)];exact G9 _ s_
     obtain⟨cells',aLG,jI⟩:=Od (ι:=ι) (place:=λj=>some (j*i.size,i.size)) (parts.toList.map λp:Nat×Operand=>p.1) rZ h0z BW;have aLH:cells'.size=kV*i.size:=by rw[<-xG,<-jI.length,xG,bE]
     have Mc:kV<=maxLen:=by have:kV<=kV*i.size:=DY _ (Nat.pos_of_mul_pos_left yb);simp[maxLen];omega
     have tn:Map.le ι _:=fZ (l:=.at w.heap.size 0 kV) (hm.dp k hk);have iw:=Fy (ty:=e') (size:=i.size) (cap:=kV) (rest:=#[]) hm hk jI Mc (by simpa using aLH);refine⟨_,.slice (some ⟨w.heap.size,0,none⟩) kV kV,_,tn,.slc (o:=0) (off:=0) (fj _ _ _) (aZ _) o_,iw,.inl ?_⟩;have h0:¬(kV*i.size=0):=by omega
     have h1:¬(16777216<kV*i.size):=by omega
     simp only[execOp,bM];simp[Instr.buildSlice,iI ht,sizeOf,typeInfo,hi,zeroValue,hz,h0,h1,newRow];rw[bT,aLG];simp[newObj,Sem.run]
    ·cases ho
   ·cases ho
  ·cases ho
 ·cases ho
def aO.Kd(fn:Func)(key k e size:Nat)(z:i_)(ho:zY P (au fn key)=some (0,[],e,size,z)):aO P B N:=
 .step key (au fn key) [] [(k,none)] (.slice (some ⟨k,0,some 7⟩) 0 0) [(k,.row [] e size)] (aLE ho k)
def aO.bsM(fn:Func)(key k len e size:Nat)(idx:l_)(z:i_)(vs:ak)(cells:p_)(x:Obj)(hx:Obj.row cells.toList e size=x)(G9:∀ v∈z.cells.toList,flat v=true)(zt:0<z.cells.size)
  (BW:IH size len z (idx.zip vs)=some cells) (bE:cells.size=len*size) (yb:0<len*size) (hle:len*size<=16777216) (ho:zY P (au fn key)=some (len,idx,e,size,z)):aO P B N:=
 .step key (au fn key) vs [(k,none)] (.slice (some ⟨k,0,some 7⟩) len 0) [(k,x)] (by subst hx;exact aLF ho G9 zt BW bE yb hle k)
def aO.ap0(fn:Func)(key k m e size bytes q:Nat)(x:Obj)(new:ak)(hx:x.reads=true)(hlen:x.cells.length=m*size)(iw:x.cells=new)
  (bE:0<size) (h63:m<=maxLen) (hb:m*bytes<=140737488355328) (ho:DZ P (au fn key)=some (e,size,bytes,size,true)):aO P B N:=
 .step key (au fn key) [.slice none 0 0,.slice (some ⟨q,0,some 7⟩) m 0] [(k,none),(q,some x)] (.slice (some ⟨k,0,some 7⟩) m 0) [(k,.row new e size)] (by
  subst iw;have hs:Bn B (.slice (some ⟨q,0,some 7⟩) m 0) m x.cells [(q,some x)]:=by have:=Le (B:=B) (k:=q) (off:=0) (m:=m) (cc:=0) hx (len:=m*size) (λh=>by rw[h,kT]);rw[lv,jN (uA hlen)]at this;exact this
  exact aGS (B:=B) ho bE hs hlen h63 hb k)
theorem aBK{n:Nat}{nd:q_}(h:ko P f l ty size n xs)(hs:gk B l (vs++ca) nd)(ho:da o.op=some x)(eB:fN P f=true)(hx:(xs.all flat)=true)(k:Nat):
  ct P B o (.func (.func f) #[] ca.toArray::vs) ((k,none)::nd) (.slice (some ⟨k,0,some 7⟩) n 0) [(k,.row xs ty size)]:=by
 have:=jy (P:=P) (B:=B) (o:=o) (x:=x) (f:=f) (fi:=[]) (args:=vs) (ca:=ca) (need:=(k,none)::nd) (val:=.slice (some ⟨k,0,some 7⟩) n 0) (cK:=[(k,.row xs ty size)]) ho eB ?_
 ·simpa using this
 ·intro ι c w hm hn args' ha;rw[jg]at ha;refine(h w args' (AG hs hm (λp hp=>hn p (bB _ hp)) ha)).mono ?_
  rintro e w' ⟨v,rfl,h1,h2⟩
  obtain⟨ao,q1,q2,q3⟩:=DN hm h2 (k:=k) (hn (k,none) (aN ..)) h1 (aX.1 hx);exact⟨ao,v,rfl,q1,q3,q2⟩
def Ou(P:j_)(o:Oper):Bool:=match o.op with
 |.call c=>match c.callee,c.args.toList,c.argTypes.toList with
  |.builtin .len,[_],[t]=>(match P.underlying t with|some (.slice _)=>true|_=>false)
  |_,_,_=>false
 |_=>false
theorem aBL(ho:Ou P o=true):∃ x t e,o.op=.call { callee:=.builtin .len,args:=#[x],argTypes:=#[t]}/\P.underlying t=some (.slice e):=by
 unfold Ou at ho;split at ho
 ·rename_i c bM;split at ho
  ·rename_i x t h1 h2 h3;split at ho
   ·rename_i e ht;refine⟨x,t,e,?_,ht⟩;rw[bM];obtain⟨ce,ar,at'⟩:=c;dsimp only at h1 h2 h3;subst h1;have e1:ar=#[x]:=by rw[<-yw (xs:=ar),h2]
    have e2:at'=#[t]:=by rw[<-yw (xs:=at'),h3]
    rw[e1,e2]
   ·cases ho
  ·cases ho
 ·cases ho
theorem aI.less(hm:aI B ι c w){s:Nat}{cells:ak}(hk:c k=some (.row cells ty s))(m:Nat):aI B ι (aT c k (.row (cells.take m) ty s)) w:=by
 obtain⟨l,h1,h2⟩:=hm.born k _ hk;rcases h2 with ⟨h2,h3⟩|⟨b,cap,cur,e1,e2,e3,e4,e5⟩
 ·subst h3;refine hm.ext λj=>?_;unfold aT;by_cases hj:j=k
  ·rw[aq hj,hj,hk,List.take_nil]
  ·rw[al hj]
 ·subst e1;refine hm.write hk rfl h1 (.refl w) rfl rfl (aZ _) (λ_ _ _=>rfl) (.inr ⟨b,cap,cur,rfl,e2,e3,e4,?_⟩) n_ rfl;have:=e5.take m;rw[Li]at this;rw[je];exact this
theorem aLI{s:Nat}(ho:rf P o=some (false,true,s)){n h sz:Nat}{cells:ak}(hh:h<=n):
  ct P B o [.slice (some ⟨k,0,some 7⟩) n 0,vI h] [(k,some (.row cells ty sz))] (.slice (some ⟨k,0,some 7⟩) h 0) [(k,.row (cells.take m) ty sz)]:=by
 have:=FG (B:=B) ho (k:=k) (off:=0) (n:=n) (cc:=0) (l:=0) (h:=h) (λ_=>rfl) n_ (kB _) hh (.inr rfl);have h0:ct P B o [.slice (some ⟨k,0,some 7⟩) n 0,vI h] [] (.slice (some ⟨k,0,some 7⟩) h 0) []:=by simpa using this
 intro R ι c a w hv hm hn K Q hK;refine h0 R ι c a w hv hm n_ K Q λao v' w' h1 h2 h3=>hK ao v' w' h1 h2 ?_;exact aI.less h3 (hn (k,_) (aN ..)) m
def aO.cut(fn:Func)(key k n h m s sz ty:Nat)(cells new:ak)(hh:h<=n)(iw:cells.take m=new)(ho:rf P (au fn key)=some (false,true,s)):aO P B N:=
 .step key (au fn key) [.slice (some ⟨k,0,some 7⟩) n 0,vI h] [(k,some (.row cells ty sz))] (.slice (some ⟨k,0,some 7⟩) h 0) [(k,.row new ty sz)] (by subst iw;exact aLI ho hh)
end
def wZ:Code->Code|.seq a _=>a|c=>c
def pP:Code->Code|.seq _ b=>b|c=>c
def dx(fn:Func):Code:=match fn.body with|some c=>c|none=>.skip
theorem aLJ(l:l_):aj l=e6 (l.map λx:Nat=>(x:Int)):=by simp[aj,e6];intro _ _;rfl
theorem nF.snoc{cs:ak}{i:Int}{l:List Int}(h:nF w fs cs)(hr:cZ w u l.length (e6 l))(hu:Go.Proofs.YthccllenbnhogaaGreatDoor.flat u=true):nF w (fs++[(i,l)]) (cs++[iV i,u]):=by
 induction h with
 |nil=>exact .cons hr hu .nil
 |cons h1 h2 _ ih=>exact .cons h1 h2 ih
section
variable{P:j_}{B:ae}{N:Nat}
theorem aI.aLK(hm:aI B ι c w){s:Nat}{cells:ak}(hk:c k=some (.row cells ty s))(hl:cells'.length=cells.length)(h:∀ bW,bJ (aG ι) cells bW->bJ (aG ι) cells' bW):aI B ι (aT c k (.row cells' ty s)) w:=by
 obtain⟨l,h1,h2⟩:=hm.born k _ hk;rcases h2 with ⟨h2,h3⟩|⟨b,cap,cur,e1,e2,e3,e4,e5⟩
 ·subst h3;have:cells'=[]:=j9 hl;subst this;refine hm.ext λj=>?_;unfold aT;by_cases hj:j=k
  ·rw[aq hj,hj,hk]
  ·rw[al hj]
 ·subst e1;refine hm.write hk rfl h1 (.refl w) rfl rfl (aZ _) (λ_ _ _=>rfl) (.inr ⟨b,cap,cur,rfl,e2,e3,e4,?_⟩) n_ rfl;rw[hl];exact h _ e5
theorem aLL(hm:aI B ι c w){cells:ak}(hk:c k=some (.row cells ty 1)):∃ u,aG ι (.slice (some ⟨k,0,some 7⟩) cells.length 0) u:=by
 obtain⟨l,h1,h2⟩:=hm.born k _ hk;rcases h2 with ⟨h2,h3⟩|⟨b,cap,cur,e1,e2,e3,e4,e5⟩
 ·subst h2;subst h3;exact⟨_,.slcN h1⟩
 ·subst e1;have hl:=e5.length;simp only[je,xG,fY]at hl e4;exact⟨_,.slc (c:=0) (c':=cap) h1 o_ o_⟩
theorem St.nil{fr:aL}{M:aC}{next:Nat}{a:Act}{w:h_}(h:St B N fr M next a w)(t:Nat)(ht:bt fr t=.slice none 0 0)(ty:TypeId)(s:Nat):
  St B N ((t,.slice (some ⟨next,0,some 7⟩) 0 0)::fr) ((next,.row [] ty s)::M) (next+1) a w:=by
 obtain⟨ι,cc,h1,h2,h3,h4⟩:=h;have hn:=h4 next (aZ _);have hle:Map.le ι (dy ι next .nil):=fZ (h2.dp next hn);refine⟨dy ι next .nil,aT cc next (.row [] ty s),⟨h1.defers,h1.size,λt'=>?_⟩,h2.add hn (.inl ⟨rfl,rfl⟩) n_ n_ n_,λk x e=>?_,λk hk=>?_⟩
 ·have h0:=h1.slot t';rw[show bt ((t,Value.slice (some ⟨next,0,some 7⟩) 0 0)::fr) t'=if Nat.beq t t'=true then .slice (some ⟨next,0,some 7⟩) 0 0 else bt fr t' from rfl];by_cases hb:Nat.beq t t'=true
  ·rw[aq hb];have:=jK hb;subst this;rw[ht]at h0;rw[(h0.zp rfl).eW rfl];exact .inr (.slcN (fj _ _ _))
  ·rw[al hb];exact h0.mono hle
 ·unfold ah at e;split at e
  ·rename_i hb;injection e with e;subst e;unfold aT;rw[aq (jK hb).symm]
  ·have:=h3 k x e;have aY:k≠next:=λe'=>by subst e';rw[hn]at this;cases this
   unfold aT;rw[al aY];exact this
 ·unfold aT;rw[al o_];exact h4 k o_
theorem St.Ot{next:Nat}{a:Act}{Uk:TypeId}{v0:i_}(h:St (B.jd ks) N fr M next a w)
  (hm:ah M m=some (.row xs ty 1)) (cA:(xs.all flat)=true) (hk:ah M k=some (.row (pre++[v0,.slice (some ⟨m,0,some 7⟩) xs.length 0]) Uk 2)) (hmk:m≠k) :
  ∃ u,flat u=true/\(∀ b,hZ u=some b->¬B.cI b)/\St (B.jd ((u,xs)::ks)) N fr ((k,.row (pre++[v0,u]) Uk 2)::(m,.dead)::M) next a w:=by
 obtain⟨ι,cc,h1,h2,h3,h4⟩:=h;obtain⟨u,hu⟩:=aLL h2 (h3 m _ hm);obtain⟨g1,g2,g3⟩:=Go.Proofs.YthccllenbnhogaaGreatDoor.Ot h2 (h3 m _ hm) (aX.1 cA) hu;have EO:aT cc m .dead k=some (.row (pre++[v0,.slice (some ⟨m,0,some 7⟩) xs.length 0]) Uk 2):=by unfold aT;rw[al (λe=>hmk e.symm)];exact h3 k _ hk
 have g4:=g1.aLK (cells':=pre++[v0,u]) EO s_ λbW hc=>by
  have hl:(pre++[v0,Value.slice (some ⟨m,0,some 7⟩) xs.length 0]).length=bW.length:=hc.length;have c1:=hc.take (pre.length+1);have c2:=hc.drop (pre.length+1);rw[jW]at hl;have e1:(pre++[v0,Value.slice (some ⟨m,0,some 7⟩) xs.length 0]).take (pre.length+1)=pre++[v0]:=by rw[aA2];simp[jN]
  have e2:(pre++[v0,Value.slice (some ⟨m,0,some 7⟩) xs.length 0]).drop (pre.length+1)=[.slice (some ⟨m,0,some 7⟩) xs.length 0]:=by rw[List.drop_append];simp[List.drop_eq_nil_of_le]
  rw[e1]at c1;rw[e2]at c2;obtain⟨x,hx,hxc⟩:=lO c2;have:=Ik hxc hu;subst this;rw[<-Ov (pre.length+1) bW,hx,show pre++[v0,x]=(pre++[v0])++[x]by simp];exact c1.append (.cons (.same g2) .nil)
 refine⟨u,g2,g3,ι,_,⟨h1.defers,h1.size,h1.slot⟩,g4,λj x e=>?_,λj hj=>?_⟩
 ·unfold ah at e;split at e
  ·rename_i hb;injection e with e;subst e;unfold aT;rw[aq (jK hb).symm]
  ·rename_i hb;have bL:j≠k:=λe'=>hb (by rw[e'];exact DH k);unfold ah at e;split at e
   ·rename_i gD;injection e with e;subst e;unfold aT;rw[al bL,aq (jK gD).symm]
   ·rename_i gD;have hjm:j≠m:=λe'=>gD (by rw[e'];exact DH m);unfold aT;rw[al bL,al hjm];exact h3 j x e
 ·have qb:k<next:=by
   rcases eQ k next with h|h
   ·exact h
   ·have:=h4 k h;rw[h3 k _ hk]at this;cases this
  have cN:m<next:=by
   rcases eQ m next with h|h
   ·exact h
   ·have:=h4 m h;rw[h3 m _ hm]at this;cases this
  unfold aT;rw[al o_,al o_];exact h4 j hj
def aBM(P:j_)(f:FuncId)(l:List aJ)(F:Fact):Prop:=
 ∀ w vs,tT w l vs->Calls P f vs.toArray w λe w'=>∃ v,e=.returned v/\AE w' v F/\(∀ b,F.cI v w' b->w.heap.size<=b)/\Below w.heap.size w w'
end
def Fact.iS(F:Fact)(S:Nat):Fact where
 G v w:=F.G v w/\∀ b,F.cI v w b->S<=b
 cI:=F.cI
 lt v w k h hk:=F.lt v w k h.1 hk
 dep v w w' h hs hk:=by obtain⟨h1,h2⟩:=F.dep v w w' h.1 hs hk;exact⟨⟨h1,λb hb=>h.2 b (h2 b hb)⟩,h2⟩
 rc:=F.rc
 soft hr v w w' h hs hk:=by obtain⟨h1,h2⟩:=F.soft hr v w w' h.1 hs hk;exact⟨⟨h1,λb hb=>h.2 b (h2 b hb)⟩,h2⟩
section
variable{P:j_}{B:ae}{N:Nat}
theorem aLM{nd:q_}{S:Nat}(h:aBM P f l F)(hs:gk B l vs nd)(ho:da o.op=some x)(eB:fN P f=true)(vB:F.rc=false)(hS:∀ w,B.G w->S<=w.heap.size)(k:Nat):
  ct P B o (.func (.func f) #[] #[]::vs) ((k,none)::nd) (.pointer (some ⟨k,0,some 9⟩)) [(k,.fact (F.iS S))]:=by
 have:=jy (P:=P) (B:=B) (o:=o) (x:=x) (f:=f) (fi:=[]) (args:=vs) (ca:=[]) (need:=(k,none)::nd) (val:=.pointer (some ⟨k,0,some 9⟩)) (cK:=[(k,.fact (F.iS S))]) ho eB ?_
 ·simpa using this
 ·intro ι c w hm hn args' ha;rw[jg,gO]at ha;refine(h w args' (AG hs hm (λp hp=>hn p (bB _ hp)) ha)).mono ?_
  rintro e w' ⟨v,rfl,⟨h1,h2,h3⟩,h4,h5⟩
  have Ke:=hS w hm.base;refine⟨dy ι k (.val v),v,rfl,fZ (hm.dp k (hn (k,none) (aN ..))),.opq (fj _ _ _) h2 h3,hm.new h5 (hn (k,none) (aN ..)) ⟨v,rfl,h1,λb hb=>c9 Ke (h4 b hb)⟩ n_ (λF' v' b e1 e2 hF=>?_) rfl λF' e hr=>?_⟩
  ·injection e1 with e1;subst e1;injection e2 with e2;subst e2;exact .inl (h4 b hF)
  ·injection e with e;subst e;have:F.rc=true:=hr;rw[vB]at this;cases this
structure aLN(w w':h_)(kt s1 n1:Nat)(hY:ak)(ub s2 n2:Nat)(iQ:ak)(F:Fact)(v1 v2 v3:i_):Prop where
 r1:w'.ownsRow w.heap.size kt s1 v1 n1 hY
 r2:w'.ownsRow w.heap.size ub s2 v2 n2 iQ
 r3:AE w' v3 F
 f3:∀ b,F.cI v3 w' b->w.heap.size<=b
 a12:∀ b,hZ v1=some b->hZ v2≠some b
 Ow:∀ b,hZ v1=some b->¬F.cI v3 w' b
 a23:∀ b,hZ v2=some b->¬F.cI v3 w' b
def A1(P:j_)(f:FuncId)(l:List aJ)(kt s1 n1:Nat)(hY:ak)(ub s2 n2:Nat)(iQ:ak)(F:Fact)(us:ak):Prop:=
 ∀ w vs,tT w l vs->Calls P f vs.toArray w λe w'=>∃ v1 v2 v3,e=.returned (.tuple (.agg #[v1,v2,v3]::us).toArray)/\aLN w w' kt s1 n1 hY ub s2 n2 iQ F v1 v2 v3/\Below w.heap.size w w'
theorem He(hm:aI B ι c w){n:Nat}{v:i_}(hc:aG ι (.slice (some ⟨k,0,some 7⟩) n cc) v)(hb:hZ v=some b):∃ o cap,ι k=some (.at b o cap):=by
 rcases hc.gK rfl with ⟨_,_,_,_,q5⟩|⟨b',oo,cap,c',q1,_,_,q5⟩
 ·rw[q5]at hb;cases hb
 ·rw[q5]at hb;injection hb with hb;subst hb;exact⟨oo,cap,q1⟩
theorem Ul{k3:Nat}{iQ us:ak}(gV:P.follows .mixedOrders=true)(hf:P.funcs[f]?=some fn)(hl:(l.all aJ.ok)=true)(n:Nat){N:Nat}(hN:N=(eE 0 l).length+(fn.ntmps-(eE 0 l).length))
  (rs:∀ w,bK P (ae.at w) N) (h:∀ w,nO (gu (P:=P) fn n (eE 0 l) (iY 0 l) (jq 0 l) (rs w)) [(k1,.row eg A U),(k2,.row iQ a1 m1),(k3,.fact (F.iS w.heap.size))] =
   nP (gu fn n (eE 0 l) (iY 0 l) (jq 0 l) (rs w)) (.tuple (.agg #[.slice (some ⟨k1,0,some 7⟩) n1 0,.slice (some ⟨k2,0,some 7⟩) n2 0,.pointer (some ⟨k3,0,some 9⟩)]::us).toArray) [(k1,.row eg A U),(k2,.row iQ a1 m1),(k3,.fact (F.iS w.heap.size))])
  (NM:k1≠k2) (tH:(eg.all flat)=true) (uz:eg.length=n1*U) (gB:(iQ.all flat)=true) (kO:iQ.length=n2*m1) (hu:(us.all flat)=true):A1 P f l A U n1 eg a1 m1 n2 iQ F us:=by
 intro w vs cB;obtain⟨ι,c,h1,h2,h3,h4,h5,h6,h7⟩:=wL cB (aX.1 hl) 0 _ _ (sj w) n_ (λ_ _=>rfl);refine tA gV hf hN n (h w) h6 h2 h4 h3 λao bP v' w' hle hc hm dD=>?_;obtain⟨cU,rfl,pa⟩:=hc.tg;have hc:bJ (aG ao) (.agg #[.slice (some ⟨k1,0,some 7⟩) n1 0,.slice (some ⟨k2,0,some 7⟩) n2 0,.pointer (some ⟨k3,0,some 9⟩)]::us) cU.toList:=pa;cases aK:cU.toList with
 |nil=>rw[aK]at hc;cases hc
 |cons a t=>
  rw[aK]at hc;cases hc with
  |cons ha ht=>
   obtain⟨ags,rfl,fO⟩:=ha.Fu;have Ax:bJ (aG ao) [.slice (some ⟨k1,0,some 7⟩) n1 0,.slice (some ⟨k2,0,some 7⟩) n2 0,.pointer (some ⟨k3,0,some 9⟩)] ags.toList:=fO;obtain⟨v1,v2,v3,e3,c1,c2,c3⟩:=H4 Ax;have et:=mD ht (aX.1 hu);have g1:=dD (k1,_) (aN ..);have g2:=dD (k2,_) (bB _ (aN ..));have g3:=dD (k3,_) (bB _ (bB _ (aN ..)));have o1:=uJ hm g1 c1 o_ (aX.1 tH);have o2:=uJ hm g2 c2 o_ (aX.1 gB);rw[<-uz,nB]at o1;rw[<-kO,nB]at o2;have o3:=yv hm g3 c3;have aBN:ao k3=some (.val v3):=by
    obtain⟨lc,q1,u,q2,q3⟩:=hm.born k3 _ g3;subst q2;generalize hp:Value.pointer (some ⟨k3,0,some 9⟩)=p at c3;cases c3 with
    |same h=>subst hp;cases h
    |ptr h=>injection hp with hp;injection hp with hp;injection hp with _ _ hp;cases hp
    |slc h=>cases hp
    |slcN h=>cases hp
    |opq h4 h5 h6=>injection hp with hp;injection hp with hp;injection hp with ik;subst ik;exact h4
    |fn=>cases hp
    |agg=>cases hp
    |tup=>cases hp
   refine⟨v1,v2,v3,?_,⟨o1,o2,⟨o3.1.1,o3.2⟩,o3.1.2,λb pc gD=>?_,λb hb hF=>?_,λb hb hF=>?_⟩,hm.base⟩
   ·congr 2
    rw[<-yw (xs:=cU),aK,et]
    congr 2
    congr 1
    rw[<-yw (xs:=ags),e3]
   ·obtain⟨o,cap,q1⟩:=He hm c1 pc;obtain⟨o',bf,q2⟩:=He hm c2 gD;exact NM (hm.inj k1 k2 _ _ b o cap o' bf g1 rfl g2 rfl q1 q2)
   ·obtain⟨o,cap,q1⟩:=He hm c1 hb;exact hm.apart k1 k3 _ _ b o cap v3 g1 rfl q1 g3 aBN hF
   ·obtain⟨o,cap,q1⟩:=He hm c2 hb;exact hm.apart k2 k3 _ _ b o cap v3 g2 rfl q1 g3 aBN hF
theorem Um{S n s:Nat}{v:i_}(hm:aI B ι c w')(hk:c k=none)(hr:w'.ownsRow S ty s v n xs)(cA:(xs.all flat)=true)(hB:∀ b,B.cI b->b<S)
  (hold:∀ j y b o cap,c j=some y->ι j=some (.at b o cap)->y.owns=true\/y.jc=true->hZ v≠some b) (aLO:∀ j F u b,c j=some (.fact F)->ι j=some (.val u)->hZ v=some b->¬F.cI u w' b) :
  ∃ ao,Map.le ι ao/\aI B ao (aT c k (.row xs ty s)) w'/\aG ao (.slice (some ⟨k,0,some 7⟩) n 0) v/\∀ b o cap,ao k=some (.at b o cap)->hZ v=some b:=by
 have hle:∀ l,Map.le ι (dy ι k l):=λl=>fZ (hm.dp k hk);rcases hr.2 with ⟨h1,h2⟩|⟨g,cap,cur,h1,h2,h3,h4,h5,h6,h7⟩
 ·have hl:=hr.1;rw[h2,kT]at hl;have hx:xs=[]:=j9 hl;subst h1;subst h2;subst hx;exact⟨dy ι k .nil,hle _,hm.add hk (.inl ⟨rfl,rfl⟩) n_ n_ n_,.slcN (fj _ _ _),λb o cap e=>by rw[fj]at e;cases e⟩
 ·subst h1;refine⟨dy ι k (.at g 0 cap),hle _,hm.add hk (.inr ⟨g,cap,cur,rfl,h3,h5,h6,?_⟩) (λb1 o1 kz _ e=>?_) n_ n_,.slc (o:=0) (off:=0) (fj _ _ _) h4 o_,λb1 o1 kz e=>?_⟩
  ·rw[hr.1,h7];exact j7 (aX.1 cA)
  ·injection e with e;subst e;refine⟨(zK.1 h3).1,λhF=>by have:=hB _ hF;omega,λj y o' bf hj hy he=>hold j y g o' bf hj he (.inl hy) rfl,λj F u hj hu hF=>aLO j F u g hj hu rfl hF,λj y o' bf hj hy he=>hold j y g o' bf hj he (.inr hy) rfl⟩
  ·rw[fj]at e;injection e with e;injection e with e;subst e;rfl
theorem Hf{s2:Nat}{iQ:ak}{us:ak}{nd:q_}{S:Nat}(h:A1 P f l A U n1 eg a1 s2 n2 iQ F us)(hs:gk B l vs nd)(ho:da o.op=some x)(eB:fN P f=true)(vB:F.rc=false)
  (f1:(eg.all flat)=true) (f2:(iQ.all flat)=true) (fu:(us.all flat)=true) (hS:∀ w,B.G w->S<=w.heap.size) (k:Nat) :
  ct P B o (.func (.func f) #[] #[]::vs) ((k,none)::(k+1,none)::(k+2,none)::nd) (.tuple (.agg #[.slice (some ⟨k,0,some 7⟩) n1 0,.slice (some ⟨k+1,0,some 7⟩) n2 0,.pointer (some ⟨k+2,0,some 9⟩)]::us).toArray)
   [(k+2,.fact (F.iS S)),(k+1,.row iQ a1 s2),(k,.row eg A U)]:=by
 have:=jy (P:=P) (B:=B) (o:=o) (x:=x) (f:=f) (fi:=[]) (args:=vs) (ca:=[]) (need:=(k,none)::(k+1,none)::(k+2,none)::nd)
  (val:=.tuple (.agg #[.slice (some ⟨k,0,some 7⟩) n1 0,.slice (some ⟨k+1,0,some 7⟩) n2 0,.pointer (some ⟨k+2,0,some 9⟩)]::us).toArray) (cK:=[(k+2,.fact (F.iS S)),(k+1,.row iQ a1 s2),(k,.row eg A U)]) ho eB ?_
 ·simpa using this
 ·intro ι c w hm hn args' ha;rw[jg,gO]at ha;have k0:c k=none:=hn (k,none) s_;have k1:c (k+1)=none:=hn (k+1,none) s_;have k2:c (k+2)=none:=hn (k+2,none) s_;refine(h w args' (AG hs hm (λp hp=>hn p (by simp[hp])) ha)).mono ?_
  rintro e w' ⟨v1,v2,v3,rfl,⟨r1,r2,r3,f3,a12,Ow,a23⟩,hb⟩
  have Ke:=hS w hm.base;have EP:=hm.call hb
  -- where aSN lie
  have cM:∀ j y b o cap,c j=some y->ι j=some (.at b o cap)->y.owns=true\/y.jc=true->b<w.heap.size:=λj y b o cap hj hl hy=>by
   rcases hy with hy|hy
   ·exact(hm.own j y b o cap hj hy hl).1
   ·exact(hm.seen j y b o cap hj hy hl).1
  have Ox:∀ j F u b,c j=some (.fact F)->ι j=some (.val u)->F.cI u w' b->b<w.heap.size:=λj F u b hj hu hF=>by have hF:=hm.Dl hj hu hb.size (λk hk _=>hb.block k hk) hF;obtain⟨l,q1,q2⟩:=hm.born j _ hj;rw[hu]at q1;injection q1 with q1;exact q2.Dk q1.symm hF
  have Kf:∀ b,hZ v1=some b->w.heap.size<=b:=λb hb=>by
   rcases r1.2 with ⟨h1,_⟩|⟨g,cap,cur,h1,h2,_⟩
   ·rw[h1]at hb;cases hb
   ·rw[h1]at hb;injection hb with hb;subst hb;exact h2
  have aBO:∀ b,hZ v2=some b->w.heap.size<=b:=λb hb=>by
   rcases r2.2 with ⟨h1,_⟩|⟨g,cap,cur,h1,h2,_⟩
   ·rw[h1]at hb;cases hb
   ·rw[h1]at hb;injection hb with hb;subst hb;exact h2
  have Oy:∀ b,B.cI b->b<w.heap.size:=λb hF=>B.lt w b hm.base hF;obtain⟨bF,l1,m1,c1,p1⟩:=Um EP k0 r1 f1 Oy (λj y b o cap hj hl hy e=>by have a:=cM j y b o cap hj hl hy;have b:=Kf b e;omega) (λj F u b hj hu e hF=>by have a:=Ox j F u b hj hu hF;have b:=Kf b e;omega);have bn:∀{ι:Map} {c:g_},aI B ι c w'->∀ j y,c j=some y->∃ l,ι j=some l:=λh j y hj=>by obtain⟨l,q,_⟩:=h.born j y hj;exact⟨l,q⟩
  have back:∀{ι bF:Map} {c:g_},aI B ι c w'->Map.le ι bF->∀ j y l,c j=some y->bF j=some l->ι j=some l:=λh hle j y l hj hl=>by obtain⟨l',cW⟩:=bn h j y hj;have:=hle j l' cW;rw[hl]at this;injection this with this;rw[this];exact cW
  have Oz:aT c k (.row eg A U) (k+1)=none:=by unfold aT;rw[al o_];exact k1
  have Kg:∀ j y,aT c k (.row eg A U) j=some y->(j=k/\y=.row eg A U)\/(j≠k/\c j=some y):=λj y hj=>by
   unfold aT at hj;by_cases bL:j=k
   ·rw[aq bL]at hj;injection hj with hj;exact .inl ⟨bL,hj.symm⟩
   ·rw[al bL]at hj;exact .inr ⟨bL,hj⟩
  obtain⟨df,l2,m2,c2,p2⟩:=Um m1 Oz r2 f2 Oy (λj y b o cap hj hl hy e=>by
   rcases Kg j y hj with ⟨rfl,rfl⟩|⟨_,hj⟩
   ·exact a12 b (p1 b o cap hl) e
   ·have a:=cM j y b o cap hj (back EP l1 j y _ hj hl) hy;have b:=aBO b e;omega) (λj F u b hj hu e hF=>by
   rcases Kg j _ hj with ⟨_,h⟩|⟨_,hj⟩
   ·cases h
   ·have a:=Ox j F u b hj (back EP l1 j _ _ hj hu) hF;have b:=aBO b e;omega)
  have k2':aT (aT c k (.row eg A U)) (k+1) (.row iQ a1 s2) (k+2)=none:=by unfold aT;rw[al o_,al o_];exact k2
  have m3:aI B (dy df (k+2) (.val v3)) (aT (aT (aT c k (.row eg A U)) (k+1) (.row iQ a1 s2)) (k+2) (.fact (F.iS S))) w':=
   m2.add k2' ⟨v3,rfl,r3.1,λb hF=>c9 Ke (f3 b hF)⟩ n_ (λF' v b e1 e2 hF j y o' bf hj hy he=>by
    injection e1 with e1;subst e1;injection e2 with e2;subst e2;have hF:F.cI v3 w' b:=hF;have z8:=hj;unfold aT at hj;by_cases bL:j=k+1
    ·subst bL;exact a23 b (p2 b o' bf he) hF
    ·rw[al bL]at hj;have he1:=back m1 l2 j y _ hj he;rcases Kg j y hj with ⟨rfl,rfl⟩|⟨_,hj⟩
     ·exact Ow b (p1 b o' bf he1) hF
     ·have h1:=cM j y b o' bf hj (back EP l1 j y _ hj he1) (.inl hy);have h2:=f3 b hF;omega) n_ λF' e hr=>by
    injection e with e;subst e;have:F.rc=true:=hr;rw[vB]at this;cases this
  have l3:Map.le df (dy df (k+2) (.val v3)):=fZ (m2.dp _ k2');refine⟨_,_,rfl,l1.trans (l2.trans l3),.tup ?_,m3⟩;refine .cons (.agg (.cons (c1.mono (l2.trans l3)) (.cons (c2.mono l3) (.cons (.opq (fj _ _ _) r3.2.1 r3.2.2) .nil)))) (j7 λv hv=>aX.1 fu v hv)
end
section
variable{P:j_}{B:ae}{N:Nat}
def aO.rR(key i j p:Nat)(h:p=i*j)(hp:p<9223372036854775808):aO P B N:=
 .rw key (.int .i64 (IntKind.i64.wrap ((i:Int)*(j:Int)))) (vI p) (by
  have e:((i:Int)*(j:Int))=((i*j:Nat):Int):=by simp
  rw[e,<-h];have e:IntKind.i64.wrap (p:Int)=(p:Int):=by rw[dO];omega
  rw[e];rfl)
def aO.ER(key a b r:Nat)(h:r=a%b):aO P B N:=
 .rw key (.int .i64 (Int.tmod (a:Int) (b:Int))) (vI r) (by rw[ya o_,h];rfl)
def aO.ES(key a b q:Nat)(h:q=a/b)(ha:a<9223372036854775808):aO P B N:=
 .rw key (.int .i64 (IntKind.i64.wrap (Int.tdiv (a:Int) (b:Int)))) (vI q) (by
  rw[zW o_,h];have e:((a:Int)/(b:Int))=((a/b:Nat):Int):=by simp
  have hq:a/b<=a:=sB _ _;rw[e];have e:IntKind.i64.wrap ((a/b:Nat):Int)=((a/b:Nat):Int):=by rw[dO];omega
  rw[e];rfl)
theorem Kh{cells:ak}(gV:P.follows .mixedOrders=true)(hf:P.funcs[f]?=some fn)(hl:(l.all aJ.ok)=true)(n:Nat){N:Nat}(hN:N=(eE 0 l).length+(fn.ntmps-(eE 0 l).length))
  (rs:∀ w,bK P (ae.at w) N) (h:∀ w,nO (gu (P:=P) fn n (eE 0 l) (iY 0 l) (jq 0 l) (rs w)) [(k,.row cells ty size)]=nP (gu fn n (eE 0 l) (iY 0 l) (jq 0 l) (rs w)) (.slice (some ⟨k,0,some 7⟩) m 0) [(k,.row cells ty size)])
  (hx:(cells.all flat)=true) (hlen:m*size<=cells.length) (mT:cells.take (m*size)=xs):ko P f l ty size m xs:=by
 intro w vs cB;obtain⟨ι,c,h1,h2,h3,h4,h5,h6,h7⟩:=wL cB (aX.1 hl) 0 _ _ (sj w) n_ (λ_ _=>rfl);refine tA gV hf hN n (h w) h6 h2 h4 h3 λao bP v' w' hle hc hm dD=>⟨v',rfl,?_,hm.base⟩;have:=uJ hm (dD (k,_) (aN ..)) hc hlen (aX.1 hx);rwa[mT]at this
end
theorem A2{n:Nat}(h:a<bz^n):(aj (aa bz n a)).take (nd bz a*1)=cG a:=by have hle:=iN (B:=bz) d_ h;unfold cG aj;rw[fY,<-BE,Ir hle]
theorem ET{n:Nat}(h:a<bz^n):nd bz a*1<=(aj (aa bz n a)).length:=by have hle:=iN (B:=bz) d_ h;rw[mU,nR];omega
theorem Hg(a:Nat):(jb a).ok=true:=rP a
theorem Hh:(16777216:Nat)=256^3:=by decide
theorem aLP:(a%256^i/bz^(i/3)%bz)+(a/256^i%256*2^(8*(i%3)))=a%256^(i+1)/bz^(i/3)%bz:=by
 have e1:bz^(i/3)=256^(3*(i/3)):=by rw[show bz=256^3 from Hh,<-rj]
 have e2:(2:Nat)^(8*(i%3))=256^(i%3):=by rw[rj]
 have e3:256^i=256^(3*(i/3))*256^(i%3):=by rw[<-dX];congr 1;omega
 have hr:256^(i%3)*256<=bz:=by rw[show bz=256^3 from Hh,<-dh];exact cX d_ o_
 rw[e1,e2];have m1:a%256^i/256^(3*(i/3))=a/256^(3*(i/3))%256^(i%3):=by rw[e3,zU]
 have m2:a%256^(i+1)/256^(3*(i/3))=a/256^(3*(i/3))%(256^(i%3)*256):=by rw[dh,e3,fq,zU]
 have m3:a/256^i%256=a/256^(3*(i/3))/256^(i%3)%256:=by rw[e3,kg]
 rw[m1,m2,m3];generalize a/256^(3*(i/3))=c;have hp:0<256^(i%3):=cE d_;have h1:=cC c hp;have h3:c%(256^(i%3)*256)=c%256^(i%3)+256^(i%3)*(c/256^(i%3)%256):=LO;have h4:c%(256^(i%3)*256)<256^(i%3)*256:=cC _ o_;rw[dG (cy h4 hr),h3,dG (cy h1 (c9 (DY _ d_) hr)),cH (c/256^(i%3)%256)]
theorem aLQ(h:j≠i/3):a%256^i/bz^j%bz=a%256^(i+1)/bz^j%bz:=by
 have e1:bz^j=256^(3*j):=by rw[show bz=256^3 from Hh,<-rj]
 rw[e1];rcases DA h with h1|h1
 ·have k:∀ i,3*j+3<=i->a%256^i/256^(3*j)%bz=a/256^(3*j)%bz:=by
   intro i hi;have e3:256^i=256^(3*j)*(bz*256^(i-3*j-3)):=by rw[show bz=256^3 from Hh,<-dX,<-dX];congr 1;omega
   rw[e3,zU,ID]
  rw[k i o_,k (i+1) o_]
 ·have hp:∀ i,i<=3*j->a%256^i/256^(3*j)=0:=by intro i hi;exact lq (cy (cC _ (cE d_)) (cX d_ hi))
  rw[hp i o_,hp (i+1) o_]
theorem aLR{n:Nat}(hi:i/3<n):(aa bz n (a%256^i)).set (i/3) (a%256^(i+1)/bz^(i/3)%bz)=aa bz n (a%256^(i+1)):=by
 apply vT
 ·simp[aa]
 ·intro j h1 h2;simp only[aa,gF,zL]at h2;rw[FJ];simp only[aa,BF,BG];by_cases hj:i/3=j
  ·rw[aq hj,hj]
  ·rw[al hj];exact aLQ (lQ hj)
section
variable{Bs:ae}{N a:Nat}{s:ByteArray}
def aTU(s:ByteArray)(N i:Nat):aL:=[(4,vI i),(0,.string s),(3,sl 0 N)]
def aTl(N a i:Nat):aC:=[(0,.row (aj (aa bz N (a%256^i))) 3 1)]
theorem aLS(hN:N=(s.size+2)/3)(ha:a=jY s)(hi:i<s.size)(h63:s.size<35184372088832):
  ag prog Bs 38 (aE (af f159 0)) (aTU s N i) (aTl N a i) 1 ⟨.normal,aTU s N (i+1),aTl N a (i+1),1⟩:=by
 obtain⟨c,fU,c7⟩:=Q0 s hi;rw[<-ha]at c7;have wb:i/3<N:=by omega
 have hb:=aLP (a:=a) (i:=i);have h1:a%256^(i+1)/bz^(i/3)%bz<bz:=aLo;have h3:c.toNat*2^(8*(i%3))<=bz:=by rw[c7];omega
 have bH:=vh (l:=aa bz N (a%256^i)) (i:=i/3) (d:=a%256^(i+1)/bz^(i/3)%bz) (by rw[nR];exact wb);rw[aLR wb]at bH;have hg:(aa bz N (a%256^i))[i/3]?=some (a%256^i/bz^(i/3)%bz):=dV wb;have uc:IntKind.i64.wrap ((c.toNat:Int)*2^(min (8*(i%3)) IntKind.i64.bits))=((c.toNat*2^(8*(i%3)):Nat):Int):=by
  have e:(c.toNat:Int)*2^(8*(i%3))=((c.toNat*2^(8*(i%3)):Nat):Int):=by simp
  rw[show min (8*(i%3)) IntKind.i64.bits=8*(i%3)from mE (show 8*(i%3)<=64 by omega),dO,e];unfold bz at h3;omega
 rw[<-c7]at hb;unfold aTl;generalize aj (aa bz N (a%256^(i+1)))=r1 at *;generalize oL:aj (aa bz N (a%256^i))=r0 at *;have iA:=dJ hg;rw[oL]at iA;generalize a%256^i/bz^(i/3)%bz=x at *;generalize a%256^(i+1)/bz^(i/3)%bz=y at *;generalize hp:c.toNat*2^(8*(i%3))=p at *;exact ay [.rw 13 (.int .i64 (s.size:Int)) (vI s.size) rfl,.lt 14 i s.size true (aD hi),.rw 18 (.int .i64 (s.size:Int)) (vI s.size) rfl,.eO 19 s.size 1 (s.size-1) o_ o_,.eO 21 (s.size-1) i (s.size-1-i) o_ o_,.ES 24 i 3 (i/3) rfl o_,.ix f159 25 0 N (i/3) wb k_,.ld f159 26 3 0 (i/3) (.row r0 3 1) (vI x) rfl iA k_,.sx f159 29 s (s.size-1-i) c fU k_,.wr 30 .i64 (c.toNat:Int) (c.toNat:Int) (by rw[dO];have:=c.toNat_lt;omega),.ER 32 i 3 (i%3) rfl,.rR 33 8 (i%3) (8*(i%3)) rfl o_,.shl f159 34 .i64 (c.toNat:Int) (p:Int) (8*(i%3)) uc k_,.sum 35 x p y hb.symm (by unfold bz at h1;omega),.ix f159 36 0 N (i/3) wb k_,.st f159 100036 3 0 (i/3) (.row r0 3 1) (vI y) (.row r1 3 1) rfl bH rfl k_,.sum 16 i 1 (i+1) rfl o_]
theorem aLT(hN:N=(s.size+2)/3)(ha:a=jY s)(h63:s.size<35184372088832):
  ag prog Bs 38 (.block 0 (af f159 0)) (aTU s N 0) (aTl N a 0) 1 ⟨.normal,[(3,sl 0 N)],aTl N a s.size,1⟩:=
 bO (id:=0) (cg (b:=aE (af f159 0)) (r:=⟨.exit 0,[(3,sl 0 N)],aTl N a s.size,1⟩) s.size (aTU s N) (aTl N a)
  (λi k _=>jx (l:=aTl N a i) (m:=aTl N a 0) rfl k) (λi hi=>aLS hN ha hi h63) (ay [.rw 13 (.int .i64 (s.size:Int)) (vI s.size) rfl,.lt 14 s.size s.size false s_]) n_)
end
theorem aLU{s:ByteArray}(h63:s.size<35184372088832):ko prog 159 [.p (.string s)] 3 1 ((s.size+2)/3) (aj (aa bz ((s.size+2)/3) (jY s))):=by
 have lo:=λBs=>aLT (Bs:=Bs) (N:=(s.size+2)/3) (a:=jY s) rfl rfl h63;have h0:aj (aa bz ((s.size+2)/3) (jY s%256^0))=List.replicate ((s.size+2)/3) (vI 0):=by
  rw[ri,su,J9]
  congr 1
  unfold aa;rw[List.eq_replicate_iff];simp
 have h1:jY s%256^s.size=jY s:=dG (XZ s);unfold aTl at lo;rw[h0,h1]at lo;have fl:=gQ (aa bz ((s.size+2)/3) (jY s));have hl:(aj (aa bz ((s.size+2)/3) (jY s))).length=(s.size+2)/3*1:=by rw[mU,nR];omega
 generalize aj (aa bz ((s.size+2)/3) (jY s))=r1 at *;exact yu (k:=0) mixed func159 k_ 100 (N:=38) k_ (λ_=>[.rw 7 (.int .i64 (s.size:Int)) (vI s.size) rfl,.sum 8 s.size 2 (s.size+2) rfl o_,.ES 9 (s.size+2) 3 ((s.size+2)/3) rfl o_,.pf f159 10 0 ((s.size+2)/3) 3 8 (vI 0) (List.replicate ((s.size+2)/3) (vI 0)) rfl rfl rfl o_ (by simp[maxLen];omega) k_,.code 0 _ _ _ _ _ (lo _)]) (λ_=>k_) fl hl
end Go.Proofs.YthccllenbnhogaaGreatDoor
