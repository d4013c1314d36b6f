/- Points of a cut set: the proof of CutPointsCardSaid (the law's function answers true at every set it can be given; theorem cutPoints_card, last part), part 2 of 7; no condition. -/
import Derived.Test.YtjjefbkbljlgdaaGreatDoorC1
namespace Go.Proofs.YtjjefbkbljlgdaaGreatDoor
open Go Go.RowKit Tryz
section
variable{P:Program}{B:aa}{N:Nat}
theorem ju.aIk{uD bO dG:Map}{w0 w1:World}{l:oY}{x:Obj}(h0:ju uD w0 l x)(h1:ju bO w1 l x)(vB:Map.le uD bO)(EM:Map.le uD dG):ju dG w1 l x:=by
 cases x with
 |aI cells ty=>
  obtain⟨b,cs,e1,e2,_⟩:=h0;obtain⟨b',bC,CH,Cw,Cx⟩:=h1;rw[Ev Cw (nT vB e2)]at Cx;rw[e1]at CH;injection CH with CH _ _;subst CH;exact⟨b,cs,e1,nT EM e2,Cx⟩
 |row cells ty size=>
  rcases h0 with h0|⟨b,cap,cur,e1,e2,e3,e4,e5⟩
  ·exact .inl h0
  ·rcases h1 with h1|⟨b',aT,fK,CH,Cw,Cx,e4',e5'⟩
   ·exact .inl h1
   ·refine .inr ⟨b',aT,fK,CH,Cw,Cx,e4',?_⟩;rw[Ev e5' (nT vB e5)];exact nT EM e5
 |view cells=>
  rcases h0 with h0|⟨b,o,cap,cs,e1,e2,e3⟩
  ·exact .inl h0
  ·rcases h1 with h1|⟨b',o',aT,bC,CH,Cw,Cx⟩
   ·exact .inl h1
   ·refine .inr ⟨b',o',aT,bC,CH,?_,Cx⟩;rw[Ev Cw (nT vB e2)];exact nT EM e2
 |fact F=>exact h1
 |dead=>trivial
def lF(ι:Map)(next:Nat)(σ:List (Option Nat)):Map:=λk=>if k<next then ι k else match σ[k-next]? with
 |some (some m)=>ι m
 |some none=>some .nil
 |none=>none
def A2(c0:Nat->Option Obj)(next:Nat)(X:List Obj):Nat->Option Obj:=λk=>if k<next then c0 k else X[k-next]?
def marks:Nat->List Obj->aH
 |_,[]=>[]
 |k,x::l=>(k,x)::marks (k+1) l
def dT:List (Option Nat)->List Obj->aH
 |some m::σ,x::l=>(m,x)::dT σ l
 |none::σ,_::l=>dT σ l
 |_,_=>[]
def Obj.isNil:Obj->Bool
 |.row [] _ _=>true
 |.view []=>true
 |_=>false
def w7(next:Nat)(σ:List (Option Nat)):Value->Value
 |.slice (some ad) n c=>if Nat.ble next ad.block&&nk ad then(match σ[ad.block-next]? with
   |some (some m)=>.slice (some ⟨m,ad.off,some 7⟩) n c
   |some none=>.slice none 0 0
   |none=>.slice (some ad) n c)else .slice (some ad) n c
 |v=>v
def GQ(next:Nat)(σ:List (Option Nat)):Value->Bool
 |.slice (some ad) n c=>if Nat.ble next ad.block&&nk ad then(match σ[ad.block-next]? with
   |some (some _)=>true
   |some none=>Nat.beq ad.off 0&&(Nat.beq n 0&&Nat.beq c 0)
   |none=>false)else nw next (.slice (some ad) n c)
 |v=>nw next v
def gQ(next:Nat)(σ:List (Option Nat))(fr:aW):aW:=fr.map λp=>(p.1,w7 next σ p.2)
theorem JL{ι:Map}{next:Nat}{σ:List (Option Nat)}{k:Nat}(h:k<next):lF ι next σ k=ι k:=by unfold lF;rw[aw h]
theorem Sl{ι:Map}{next:Nat}{σ:List (Option Nat)}{j m:Nat}(h:σ[j]?=some (some m)):lF ι next σ (next+j)=ι m:=by unfold lF;rw[ao o_,EN,h]
theorem Zx{ι:Map}{next:Nat}{σ:List (Option Nat)}{j:Nat}(h:σ[j]?=some none):lF ι next σ (next+j)=some .nil:=by unfold lF;rw[ao o_,EN,h]
theorem Zy{ι:Map}{next:Nat}{σ:List (Option Nat)}{v v':Value}(ay:GQ next σ v=true)(h:aG ι (w7 next σ v) v'):aG (lF ι next σ) v v':=by
 have low:∀ k,k<next->∀ l,ι k=some l->lF ι next σ k=some l:=λk hk l e=>by rw[JL hk];exact e
 have gB:∀{v:Value},nw next v=true->aG ι v v'->aG (lF ι next σ) v v':=λhb h=>h.low low hb;cases v with
 |slice oa n c=>
  cases oa with
  |none=>exact gB ay h
  |some ad=>
   unfold GQ at ay;unfold w7 at h;dsimp only at ay h;split at ay
   ·rename_i hc;rw[aw hc]at h;simp only[da]at hc;have dR:=rl hc.1;obtain⟨j,hj⟩:∃ j,ad.block=next+j:=⟨ad.block-next,by omega⟩;have tg:ad.block-next=j:=by omega
    rw[tg]at ay h;have eta:=Cd hc.2;cases GR:σ[j]? with
    |none=>rw[GR]at ay;cases ay
    |some o=>
     cases o with
     |none=>
      rw[GR]at ay h;simp only[da]at ay;have h1:=jZ ay.1;have h2:=jZ ay.2.1;have h3:=jZ ay.2.2;rw[h.eU rfl,eta,h1,h2,h3,hj];exact .slcN (Zx GR)
     |some m=>
      rw[GR]at h;dsimp only at h;rw[eta,hj];rcases h.gV rfl with ⟨q1,q2,q3,q4,q5⟩|⟨b,o,cap,c',q1,q2,q3,q5⟩
      ·dsimp only at q1 q4;rw[q5,q2,q3,q4];exact .slcN (by rw[Sl GR];exact q1)
      ·dsimp only at q1 q5;rw[q5];exact .slc (by rw[Sl GR];exact q1) q2 q3
   ·rename_i hc;rw[ao hc]at h;exact gB ay h
 |_=>exact gB ay h
theorem Sn:∀(X:List Obj) (next k:Nat),ah (marks next X) k=if k<next then none else X[k-next]?
 |[],next,k=>by unfold marks ah;split<;>simp
 |x::X,next,k=>by
  unfold marks ah;by_cases h:next=k
  ·subst h;have:Nat.beq next next=true:=Es next;rw[aw this,ao (Nat.lt_irrefl _),vA];rfl
  ·rw[nY h];simp only[uE,uF];rw[Sn X (next+1) k];by_cases h2:k<next
   ·rw[aw o_,aw h2]
   ·rw[ao o_,ao h2];obtain⟨d,rfl⟩:∃ d,k=next+1+d:=⟨k-next-1,by omega⟩;rw[EN,show next+1+d-next=d+1 by omega];rfl
theorem Zz:∀{σ:List (Option Nat)} {X:List Obj} {j m:Nat} {x:Obj},σ[j]?=some (some m)->X[j]?=some x->(m,x)∈dT σ X
 |o::σ,y::X,0,m,x,h1,h2=>by simp at h1 h2;subst h1;subst h2;exact aV ..
 |o::σ,y::X,j+1,m,x,h1,h2=>by
  have:=Zz (σ:=σ) (X:=X) (j:=j) (by simpa using h1) (by simpa using h2);cases o with
  |none=>exact this
  |some q=>exact bF _ this
 |[],_,j,m,x,h1,_=>by simp at h1
 |_::_,[],j,m,x,_,h2=>by simp at h2
structure GS(M:aH)(next:Nat)(σ:List (Option Nat))(fr:aW)(F:aH)(X:List Obj):Prop where
 len:X.length=σ.length
 nodup:∀ i j m:Nat,σ[i]?=some (some m)->σ[j]?=some (some m)->i=j
 low:∀ i m:Nat,σ[i]?=some (some m)->m<next->ah F m=none/\ah M m≠none
 nil:∀(i:Nat) (x:Obj),σ[i]?=some none->X[i]?=some x->x.isNil=true
 jA:∀ p∈fr,GQ next σ p.2=true
 keys:∀ p∈F,p.1<next/\ah M p.1≠none
 aIl:∀ p∈F,fN next p.2
 news:∀ x∈X,fN next x
theorem rename{uD bO:Map}{c0 c1:Nat->Option Obj}{w0 w1:World}{M:aH}{next:Nat}{σ:List (Option Nat)}{fr:aW}{F:aH}{X:List Obj}(ok:GS M next σ fr F X)
  (h0:aQ B uD c0 w0) (CI:eG c0 next) (oC:cT c0 M) (vB:Map.le uD bO) (h1:aQ B bO c1 w1) (hF:cT c1 F) (hX:∀ p∈dT σ X,c1 p.1=some p.2) (hk:∀ k,k<next->ah M k=none->c1 k=c0 k) :
  ∃ c2,Map.le uD (lF bO next σ)/\aQ B (lF bO next σ) c2 w1/\cT c2 (F++marks next X)/\eG c2 (next+X.length)/\(∀ k,k<next->ah M k=none->c2 k=c0 k):=by
 have Sp:∀ k l,uD k=some l->k<next:=λk l e=>by
  rcases eF k next with h|h
  ·exact h
  ·rw[h0.dr k (CI k h)]at e;cases e
 have hle:Map.le uD (lF bO next σ):=λk l e=>by rw[JL (Sp k l e)];exact vB k l e
 have low:∀ k,k<next->∀ l,bO k=some l->lF bO next σ k=some l:=λk hk l e=>by rw[JL hk];exact e
 -- the objects
 let cl:Nat->Option Obj:=λk=>match ah F k with
  |some x=>some x
  |none=>match ah M k with
   |none=>c1 k
   |some _=>some .dead
 have iF:∀ k x,cl k=some x->(x=.dead/\ah M k≠none)\/(c1 k=some x/\(ah F k=some x\/(ah F k=none/\ah M k=none))):=by
  intro k x hx;have hx:(match ah F k with|some x=>some x|none=>match ah M k with|none=>c1 k|some _=>some Obj.dead)=some x:=hx;cases hf:ah F k with
  |some y=>rw[hf]at hx;injection hx with hx;subst hx;exact .inr ⟨hF k y hf,.inl rfl⟩
  |none=>
   rw[hf]at hx;dsimp only at hx;cases hm:ah M k with
   |none=>rw[hm]at hx;exact .inr ⟨hx,.inr ⟨rfl,rfl⟩⟩
   |some y=>rw[hm]at hx;injection hx with hx;exact .inl ⟨hx.symm,λe=>by cases e⟩
 have aIm:∀(j:Nat) (x:Obj),X[j]?=some x->(σ[j]?=some none/\x.isNil=true)\/∃ m,σ[j]?=some (some m)/\c1 m=some x:=by
  intro j x hx;have hj:j<σ.length:=by rw[<-ok.len];exact(ew.1 hx).1
  cases hs:σ[j]? with
  |none=>rw[ZA]at hs;omega
  |some o=>
   cases o with
   |none=>exact .inl ⟨rfl,ok.nil j x hs hx⟩
   |some m=>exact .inr ⟨m,rfl,hX _ (Zz hs hx)⟩
 -- where a mark that is not dead comes from
 have src:∀ k x,A2 cl next X k=some x->(x=.dead/\k<next/\ah M k≠none)\/(x.isNil=true/\lF bO next σ k=some .nil/\¬k<next)\/
   ∃ m,c1 m=some x/\lF bO next σ k=bO m/\((k<next/\m=k/\(ah F k=some x\/(ah F k=none/\ah M k=none)))\/(¬k<next/\σ[k-next]?=some (some m)/\X[k-next]?=some x)):=by
  intro k x hx;unfold A2 at hx;split at hx
  ·rename_i ak;rcases iF k x hx with h|⟨h1,h2⟩
   ·exact .inl ⟨h.1,ak,h.2⟩
   ·exact .inr (.inr ⟨k,h1,JL ak,.inl ⟨ak,rfl,h2⟩⟩)
  ·rename_i dR;obtain⟨j,rfl⟩:∃ j,k=next+j:=⟨k-next,by omega⟩;rw[EN]at hx ⊢;rcases aIm j x hx with ⟨h1,h2⟩|⟨m,h1,h2⟩
   ·exact .inr (.inl ⟨h2,Zx h1,dR⟩)
   ·exact .inr (.inr ⟨m,h2,Sl h1,.inr ⟨dR,h1,hx⟩⟩)
 have aUz:∀{x:Obj},x.isNil=true->∀ b o cap,lF bO next σ=lF bO next σ->(some oY.nil:Option oY)=some (.at b o cap)->False:=λ_ b o cap _ e=>by cases e
 -- an owner comes from an owner
 have own:∀ k x b o cap,A2 cl next X k=some x->x.owns=true->lF bO next σ k=some (.at b o cap)->∃ m,c1 m=some x/\bO m=some (.at b o cap)/\((k<next/\m=k/\(ah F k=some x\/(ah F k=none/\ah M k=none)))\/(¬k<next/\σ[k-next]?=some (some m)/\X[k-next]?=some x)):=by
  intro k x b o cap hx ho hl;rcases src k x hx with ⟨rfl,_⟩|⟨_,h,_⟩|⟨m,h1,h2,h3⟩
  ·cases ho
  ·rw[h]at hl;cases hl
  ·exact⟨m,h1,by rw[<-h2];exact hl,h3⟩
 have view:∀ k x b o cap,A2 cl next X k=some x->x.gh=true->lF bO next σ k=some (.at b o cap)->∃ m,c1 m=some x/\bO m=some (.at b o cap):=by
  intro k x b o cap hx ho hl;rcases src k x hx with ⟨rfl,_⟩|⟨_,h,_⟩|⟨m,h1,h2,h3⟩
  ·cases ho
  ·rw[h]at hl;cases hl
  ·exact⟨m,h1,by rw[<-h2];exact hl⟩
 refine⟨A2 cl next X,hle,⟨h1.base,?_,?_,?_,?_,?_,?_,?_,?_,h0.oz.trans hle⟩,?_,?_,?_⟩
 ·intro k hk;unfold A2 at hk;split at hk
  ·rename_i ak;rw[JL ak];have hk:(match ah F k with|some x=>some x|none=>match ah M k with|none=>c1 k|some _=>some Obj.dead)=none:=hk;cases hf:ah F k with
   |some y=>rw[hf]at hk;cases hk
   |none=>
    rw[hf]at hk;dsimp only at hk;cases hm:ah M k with
    |none=>rw[hm]at hk;exact h1.dr k hk
    |some y=>rw[hm]at hk;cases hk
  ·rename_i dR;unfold lF;rw[ao dR];have:σ[k-next]?=none:=by rw[ZA]at hk ⊢;rw[<-ok.len];exact hk
   rw[this]
 ·intro k x hx;rcases src k x hx with ⟨rfl,ak,hM⟩|⟨hn,h,_⟩|⟨m,q1,q2,q3⟩
  ·cases hm:ah M k with
   |none=>exact absurd hm hM
   |some y=>
    obtain⟨l,e1,_⟩:=h0.born k y (oC k y hm);exact⟨l,hle k l e1,trivial⟩
  ·refine⟨.nil,h,?_⟩;cases x with
   |row cells ty size=>cases cells with
    |nil=>exact .inl ⟨rfl,rfl⟩
    |cons _ _=>cases hn
   |view cells=>cases cells with
    |nil=>exact .inl ⟨rfl,rfl⟩
    |cons _ _=>cases hn
   |_=>cases hn
  ·obtain⟨l,e1,e2⟩:=h1.born m x q1;refine⟨l,by rw[q2];exact e1,?_⟩;rcases q3 with ⟨ak,rfl,h|⟨hf,hm⟩⟩|⟨dR,hs,rP⟩
   ·exact e2.below low (ok.aIl _ (j0 h))
   ·have e:=hk m ak hm;rw[q1]at e;obtain⟨l',f1,f2⟩:=h0.born m x e.symm;have:=vB m l' f1;rw[e1]at this;injection this with this;subst this;exact f2.aIk e2 vB hle
   ·exact e2.below low (ok.news _ (cQ rP))
 ·intro k x b o cap hx ho hl;obtain⟨m,q1,q2,_⟩:=own k x b o cap hx ho hl;exact h1.own m x b o cap q1 ho q2
 ·intro k j x y b o cap o' aT hx D7 hy Ec hl ch;obtain⟨m,q1,q2,q3⟩:=own k x b o cap hx D7 hl;obtain⟨m',qm,A3,lG⟩:=own j y b o' aT hy Ec ch;have e:=h1.inj m m' x y b o cap o' aT q1 D7 qm Ec q2 A3;subst e;have JM:∀ k j x y,(k<next/\m=k/\(ah F k=some x\/(ah F k=none/\ah M k=none)))->(¬j<next/\σ[j-next]?=some (some m)/\X[j-next]?=some y)->False:=by
   rintro k j x y ⟨ak,rfl,h⟩ ⟨_,hs,_⟩
   obtain⟨p1,p2⟩:=ok.low _ _ hs ak;rcases h with h|h
   ·rw[p1]at h;cases h
   ·exact p2 h.2
  rcases q3 with q3|q3<;>rcases lG with lG|lG
  ·rw[<-q3.2.1,lG.2.1]
  ·exact(JM _ _ _ _ q3 lG).elim
  ·exact(JM _ _ _ _ lG q3).elim
  ·have:=ok.nodup _ _ _ q3.2.1 lG.2.1;have:=q3.1;have:=lG.1;omega
 ·intro k j x F' b o cap v hx D7 hl hj hv hf;obtain⟨m,q1,q2,_⟩:=own k x b o cap hx D7 hl;rcases src j (.fact F') hj with ⟨e,_⟩|⟨hn,_⟩|⟨m',p1,p2,_⟩
  ·cases e
  ·cases hn
  ·exact h1.apart m m' x F' b o cap v q1 D7 q2 p1 (by rw[<-p2];exact hv) hf
 ·intro k x b o cap hx JN hl;obtain⟨m,q1,q2⟩:=view k x b o cap hx JN hl;obtain⟨p1,p2⟩:=h1.seen m x b o cap q1 JN q2;refine⟨p1,λj y o' aT hy Ec hj=>?_⟩;obtain⟨m',s1,s2,_⟩:=own j y b o' aT hy Ec hj;exact p2 m' y o' aT s1 Ec s2
 ·intro j F' hj;rcases src j (.fact F') hj with ⟨e,_⟩|⟨hn,_⟩|⟨m',p1,_,_⟩
  ·cases e
  ·cases hn
  ·exact h1.fa m' F' p1
 ·intro k j F' ZB hx hy hr sU;rcases src k (.fact F') hx with ⟨e,_⟩|⟨hn,_⟩|⟨m,q1,q2,q3⟩
  ·cases e
  ·cases hn
  rcases src j (.fact ZB) hy with ⟨e,_⟩|⟨hn,_⟩|⟨m',qm,A3,lG⟩
  ·cases e
  ·cases hn
  have e:=h1.one m m' F' ZB q1 qm hr sU;subst e;have JM:∀ k j x y,(k<next/\m=k/\(ah F k=some x\/(ah F k=none/\ah M k=none)))->(¬j<next/\σ[j-next]?=some (some m)/\X[j-next]?=some y)->False:=by
   rintro k j x y ⟨ak,rfl,h⟩ ⟨_,hs,_⟩
   obtain⟨p1,p2⟩:=ok.low _ _ hs ak;rcases h with h|h
   ·rw[p1]at h;cases h
   ·exact p2 h.2
  rcases q3 with q3|q3<;>rcases lG with lG|lG
  ·rw[<-q3.2.1,lG.2.1]
  ·exact(JM _ _ _ _ q3 lG).elim
  ·exact(JM _ _ _ _ lG q3).elim
  ·have:=ok.nodup _ _ _ q3.2.1 lG.2.1;have:=q3.1;have:=lG.1;omega
 ·intro k x hx;rw[gK]at hx;unfold A2;cases hf:ah F k with
  |some y=>
   rw[hf]at hx;injection hx with hx;subst hx;have ak:=(ok.keys _ (j0 hf)).1;dsimp only at ak;rw[aw ak];show(match ah F k with|some x=>some x|none=>match ah M k with|none=>c1 k|some _=>some Obj.dead)=some y;rw[hf]
  |none=>
   rw[hf]at hx;dsimp only at hx;rw[Sn]at hx;by_cases ak:k<next
   ·rw[aw ak]at hx;cases hx
   ·rw[ao ak]at hx ⊢;exact hx
 ·intro k gD;unfold A2;rw[ao o_,ZA];omega
 ·intro k ak hm;unfold A2;rw[aw ak];show(match ah F k with|some x=>some x|none=>match ah M k with|none=>c1 k|some _=>some Obj.dead)=c0 k;cases hf:ah F k with
  |some y=>exact absurd hm (ok.keys _ (j0 hf)).2
  |none=>rw[hm];exact hk k ak hm
theorem aIn{ι:Map}{AO fr:aW}{a:Act}{next:Nat}{σ:List (Option Nat)}(hf:fh B ι (bI AO) N a)(ay:∀ p∈fr,GQ next σ p.2=true)(h:∀ p∈gQ next σ fr,bI AO p.1=p.2)(A4:∀ p∈fr,lS (w7 next σ p.2)=false):
  fh B (lF ι next σ) (bI fr) N a:=by
 refine⟨hf.defers,hf.size,λt=>?_⟩;have key:∀(l:aW),(∀ p∈l,p∈fr)->nq (lF ι next σ) (bI l t) (a.tmps.getD t undef):=by
  intro l;induction l with
  |nil=>intro _;exact .inl rfl
  |cons p l ih=>
   intro hl;obtain⟨s,v⟩:=p;show nq _ (if Nat.beq s t then v else bI l t) _;by_cases hs:Nat.beq s t=true
   ·rw[aw hs];have hm:=hl _ (aV ..);have h1:=h (s,w7 next σ v) (dj.2 ⟨(s,v),hm,rfl⟩);dsimp only at h1;have e:=jZ hs;subst e;have h2:=hf.slot s;rw[h1]at h2;exact .inr (Zy (ay _ hm) (h2.Aw (A4 _ hm)))
   ·rw[ao hs];exact ih λq hq=>hl q (bF _ hq)
 exact key fr λ_ h=>h
theorem Sq:∀{σ:List (Option Nat)} {X:List Obj} {m:Nat} {x:Obj},(∀ i j m:Nat,σ[i]?=some (some m)->σ[j]?=some (some m)->i=j)->(m,x)∈dT σ X->ah (dT σ X) m=some x
 |[],_,m,x,_,h=>by simp[dT]at h
 |none::_,[],m,x,_,h=>by simp[dT]at h
 |some _::_,[],m,x,_,h=>by simp[dT]at h
 |none::σ,y::X,m,x,hn,h=>Sq (σ:=σ) (X:=X) (λi j m h1 h2=>by have:=hn (i+1) (j+1) m (by simpa using h1) (by simpa using h2);omega) h
 |some q::σ,y::X,m,x,hn,h=>by
  have l4:∀ i j m:Nat,σ[i]?=some (some m)->σ[j]?=some (some m)->i=j:=λi j m h1 h2=>by have:=hn (i+1) (j+1) m (by simpa using h1) (by simpa using h2);omega
  show(if Nat.beq q m then some y else ah (dT σ X) m)=some x;rcases cx.1 h with e|h'
  ·injection e with e1 e2;subst e1;subst e2;rw[aw (Es m)]
  ·have aU:q≠m:=by
    rintro rfl
    have idx:∀{σ:List (Option Nat)} {X:List Obj},(q,x)∈dT σ X->∃ j:Nat,σ[j]?=some (some q):=by
     intro σ;induction σ with
     |nil=>intro X h;simp[dT]at h
     |cons o σ ih=>
      intro X h;cases X with
      |nil=>cases o<;>simp[dT]at h
      |cons z X=>
       cases o with
       |none=>obtain⟨j,hj⟩:=ih (X:=X) h;exact⟨j+1,by simpa using hj⟩
       |some t=>
        rcases cx.1 h with e|h
        ·injection e with e1 _;exact⟨0,by simp[e1]⟩
        ·obtain⟨j,hj⟩:=ih (X:=X) h;exact⟨j+1,by simpa using hj⟩
    obtain⟨j,hj⟩:=idx h';have:=hn 0 (j+1) q s_ (by simpa using hj);omega
   rw[nY aU];simp only[uE,uF];exact Sq l4 h'
theorem Sr:∀{σ:List (Option Nat)} {X:List Obj} {m:Nat} {x:Obj},(m,x)∈dT σ X->∃ j:Nat,σ[j]?=some (some m)
 |[],_,_,_,h=>by simp[dT]at h
 |none::_,[],_,_,h=>by simp[dT]at h
 |some _::_,[],_,_,h=>by simp[dT]at h
 |none::σ,_::X,_,_,h=>by obtain⟨j,hj⟩:=Sr (σ:=σ) (X:=X) h;exact⟨j+1,by simpa using hj⟩
 |some t::σ,_::X,m,x,h=>by
  rcases cx.1 h with e|h
  ·injection e with e1 _;exact⟨0,by simp[e1]⟩
  ·obtain⟨j,hj⟩:=Sr (σ:=σ) (X:=X) h;exact⟨j+1,by simpa using hj⟩
theorem GS.ZC{M:aH}{next:Nat}{σ:List (Option Nat)}{fr:aW}{F:aH}{X:List Obj}(ok:GS M next σ fr F X){c:Nat->Option Obj}(h:cT c (F++dT σ X)):
  cT c F/\∀ p∈dT σ X,c p.1=some p.2:=by
 refine⟨λk x hx=>h k x (by rw[gK,hx]),λp hp=>?_⟩;obtain⟨m,x⟩:=p;have hf:ah F m=none:=by
  obtain⟨j,hj⟩:=Sr hp;rcases eF m next with ak|dR
  ·exact(ok.low j m hj ak).1
  ·cases hF:ah F m with
   |none=>rfl
   |some y=>have:=(ok.keys _ (j0 hF)).1;dsimp only at this;omega
 exact h m x (by rw[gK,hf];exact Sq ok.nodup hp)
theorem aIo{ι:Map}{fr:aW}{a:Act}{next:Nat}{σ:List (Option Nat)}(hf:fh B ι (bI (gQ next σ fr)) N a)(ay:∀ p∈fr,GQ next σ p.2=true)(A4:∀ p∈fr,lS (w7 next σ p.2)=false):
  fh B (lF ι next σ) (bI fr) N a:=by
 refine⟨hf.defers,hf.size,λt=>?_⟩;have key:∀(l:aW),(∀ p∈l,p∈fr)->nq ι (bI (gQ next σ l) t) (a.tmps.getD t undef)->nq (lF ι next σ) (bI l t) (a.tmps.getD t undef):=by
  intro l;induction l with
  |nil=>intro _ _;exact .inl rfl
  |cons p l ih=>
   intro hl h;obtain⟨s,v⟩:=p;have h:nq ι (if Nat.beq s t then w7 next σ v else bI (gQ next σ l) t) (a.tmps.getD t undef):=h;show nq _ (if Nat.beq s t then v else bI l t) _;by_cases hs:Nat.beq s t=true
   ·rw[aw hs]at h ⊢;have hm:=hl _ (aV ..);exact .inr (Zy (ay _ hm) (h.Aw (A4 _ hm)))
   ·rw[ao hs]at h ⊢;exact ih (λq hq=>hl q (bF _ hq)) h
 exact key fr (λ_ h=>h) (hf.slot t)
theorem aIp{b:Code}{fr:aW}{M:aH}{next p:Nat}{r:l5}(n:Nat)(I:Nat->aW)(F:Nat->aH)(X:Nat->List Obj)(hp:∀ i,i<=n->(X i).length=p)
  (start:∃ σ,GS M next σ (I 0) (F 0) (X 0)/\(∀ q∈I 0,lS (w7 next σ q.2)=false)/\(∀ q∈gQ next σ (I 0),bI fr q.1=q.2)/\(∀ k x,ah (F 0++dT σ (X 0)) k=some x->ah M k=some x))
  (body:∀ i,i<n->∃ σ hZ,GS M next σ (I (i+1)) (F (i+1)) (X (i+1))/\(∀ q∈I (i+1),lS (w7 next σ q.2)=false)/\ag P B N b (I i) (F i++marks next (X i)) (next+p) ⟨.normal,gQ next σ (I (i+1)),F (i+1)++dT σ (X (i+1)),hZ⟩)
  (last:ag P B N b (I n) (F n++marks next (X n)) (next+p) r) (hr:r.ex≠.normal):ag P B N (.loop b) fr M next r:=by
 intro R uD c0 a0 w0 Q Er kz oC CI hQ;refine RO (n+1) ?_;have key:∀ d i,i+d=n->∀(bO:Map) (c1:Nat->Option Obj) (a1:Act) (w1:World),Map.le uD bO->fh B bO (bI (I i)) N a1->aQ B bO c1 w1->cT c1 (F i++marks next (X i))->eG c1 (next+p)->
   (∀ k,k<next->ah M k=none->ah (F i) k=none)->(∀ k,k<next->ah M k=none->c1 k=c0 k)->
   (∀ t,uo (.loop b) t=false->a1.tmps.getD t undef=a0.tmps.getD t undef)->Code.roundsIn (FW R) 0 P b Q (d+1) a1 w1:=by
  have um:∀(i k:Nat),k<next->ah M k=none->ah (F i) k=none->ah (F i++marks next (X i)) k=none:=λi k hk _ hf=>by rw[gK,hf];dsimp only;rw[Sn,aw hk]
  intro d;induction d with
  |zero=>
   intro i hi bO c1 a1 w1 jq iH cX eC dP Ss hY jM;have:i=n:=by omega
   subst this;rw[Et];refine last R bO c1 a1 w1 _ iH cX eC dP λdG c2 a2 w2 kV jl dB gZ fv fE rz=>?_;have:=hQ dG c2 a2 w2 (jq.trans kV) jl dB gZ fv (λk hk h0=>(fE k o_ (um i k hk h0 (Ss k hk h0))).trans (hY k hk h0)) λt ht=>(rz t ht).trans (jM t ht);show Exit.then _ Q r.ex.AG a2 w2;cases hx:r.ex with
   |normal=>exact absurd hx hr
   |exit id=>rw[hx]at this;exact this
   |ret=>rw[hx]at this;exact this
  |succ d ih=>
   intro i hi bO c1 a1 w1 jq iH cX eC dP Ss hY jM;rw[Et];obtain⟨σ,hZ,ok,A4,hb⟩:=body i o_;refine hb R bO c1 a1 w1 _ iH cX eC dP λdG c2 a2 w2 kV jl dB gZ fv fE rz=>?_;obtain⟨q1,q2⟩:=ok.ZC gZ;have gD:∀ k,k<next->ah M k=none->c2 k=c0 k:=λk hk h0=>(fE k o_ (um i k hk h0 (Ss k hk h0))).trans (hY k hk h0);obtain⟨c3,e1,e2,e3,e4,e5⟩:=rename ok kz CI oC (jq.trans kV) dB q1 q2 gD;rw[hp (i+1) o_]at e4;refine ih (i+1) o_ _ c3 a2 w2 e1 (aIo jl ok.jA A4) e2 e3 e4 (λk hk h0=>?_) e5 λt ht=>(rz t ht).trans (jM t ht);cases hF:ah (F (i+1)) k with
   |none=>rfl
   |some y=>exact absurd h0 (ok.keys _ (j0 hF)).2
 obtain⟨σ,ok,A4,mF,hM⟩:=start;obtain⟨q1,q2⟩:=ok.ZC (c:=c0) λk x hx=>oC k x (hM k x hx);obtain⟨c3,e1,e2,e3,e4,e5⟩:=rename ok kz CI oC (Map.le.refl _) kz q1 q2 (λ_ _ _=>rfl);rw[hp 0 o_]at e4;refine key n 0 o_ _ c3 a0 w0 e1 (aIn Er ok.jA mF A4) e2 e3 e4 (λk hk h0=>?_) e5 λ_ _=>rfl;cases hF:ah (F 0) k with
 |none=>rfl
 |some y=>exact absurd h0 (ok.keys _ (j0 hF)).2
end
def gw(n a:Nat):List UInt8:=(List.range n).map λi=>UInt8.ofNat (a/256^(n-1-i)%256)
theorem JO(n a:Nat):(gw n a).length=n:=by simp[gw]
theorem w9(n a:Nat):gw (n+1) a=UInt8.ofNat (a/256^n%256)::gw n a:=by
 unfold gw;rw[List.range_succ_eq_map,rF,Su]
 congr 1
 refine yA λi hi=>?_;have hi:=kh.1 hi;show UInt8.ofNat (a/256^(n+1-1-(i+1))%256)=_;rw[show n+1-1-(i+1)=n-1-i by omega]
theorem Nd(a:Nat):gw 0 a=[]:=rfl
theorem ZD(n a m:Nat)(h:n<=m):gw n (a%256^m)=gw n a:=by
 unfold gw;refine yA λi hi=>?_;have hi:=kh.1 hi
 congr 1
 obtain⟨s,hs⟩:∃ s,m=(n-1-i)+1+s:=⟨m-(n-1-i)-1,by omega⟩;have e:256^m=256^(n-1-i)*(256*256^s):=by rw[hs,ev,dx,fF]
 rw[e,AY,JF]
theorem ZE(m n a:Nat):gw (m+n) a=gw m (a/256^n)++gw n a:=by
 induction m with
 |zero=>simp[Nd]
 |succ m ih=>
  rw[show m+1+n=(m+n)+1 by omega,w9,w9,ih,EO,kA,<-ev,mI n m]
theorem aIq(n a:Nat):fP (gw n a)=a%256^n:=by
 induction n with
 |zero=>simp[Nd,fP,tf]
 |succ n ih=>
  rw[w9,JE,ih,JO];have h1:(UInt8.ofNat (a/256^n%256)).toNat=a/256^n%256:=by rw[Nf];exact dK (cE _ d_)
  rw[h1,dx,MO,cP (256^n),mI]
def cg(a:Nat):List UInt8:=gw (nd 256 a) a
theorem EP(a:Nat):fP (cg a)=a:=by unfold cg;rw[aIq,dK (dS d_ a)]
theorem CJ:cg 0=[]:=by unfold cg;rw[o7];rfl
theorem tn(a:Nat):(cg a).length=nd 256 a:=JO _ _
theorem aIr{a:Nat}:cg a=[]↔a=0:=by
 constructor
 ·intro h;have:=EP a;rw[h]at this;exact this.symm
 ·rintro rfl;exact CJ
theorem aIs{a b:Nat}(h:cg a=cg b):a=b:=by rw[<-EP a,h,EP]
theorem Ng{a:Nat}(h:a≠0):∃ c l,cg a=c::l/\c≠0:=by
 have hp:=uB (B:=256) d_ h;obtain⟨n,hn⟩:∃ n,nd 256 a=n+1:=⟨nd 256 a-1,by omega⟩;have ak:=dS (B:=256) d_ a;rw[hn]at ak;refine⟨_,_,by unfold cg;rw[hn,w9],λe=>?_⟩;have h1:(UInt8.ofNat (a/256^n%256)).toNat=a/256^n%256:=by rw[Nf];exact dK (cE _ d_)
 rw[e]at h1;have h2:a<256^n:=(GD d_ ak).1 h1.symm;have:=ja (B:=256) d_ h2;omega
theorem aIt(k:Nat)(l:List UInt8):jE (List.replicate k 0++l)=k+jE l:=by
 induction k with
 |zero=>simp
 |succ k ih=>
  have e:jE (0::(List.replicate k 0++l))=jE (List.replicate k 0++l)+1:=rfl;rw[List.replicate_succ,EO,e,ih];omega
theorem ZF{n k a:Nat}(h:a<256^n):gw (k+n) a=List.replicate k 0++gw n a:=by
 rw[ZE,l8 h]
 congr 1
 induction k with
 |zero=>rfl
 |succ k ih=>rw[w9,ih,List.replicate_succ,Nat.zero_div];rfl
theorem aIu{n a:Nat}(h:a<256^n):JH (gw n a)=cg a:=by
 have hle:=ja (B:=256) d_ h;obtain⟨k,hk⟩:∃ k,n=k+nd 256 a:=⟨n-nd 256 a,by omega⟩;have hz:jE (gw (nd 256 a) a)=0:=by
  by_cases h0:a=0
  ·subst h0;rw[o7];rfl
  ·obtain⟨c,l,e,hc⟩:=Ng h0;unfold cg at e;rw[e];unfold jE;rw[ao hc]
 unfold JH;rw[hk,ZF (dS d_ a),aIt,hz,jn,List.drop_append_of_le_length s_];simp[cg]
theorem ZG{c:UInt8}{l:List UInt8}(h:c≠0):256^l.length<=fP (c::l):=by
 rw[JE];have:1<=c.toNat:=by
  rcases ob c.toNat with e|e
  ·exact absurd (M8.1 (by rw[e];rfl)) h
  ·exact e
 have:=e6 (256^l.length) this;omega
theorem aIv{l:List UInt8}(h:∀ c r,l=c::r->c≠0):cg (fP l)=l:=by
 have hlen:nd 256 (fP l)=l.length:=by
  refine ZH (ja d_ (AX l)) ?_;cases l with
  |nil=>simp
  |cons c r=>
   have h1:=ZG (l:=r) (h c r rfl);rcases eF (nd 256 (fP (c::r))) (r.length+1)with h2|h2
   ·have h3:=dS (B:=256) d_ (fP (c::r));have h4:256^nd 256 (fP (c::r))<=256^r.length:=cZ d_ o_;omega
   ·exact h2
 unfold cg;rw[hlen];clear hlen h;induction l with
 |nil=>rfl
 |cons c r ih=>
  have hv:=AX r;have hp:0<256^r.length:=cG d_;rw[oA,w9,JE]
  congr 1
  ·rw[mI,o9 _ _ hp,l8 hv,jY];have hc:c.toNat<256:=c.toNat_lt;rw[dK hc];simp
  ·rw[<-ZD _ _ _ (bj r.length),mI,CK,dK hv,ih]
theorem aIw(d:Nat):gw 4 d=[UInt8.ofNat (d/16777216%256),UInt8.ofNat (d/65536%256),UInt8.ofNat (d/256%256),UInt8.ofNat (d%256)]:=by rw[w9,w9,w9,w9,Nd];simp
section
variable{P:Program}{B:aa}{N:Nat}
def aY.mkc(fn:Func)(key k cp e size bytes:Nat)(z:Value)(hb:bytes*cp<=281474976710656)(hn:cp<=maxLen)(ho:ML P (av fn key)=some (e,size,bytes,z)):aY P B N:=
 .step key (av fn key) [vI 0,vI cp] [(k,none)] (.slice (some ⟨k,0,some 7⟩) 0 0) [(k,.row [] e size)] (by
  unfold ML at ho;split at ho
  ·rename_i t a b bP;split at ho
   ·rename_i e' ht;split at ho
    ·rename_i i hi;split at ho
     ·rename_i z' nV;injection ho with ho;injection ho with h1 ho;injection ho with h2 ho;injection ho with h3 h4;subst h1;subst h4;have:=X3 (P:=P) (B:=B) bP ht hi nV (kl:=.i64) (kc:=.i64) (l:=0) (cp:=cp) (kT _) (by rw[h3];exact hb) hn (cells:=[]) (by rw[lC,ZI]) s_ n_ k;rw[h2]at this;exact this.step
     ·cases ho
    ·cases ho
   ·cases ho
  ·cases ho)
def aY.pa(fn:Func)(key k j n m nm e size bytes:Nat)(cells:aj)(q:Nat)(x:Obj)(new:aj)(lA:n+m=nm)(hx:x.reads=true)(hlen:x.cells.length=m*size)(iY:cells.length=n*size)(kS:cells++x.cells=new)
  (h1:∀ v∈x.cells,v.oneCell'=true) (bH:0<size) (h63:nm<=maxLen) (hb:nm*bytes<=140737488355328) (ho:EL P (av fn key)=some (e,size,bytes,size,true)):aY P B N:=
 .step key (av fn key) [.slice (some ⟨j,0,some 7⟩) n 0,.slice (some ⟨q,0,some 7⟩) m 0] [(k,none),(j,some (.row cells e size)),(q,some x)] (.slice (some ⟨k,0,some 7⟩) nm 0) [(k,.row new e size),(j,.dead)] (by
  subst lA;have hs:Cb B (.slice (some ⟨q,0,some 7⟩) m 0) m x.cells [(q,some x)]:=by have:=Mb (B:=B) (k:=q) (off:=0) (m:=m) (cc:=0) hx (len:=m*size) (λh=>by rw[h,lC]);rw[l9,ki (vj hlen)]at this;exact this
  have:=Zt (B:=B) ho bH hs hlen h1 (j:=j) (n:=n) (cells:=cells) (vj iY.symm) h63 hb k;rw[ki (vj iY),kS]at this;exact this)
def gF(l:List UInt8):aj:=l.map λc=>.int .u8 (c.toNat:Int)
theorem aIx(l:List UInt8):∀ u∈gF l,flat u=true:=λu hu=>by obtain⟨x,_,rfl⟩:=dj.1 hu;rfl
theorem ZJ(l:List UInt8):∀ acc:List UInt8,(l.map λc=>(c.toNat:Int)).foldl (λ(r:ByteArray) (n:Int)=>r.push (UInt8.ofNat n.toNat)) (BA acc)=BA (acc++l):=by
 induction l with
 |nil=>intro acc;simp
 |cons c l ih=>
  intro acc;rw[rF,uu];have e:(BA acc).push (UInt8.ofNat ((c.toNat:Int)).toNat)=BA (acc++[c]):=by unfold BA;simp[ByteArray.push]
  rw[e,ih,Ep];rfl
def Nh(P:Program)(o:Oper):Bool:=match o.op with
 |.convert src dst _=>match P.underlying src,P.underlying dst with
  |some (.slice e),some .string=>(match P.underlying e with|some (.int .u8)=>true|_=>false)
  |_,_=>false
 |_=>false
def aY.Sv(fn:Func)(key k n:Nat)(l:List UInt8)(x:Obj)(hx:x.reads=true)(hc:x.cells=gF l)(hn:l.length=n)(ho:Nh P (av fn key)=true):aY P B N:=
 .step key (av fn key) [.slice (some ⟨k,0,some 7⟩) n 0] [(k,some x)] (.string (BA l)) [] (by
  unfold Nh at ho;split at ho
  ·rename_i src dst y bP;split at ho
   ·rename_i e hs hd;split at ho
    ·rename_i he;have:=X5 (P:=P) (B:=B) bP hs he hd (k:=k) (off:=0) (n:=n) (cc:=0) (y:=x) (ns:=l.map λc=>(c.toNat:Int)) hx (by rw[hc,l9,ki (by simp[gF,hn])];simp[gF,Function.comp_def]) (by simpa using hn)
     have e2:=ZJ l [];rw[jo]at e2;rw[show ByteArray.empty=BA []from rfl,e2]at this;exact this.step
    ·cases ho
   ·cases ho
  ·cases ho)
end
section
variable{P:Program}{B:aa}{N:Nat}
theorem GV{m:Nat}{x:Obj}(h:∀ u∈x.cells,flat u=true):fN m x:=λu hu=>iI (h u hu)
def GW:List (Option Nat)->Bool
 |[]=>true
 |none::l=>GW l
 |some m::l=>(l.all λo=>match o with|some k=>!Nat.beq m k|none=>true)&&GW l
theorem ZK:∀{σ:List (Option Nat)},GW σ=true->∀ i j m:Nat,σ[i]?=some (some m)->σ[j]?=some (some m)->i=j
 |[],_,i,j,m,h,_=>by simp at h
 |o::l,h,i,j,m,h1,h2=>by
  have hl:GW l=true/\∀ k,o=some k->∀ j:Nat,l[j]?≠some (some k):=by
   cases o with
   |none=>exact⟨h,λk e=>by cases e⟩
   |some q=>
    simp only[GW,da,bh]at h;refine⟨h.2,λk e j hj=>?_⟩;injection e with e;subst e;have:=h.1 _ (cQ hj);simp at this
  cases i with
  |zero=>
   cases j with
   |zero=>rfl
   |succ j=>
    simp at h1 h2;exact absurd h2 (hl.2 m h1 j)
  |succ i=>
   cases j with
   |zero=>
    simp at h1 h2;exact absurd h1 (hl.2 m h2 i)
   |succ j=>
    simp at h1 h2;rw[ZK hl.1 i j m h1 h2]
def ZL(M:aH)(F:aH)(next:Nat)(σ:List (Option Nat)):Bool:=σ.all λo=>match o with
 |some m=>Nat.ble next m||((match ah F m with|none=>true|some _=>false)&&(match ah M m with|none=>false|some _=>true))
 |none=>true
def GX:List (Option Nat)->List Obj->Bool
 |none::σ,x::X=>x.isNil&&GX σ X
 |some _::σ,_::X=>GX σ X
 |_,_=>true
theorem ZM:∀{σ:List (Option Nat)} {X:List Obj},GX σ X=true->∀(i:Nat) (x:Obj),σ[i]?=some none->X[i]?=some x->x.isNil=true
 |[],_,_,i,x,h,_=>by simp at h
 |_::_,[],_,i,x,_,h=>by simp at h
 |o::σ,y::X,h,i,x,h1,h2=>by
  cases i with
  |zero=>
   simp at h1 h2;subst h1;subst h2;simp only[GX,da]at h;exact h.1
  |succ i=>
   simp at h1 h2;refine ZM (σ:=σ) (X:=X) ?_ i x h1 h2;cases o with
   |none=>simp only[GX,da]at h;exact h.2
   |some _=>exact h
def CL(M:aH)(next:Nat)(σ:List (Option Nat))(fr:aW)(F:aH)(X:List Obj):Bool:=
 Nat.beq X.length σ.length&&(GW σ&&(ZL M F next σ&&(GX σ X&&((fr.all λp=>GQ next σ p.2&&!lS (w7 next σ p.2))&&(F.all λp=>Nat.blt p.1 next&&(match ah M p.1 with|none=>false|some _=>true))))))
theorem ZN{M:aH}{next:Nat}{σ:List (Option Nat)}{fr:aW}{F:aH}{X:List Obj}(h:CL M next σ fr F X=true)(hF:∀ p∈F,fN next p.2)(hX:∀ x∈X,fN next x):
  GS M next σ fr F X/\∀ q∈fr,lS (w7 next σ q.2)=false:=by
 simp only[CL,da,bh,AH]at h;obtain⟨h1,h2,h3,h4,h5,h6⟩:=h;refine⟨⟨jZ h1,ZK h2,λi m hi hm=>?_,ZM h4,λp hp=>(h5 p hp).1,λp hp=>?_,hF,hX⟩,λq hq=>(h5 q hq).2⟩
 ·unfold ZL at h3;rw[bh]at h3;have:=h3 _ (cQ hi);simp only[uy,da]at this;rcases this with this|⟨p1,p2⟩
  ·have:=rl this;omega
  ·constructor
   ·cases hf:ah F m with
    |none=>rfl
    |some y=>rw[hf]at p1;cases p1
   ·intro e;rw[e]at p2;cases p2
 ·obtain⟨q1,q2⟩:=h6 p hp;refine⟨Nat.lt_of_succ_le (by simpa[Nat.blt]using q1),λe=>?_⟩;rw[e]at q2;cases q2
theorem rQ{b:Code}{next p:Nat}{r:l5}(n:Nat)(I:Nat->aW)(F:Nat->aH)(X:Nat->List Obj)(A5:List (Option Nat))(hp:∀ i,i<=n->(X i).length=p)
  (CM:∀ i,i<=n->(∀ q∈F i,fN next q.2)/\∀ x∈X i,fN next x) (h0:CL (F 0++dT A5 (X 0)) next A5 (I 0) (F 0) (X 0)=true)
  (hs:((gQ next A5 (I 0)).map λq=>bI (gQ next A5 (I 0)) q.1)=(gQ next A5 (I 0)).map λq=>q.2)
  (body:∀ i,i<n->∃ σ hZ,CL (F 0++dT A5 (X 0)) next σ (I (i+1)) (F (i+1)) (X (i+1))=true/\ag P B N b (I i) (F i++marks next (X i)) (next+p) ⟨.normal,gQ next σ (I (i+1)),F (i+1)++dT σ (X (i+1)),hZ⟩)
  (last:ag P B N b (I n) (F n++marks next (X n)) (next+p) r) (hr:r.ex≠.normal):ag P B N (.loop b) (gQ next A5 (I 0)) (F 0++dT A5 (X 0)) next r:=by
 refine aIp n I F X hp ?_ ?_ last hr
 ·obtain⟨q1,q2⟩:=ZN h0 (CM 0 (kT _)).1 (CM 0 (kT _)).2;exact⟨A5,q1,q2,MJ hs,λ_ _ h=>h⟩
 ·intro i hi;obtain⟨σ,hZ,e1,e2⟩:=body i hi;obtain⟨q1,q2⟩:=ZN e1 (CM (i+1) o_).1 (CM (i+1) o_).2;exact⟨σ,hZ,q1,q2,e2⟩
end
def vb(m:Nat):Value:=.int .u8 (m:Int)
theorem aIy(d:Nat):gF (gw 4 d)=[vb (d/16777216%256),vb (d/65536%256),vb (d/256%256),vb (d%256)]:=by
 have e:∀ m,Value.int .u8 ((UInt8.ofNat (m%256)).toNat:Int)=vb (m%256):=λm=>by rw[Nf,dK (cE _ d_)];rfl
 rw[aIw];simp only[gF,rF,Sw,e]
theorem Ni(l m:List UInt8):gF (l++m)=gF l++gF m:=by simp[gF]
theorem ER(l:List UInt8):(gF l).length=l.length:=by simp[gF]
section
variable{Bs:aa}{n a:Nat}
def GY(n j m:Nat):aW:=[(4,dh j),(0,sl 0 n),(3,sl 2 (4*m))]
def ES(n a:Nat):aH:=[(0,.view (al (ae base n a)))]
def ET(a j m:Nat):List Obj:=[.row (gF (gw (4*m) (a/base^j))) 5 1]
theorem aIz{j m:Nat}(hn:n=m+1+j)(h63:n<35184372088832):
  ag prog Bs 45 (aF (af f176 0)) (GY n (j+1) m) (ES n a++marks 2 (ET a (j+1) m)) 3 ⟨.normal,gQ 2 [some 4] (GY n j (m+1)),ES n a++dT [some 4] (ET a j (m+1)),5⟩:=by
 have hj:j<n:=by omega
 obtain⟨d,hd⟩:∃ d,d=a/base^j%base:=⟨_,rfl⟩;have mK:d<base:=by rw[hd];exact gO d_ a j
 have iS:(al (ae base n a))[j]?=some (aX d):=by rw[hd];exact kC (ek hj)
 have sh:∀ k:Nat,(d:Int).fdiv ((2:Int)^k)=((d/2^k:Nat):Int):=λk=>by rw[rK _ (GZ d_),ti,G1];rfl
 have w8:∀ m:Nat,IntKind.u8.wrap ((m:Nat):Int)=((m%256:Nat):Int):=λm=>by rw[ZO];omega
 have kS:gF (gw (4*m) (a/base^(j+1)))++[vb (d/2^24%256),vb (d/2^16%256),vb (d/2^8%256),vb (d%256)]=gF (gw (4*(m+1)) (a/base^j)):=by
  have e1:a/base^j/256^4=a/base^(j+1):=by rw[show(256:Nat)^4=base by decide,kA,<-dx]
  rw[show 4*(m+1)=4*m+4 by omega,ZE,e1,Ni,<-ZD 4 (a/base^j) 4 (bj _),show a/base^j%256^4=d from hd.symm,aIy]
 exact aA [.rw 12 (dh (j+1)) (vI j) (dX j),.ge 13 j 0 true s_,.rw 18 (dh (j+1)) (vI j) (dX j),.ix f176 19 0 n j hj k_,.ld f176 20 176 0 j (.view (al (ae base n a))) (aX d) rfl (by rw[fG];exact iS) k_,.quo 21 .u32 ((d:Int).fdiv ((2:Int)^24)) ((d/2^24:Nat):Int) (sh 24),.wr 22 .u8 ((d/2^24:Nat):Int) ((d/2^24%256:Nat):Int) (w8 _),.rw 24 (dh (j+1)) (vI j) (dX j),.ix f176 25 0 n j hj k_,.ld f176 26 176 0 j (.view (al (ae base n a))) (aX d) rfl (by rw[fG];exact iS) k_,.quo 27 .u32 ((d:Int).fdiv ((2:Int)^16)) ((d/2^16:Nat):Int) (sh 16),.wr 28 .u8 ((d/2^16:Nat):Int) ((d/2^16%256:Nat):Int) (w8 _),.rw 30 (dh (j+1)) (vI j) (dX j),.ix f176 31 0 n j hj k_,.ld f176 32 176 0 j (.view (al (ae base n a))) (aX d) rfl (by rw[fG];exact iS) k_,.quo 33 .u32 ((d:Int).fdiv ((2:Int)^8)) ((d/2^8:Nat):Int) (sh 8),.wr 34 .u8 ((d/2^8:Nat):Int) ((d/2^8%256:Nat):Int) (w8 _),.rw 36 (dh (j+1)) (vI j) (dX j),.ix f176 37 0 n j hj k_,.ld f176 38 176 0 j (.view (al (ae base n a))) (aX d) rfl (by rw[fG];exact iS) k_,.wr 39 .u8 (d:Int) ((d%256:Nat):Int) (w8 _),.bs f176 40 3 4 5 1 [0,1,2,3] (vb 0) [vb (d/2^24%256),vb (d/2^16%256),vb (d/2^8%256),vb (d%256)] #[vb (d/2^24%256),vb (d/2^16%256),vb (d/2^8%256),vb (d%256)]
   (.row [vb (d/2^24%256),vb (d/2^16%256),vb (d/2^8%256),vb (d%256)] 5 1) rfl (λv hv=>by simp at hv;rcases hv with rfl|rfl|rfl|rfl<;>rfl) (λv hv=>by simp at hv;rcases hv with rfl|rfl|rfl|rfl<;>rfl) k_ rfl o_ o_ k_,
  .pa f176 41 4 2 (4*m) 4 (4*(m+1)) 5 1 1 (gF (gw (4*m) (a/base^(j+1)))) 3 (.row [vb (d/2^24%256),vb (d/2^16%256),vb (d/2^8%256),vb (d%256)] 5 1) (gF (gw (4*(m+1)) (a/base^j)))
   o_ rfl rfl (by rw[ER,JO];omega) kS (λv hv=>by simp[Obj.cells]at hv;rcases hv with rfl|rfl|rfl|rfl<;>rfl) o_ (by simp[maxLen];omega) o_ k_,
  .rw 14 (dh (j+1)) (vI j) (dX j),.wr 15 .i64 ((j:Int)-1) ((j:Int)-1) (oH o_)]
theorem aIA(h63:n<35184372088832):
  ag prog Bs 45 (.block 0 (af f176 0)) (gQ 2 [some 1] (GY n n 0)) (ES n a++dT [some 1] (ET a n 0)) 2 ⟨.normal,GY n 0 n,ES n a++marks 2 (ET a 0 n),3⟩:=by
 have:=rQ (P:=prog) (B:=Bs) (N:=45) (b:=aF (af f176 0)) (next:=2) (p:=1) (r:=⟨.exit 0,GY n 0 n,ES n a++marks 2 (ET a 0 n),3⟩) n (λi=>GY n (n-i) i) (λ_=>ES n a) (λi=>ET a (n-i) i) [some 1] (λ_ _=>rfl)
  (λi _=>⟨λq hq=>by simp[ES]at hq;subst hq;exact GV (fB _),λx hx=>by simp[ET]at hx;subst hx;exact GV (aIx _)⟩) k_ k_
  (λi hi=>⟨[some 4],5,k_,by
   obtain⟨j,hj⟩:∃ j,n=i+1+j:=⟨n-(i+1),by omega⟩;have e1:n-i=j+1:=by omega
   have e2:n-(i+1)=j:=by omega
   simp only[e1,e2];exact aIz hj h63⟩)
  (by simp only[vA];exact aA [.rw 13 (.bool (decide (((0:Nat):Int)-1>=0))) (.bool false) rfl]) n_
 simp only[GB]at this;exact bT (id:=0) this
end
theorem ZP{w:World}{va:Value}{a:Nat}(fY:iw w va a)(h1:nd base a<35184372088832):
  Calls prog 176 #[va] w λe w'=>e=.returned (.string (BA (cg a)))/\Below w.heap.size w w':=by
 have ak:=dS (B:=base) d_ a;have hl:∀ s∈[cA.row va (nd base a) (al (ae base (nd base a) a))],s.OK w:=by intro s hs;simp at hs;subst hs;exact⟨fY,fB _⟩
 unfold iw at fY;generalize nd base a=n at *;have ht:JH (gw (4*n) (a/base^0))=cg a:=by rw[rL,EJ];refine aIu ?_;rw[rM];exact ak
 have tl:=aH7 (gw (4*n) (a/base^0));rw[ht]at tl
 refine lD (Q:=λe w'=>e=.returned (.string (BA (cg a)))/\Below w.heap.size w w') mixed func176 [cA.row va n (al (ae base n a))] hl 100 (N:=45) k_
  (rs:=[(aY.wr 7 .i64 (4*(n:Int)) ((4*n:Nat):Int) (by rw[c8];omega):aY prog (aa.at w) 45),.mkc f176 8 1 (4*n) 5 1 1 (vb 0) o_ (by simp[maxLen];omega) k_,.wr 11 .i64 ((n:Int)-1) ((n:Int)-1) (oH o_),.code 0 _ _ _ _ _ (aIA (n:=n) (a:=a) h1),.Sv f176 43 2 (4*n) (gw (4*n) (a/base^0)) (.row (gF (gw (4*n) (a/base^0))) 5 1) rfl rfl (JO _ _) k_,tl.at 44])
  (v:=.string (BA (cg a))) (ms:=[]) k_ λau bY v' w' hc bo _ _=>⟨by rw[hc.eU rfl],bo.base⟩
section
variable{P:Program}{B:aa}{N:Nat}
def cA.apart(g:Nat):cA->Prop
 |.plain _=>True
 |.row v n _=>∀ b o c',v=.slice (some ⟨b,o,none⟩) n c'->b≠g
theorem Sx{w:World}{g:Nat}:∀(l:List cA) (k:Nat) (ι:Map) (c:Nat->Option Obj),aQ B ι c w->(∀ j x b o cap,c j=some x->x.owns=true->ι j=some (.at b o cap)->b=g)->eG c k->(∀ s∈l,cA.OK w s)->(∀ s∈l,cA.apart g s)->
  ∃ au c',Map.le ι au/\aQ B au c' w/\eG c' (s9 k l)/\cT c' (uA k l)/\(∀ j,j<k->c' j=c j)/\bK (aG au) (rH k l) (l.map cA.real)/\k<=s9 k l
 |[],k,ι,c,hm,ho,hu,_,_=>⟨ι,c,Map.le.refl _,hm,hu,λk x h=>(by cases h),λ_ _=>rfl,.nil,bj _⟩
 |.plain v::l,k,ι,c,hm,ho,hu,hl,aU=>by obtain⟨au,c',h1,h2,h3,h4,h5,h6,h7⟩:=Sx l k ι c hm ho hu (λs hs=>hl s (bF _ hs)) (λs hs=>aU s (bF _ hs));have hv:flat v=true:=hl _ (aV ..);exact⟨au,c',h1,h2,h3,h4,h5,.cons (.same hv) h6,h7⟩
 |.row v n xs::l,k,ι,c,hm,ho,hu,hl,aU=>by
  obtain⟨hv,cN⟩:cK w v n xs/\∀ u∈xs,flat u=true:=hl _ (aV ..);have hap:∀ b o c',v=.slice (some ⟨b,o,none⟩) n c'->b≠g:=aU _ (aV ..);obtain⟨bO,q1,q2,q3⟩:=yD hm (k:=k) (hu k (bj _)) hv cN (λb o c' hb j y o' aT hj hy he=>hap b o c' hb (ho j y b o' aT hj hy he));have xa:∀ j x b o cap,ba c k (.view xs) j=some x->x.owns=true->bO j=some (.at b o cap)->b=g:=by
   intro j x b o cap hj hx hb;unfold ba at hj;by_cases bN:j=k
   ·rw[aw bN]at hj;injection hj with hj;subst hj;cases hx
   ·rw[ao bN]at hj;obtain⟨lo,e1,_⟩:=hm.born j x hj;have:=q1 j lo e1;rw[hb]at this;injection this with this;subst this;exact ho j x b o cap hj hx e1
  have dP:eG (ba c k (.view xs)) (k+1):=λj hj=>by unfold ba;rw[ao o_];exact hu j o_
  obtain⟨au,c',h1,h2,h3,h4,h5,h6,h7⟩:=Sx l (k+1) bO _ q2 xa dP (λs hs=>hl s (bF _ hs)) (λs hs=>aU s (bF _ hs));refine⟨au,c',q1.trans h1,h2,h3,λj x hj=>?_,λj hj=>?_,.cons (q3.mono h1) h6,by show k<=s9 (k+1) l;omega⟩
  ·unfold uA ah at hj;split at hj
   ·rename_i hb;injection hj with hj;subst hj;rw[<-jZ hb,h5 k o_];unfold ba;rw[aw rfl]
   ·exact h4 j x hj
  ·rw[h5 j o_];unfold ba;rw[ao o_]
theorem aIB{f:FuncId}{fn:Func}{w:World}{g cap size:Nat}{cur:Array Value}{ty:TypeId}{cells cells':aj}{off m cc c':Nat}{v:Value}{ms:aH}{Q:Ending->World->Prop}(gn:P.follows .mixedOrders=true)(hf:P.funcs[f]?=some fn)
  (hg:w.heap[g]?=some (.cells cur ty (0,0))) (jy:cap<=maxLen) (bH:cur.size=cap*size) (hc:cur.toList.take cells.length=cells) (cN:∀ v∈cells,flat v=true) (AW:∀ v∈cells',flat v=true) (hn:m<=c') (mC:cc+c'=cap)
  (l:List cA) (hl:∀ s∈l,cA.OK w s) (aU:∀ s∈l,cA.apart g s) (n:Nat) {N:Nat} (hN:N=((.slice (some ⟨0,off,some 7⟩) m cc:Value)::rH 1 l).length+(fn.ntmps-((.slice (some ⟨0,off,some 7⟩) m cc:Value)::rH 1 l).length))
  {rs:bA P (aa.vy w g) N}
  (h:nA (fO (P:=P) fn n (.slice (some ⟨0,off,some 7⟩) m cc::rH 1 l) ((0,.row cells ty size)::uA 1 l) (s9 1 l) rs) ((0,.row cells' ty size)::ms)=nB (fO fn n (.slice (some ⟨0,off,some 7⟩) m cc::rH 1 l) ((0,.row cells ty size)::uA 1 l) (s9 1 l) rs) v ((0,.row cells' ty size)::ms))
  (hQ:∀ au Sy v' w',au 0=some (.at g 0 cap)->aG au v v'->AV g w w'->(∃ fK,w'.heap[g]?=some (.cells fK ty (0,0))/\fK.size=cap*size/\fK.toList.take cells'.length=cells')->aQ (aa.vy w g) au Sy w'->(∀ p∈ms,Sy p.1=some p.2)->Q (.returned v') w') :
  Calls P f (.slice (some ⟨g,off,none⟩) m c'::l.map cA.real).toArray w Q:=by
 have kz:=R7 hg jy bH hc cN;have ZQ:dF (λ_=>none) 0 (.at g 0 cap) 0=some (.at g 0 cap):=fD _ _ _;obtain⟨ι,c,h1,h2,h3,h4,h5,h6,h7⟩:=Sx (g:=g) l 1 _ _ kz (λj x b o cp hj _ hb=>by
   by_cases A6:j=0
   ·subst A6;rw[ZQ]at hb;injection hb with hb;injection hb with hb _ _;exact hb.symm
   ·unfold dF at hb;rw[ao A6]at hb;cases hb) (λk hk=>by unfold ba;rw[ao o_]) hl aU
 have qk:ι 0=some (.at g 0 cap):=h1 0 _ ZQ;have ha:cT c ((0,.row cells ty size)::uA 1 l):=λk x hk=>by
  unfold ah at hk;split at hk
  ·rename_i hb;injection hk with hk;subst hk;rw[<-jZ hb,h5 0 o_];unfold ba;rw[aw rfl]
  ·exact h4 k x hk
 have aIC:aG ι (.slice (some ⟨0,off,some 7⟩) m cc) (.slice (some ⟨g,off,none⟩) m c'):=by have:=aG.slc (off:=off) qk hn mC;rwa[jY]at this
 refine rG gn hf hN n h (.cons aIC h6) h2 ha h3 λau bY v' w' hle jX hm dy=>?_;obtain⟨e1,e2⟩:=R8 hm (hle 0 _ qk) (dy _ (aV ..)) AW;exact hQ au bY v' w' (hle 0 _ qk) jX e1 e2 hm λp hp=>dy p (bF _ hp)
theorem aID{o:Oper}{x:Operand}{f:FuncId}{k k2 off m cc size n2 SA:Nat}{ty:TypeId}{cells cells':aj}{x2:Obj}{val:Value}(ho:dw o.op=some x)(eK:gi P f=true)(hkk:k2≠k)(kz:0<m)
  (cN:∀ v∈cells,flat v=true) (AW:∀ v∈cells',flat v=true) (kE:flat val=true) (gL:x2.reads=true) (aIE:∀ v∈x2.cells,flat v=true) (aIF:n2=0->SA=0)
  (h:∀ w g cap cur c' v2,w.heap[g]?=some (.cells cur ty (0,0))->m<=c'->cc+c'=cap->cap<=maxLen->cur.size=cap*size->cur.toList.take cells.length=cells->cK w v2 n2 (x2.cells.take SA)->(∀ b o c,v2=.slice (some ⟨b,o,none⟩) n2 c->b≠g)->Calls P f #[.slice (some ⟨g,off,none⟩) m c',v2] w λe w'=>e=.returned val/\AV g w w'/\∃ fK,w'.heap[g]?=some (.cells fK ty (0,0))/\fK.size=cap*size/\fK.toList.take cells'.length=cells') :
  cB P B o [.func (.func f) #[] #[],.slice (some ⟨k,off,some 7⟩) m cc,.slice (some ⟨k2,0,some 7⟩) n2 0] [(k,some (.row cells ty size)),(k2,some x2)] val [(k,.row cells' ty size)]:=by
 refine jB (fi:=[]) (ca:=[]) ho eK λι c w hm jQ args' bd=>?_;have hk:c k=some (.row cells ty size):=jQ _ (aV ..);have fE:c k2=some x2:=jQ _ (bF _ (aV ..));obtain⟨v,v2,rfl,hv,iu⟩:=jx bd;have hr:=oD hm fE gL aIE aIF iu;rw[l9]at hr;rcases hv.gV rfl with ⟨_,h0,_⟩|⟨g,oo,cap,c',hb,lq,mC,he⟩
 ·omega
 ·dsimp only at hb he;obtain⟨l,q1,q2⟩:=hm.born k _ hk;rw[hb]at q1;injection q1 with q1;subst q1;rcases q2 with q2|⟨b,aT,cur,e1,lY,dC,fV,iY⟩
  ·cases q2.1
  ·injection e1 with e1 e2 e3;subst e1;subst e2;subst e3;rw[jY]at he;rw[he];have aU:∀ b o c,v2=.slice (some ⟨b,o,none⟩) n2 c->b≠g:=by
    rintro b o c1 rfl rfl
    rcases iu.gV rfl with ⟨_,_,_,_,e⟩|⟨b',o',aT,c2,gp,_,_,e⟩
    ·cases e
    ·injection e with e _ _;injection e with e;injection e with e _ _;subst e;simp only[Obj.reads,uy]at gL;rcases gL with gL|gL
     ·exact hkk (hm.inj k2 k x2 _ _ _ _ _ _ fE gL hk rfl gp hb)
     ·exact(hm.seen k2 x2 _ _ _ fE gL gp).2 k _ _ _ hk rfl hb
   refine(h w g cap cur c' v2 lY lq mC dC fV (nr iY cN) hr aU).mono ?_
   rintro e w' ⟨rfl,pP,fK,p1,p2,p3⟩
   refine⟨ι,val,rfl,Map.le.refl _,.same kE,hm.write hk rfl hb pP.os pP.tape pP.output pP.size (λj hj EG=>pP.block j hj EG) (.inr ⟨g,cap,fK,rfl,p1,dC,p2,?_⟩) n_ rfl⟩;rw[p3];exact ke AW
end
section
variable{B U V n T v1 v2 u2:Nat}
structure mg(B n U V T u2 v1 v2:Nat):Prop where
 hB:2<=B
 hU:U<V*B
 hT:T=U/B^(n+1)
 hu:u2=U/B^n%B
 ky:v1=V/B^(n+1)
 iu:v2=V/B^n%B
 top:B<=2*v1
 CN:v1<B
theorem mg.pow(h:mg B n U V T u2 v1 v2):0<B^n:=cG (by have:=h.hB;omega)
theorem mg.two(h:mg B n U V T u2 v1 v2):U/B^n=T*B+u2/\V/B^n=v1*B+v2:=by rw[h.hT,h.hu,h.ky,h.iu];exact⟨wT U n,wT V n⟩
theorem mg.aIG(h:mg B n U V T u2 v1 v2){q:Nat}(hq:q*v1<=T->False):U/V<q:=by
 have qz:0<V:=by
  rcases ob V with e|e
  ·have:=h.hU;rw[e]at this;omega
  ·exact e
 refine Nat.lt_of_not_le λhle=>hq ?_;have h1:q*V<=U:=(CO qz).1 hle;rw[h.hT,h.ky];have hp:0<B^(n+1):=cG (by have:=h.hB;omega);rw[CO hp];have h2:V/B^(n+1)*B^(n+1)<=V:=CP _ _
 calc q*(V/B^(n+1))*B^(n+1)=q*(V/B^(n+1)*B^(n+1)):=by rw[fF]
  _<=q*V:=jc _ h2
  _<=U:=h1
structure A7(U V T v1 q r:Nat):Prop where
 eq:q*v1+r=T
 le:U/V<=q
theorem mg.start(h:mg B n U V T u2 v1 v2):A7 U V T v1 (T/v1) (T%v1):=by
 refine⟨by rw[cP];exact jb T v1,?_⟩;have hv:0<v1:=by have:=h.top;have:=h.hB;omega
 have:=h.aIG (q:=T/v1+1) λhle=>by have:=(CO hv).2 hle;omega
 omega
theorem mg.small(h:mg B n U V T u2 v1 v2):U/V<B:=by
 have qz:0<V:=by
  rcases ob V with e|e
  ·have:=h.hU;rw[e]at this;omega
  ·exact e
 exact(iv qz).2 (by rw[cP];exact h.hU)
theorem mg.aIH(h:mg B n U V T u2 v1 v2){q r:Nat}(g:A7 U V T v1 q r)(hc:B<=q\/r*B+u2<q*v2):U/V<q:=by
 rcases hc with hc|hc
 ·exact cv h.small hc
 ·have qz:0<V:=by
   rcases ob V with e|e
   ·have:=h.hU;rw[e]at this;omega
   ·exact e
  rw[iv qz];obtain⟨e1,e2⟩:=h.two;have hp:=h.pow;have h1:U/B^n<q*(V/B^n):=by rw[e1,e2,<-g.eq,oF,fA,<-fF];omega
  have h2:U<q*(V/B^n)*B^n:=(iv hp).1 h1;rw[fF]at h2;exact cv h2 (jc _ (CP _ _))
theorem mg.less(h:mg B n U V T u2 v1 v2){q r:Nat}(g:A7 U V T v1 q r)(hc:B<=q\/r*B+u2<q*v2):0<q/\A7 U V T v1 (q-1) (r+v1):=by have ak:=h.aIH g hc;obtain⟨p,rfl⟩:∃ p,q=p+1:=⟨q-1,(Nat.sub_add_cancel (Nat.one_le_of_lt ak)).symm⟩;refine⟨by omega,?_,Nat.le_of_lt_succ ak⟩;have:=g.eq;rw[fA,pO]at this;rw[Nj];omega
theorem mg.fin(h:mg B n U V T u2 v1 v2){q r:Nat}(g:A7 U V T v1 q r)(hc:(q<B/\q*v2<=r*B+u2)\/B<=r):q<B/\q*V<U+V:=by
 obtain⟨e1,e2⟩:=h.two;have hp:=h.pow;have gY:B^(n+1)=B^n*B:=dx ..;have hVd:=jb V (B^n);have hVm:=cE V hp;rcases hc with ⟨hq,hc⟩|hr
 ·refine⟨hq,?_⟩;have h1:q*(V/B^n)<=U/B^n:=by rw[e1,e2,<-g.eq,oF,fA,<-fF];omega
  have h2:q*(V/B^n)*B^n<=U:=(CO hp).1 h1;have h3:q*V=q*(V/B^n)*B^n+q*(V%B^n):=by rw[fF,<-oF,cP (V/B^n),hVd]
  have h4:q*(V%B^n)<V:=by
   have h5:q*(V%B^n)<=(B-1)*B^n:=wY o_ (iR hVm);have h6:v1*B^(n+1)<=V:=by rw[h.ky];exact CP _ _
   have h7:1*B^(n+1)<=v1*B^(n+1):=e6 _ (by have:=h.top;have:=h.hB;omega);have h8:(B-1)*B^n<B^(n+1):=by rw[gY,cP (B^n)];exact A8 (by have:=h.hB;omega) hp
   omega
  omega
 ·have xb:V<(v1+1)*B^(n+1):=by rw[h.ky];have jd:0<B^(n+1):=cG (by have:=h.hB;omega);exact(iv jd).1 (A9 _)
  have jd:0<B^(n+1):=cG (by have:=h.hB;omega);have hTU:T*B^(n+1)<=U:=by rw[h.hT];exact CP _ _
  have ZR:T<(v1+1)*B:=by rw[h.hT,iv jd];refine cv h.hU ?_;rw[fF,cP B,<-fF];exact e6 _ (iR xb)
  have hqB:q<B:=by
   have h1:q*v1<B*v1:=by have:=g.eq;rw[fA,pO,cP v1]at ZR;omega
   exact aII h1
  refine⟨hqB,?_⟩;have h2:q*V<=q*((v1+1)*B^(n+1)):=jc _ (iR xb);have h3:q*((v1+1)*B^(n+1))<=T*B^(n+1):=by rw[<-fF];refine e6 _ ?_;have:=g.eq;rw[oF,fX];omega
  have qz:0<V:=by
   rcases ob V with e|e
   ·have:=h.hU;rw[e]at this;omega
   ·exact e
  omega
theorem mg.aIJ(h:mg B n U V T u2 v1 v2)(r:Nat):B<=r+v1+v1:=by have:=h.top;omega
theorem mg.aIK(h:mg B n U V T u2 v1 v2){q r:Nat}(g:A7 U V T v1 q r):q<=B*2+1:=by
 have jd:0<B^(n+1):=cG (by have:=h.hB;omega);have xb:V<(v1+1)*B^(n+1):=by rw[h.ky];exact(iv jd).1 (A9 _)
 have ZR:T<(v1+1)*B:=by rw[h.hT,iv jd];refine cv h.hU ?_;rw[fF,cP B,<-fF];exact e6 _ (iR xb)
 have hv:0<v1:=by have:=h.top;have:=h.hB;omega
 have h1:q*v1<(B*2)*v1:=by
  have:=g.eq;have h2:(v1+1)*B<=(B*2)*v1:=by
   rw[fA,pO,fF,cP v1];have:B*1<=B*v1:=jc _ hv;have e:B*(2*v1)=B*v1+B*v1:=by rw[Nat.two_mul,oF]
   omega
  omega
 have:=aII h1;omega
def oc(B q V i:Nat):Nat:=q*(V%B^i)/B^i
theorem aIL{q:Nat}:oc B q V 0=0:=by simp[oc,tf]
theorem ZS(hB:0<B)(q V i:Nat):oc B q V i+q*(V/B^i%B)=q*(V%B^(i+1))/B^i:=by have hp:0<B^i:=cG hB;rw[o8,oF,<-fF,o9 _ _ hp];rfl
theorem aIM(hB:0<B)(q V i:Nat):(oc B q V i+q*(V/B^i%B))/B=oc B q V (i+1):=by rw[ZS hB,kA,<-dx];rfl
theorem ZT(hB:0<B)(q V i:Nat):(oc B q V i+q*(V/B^i%B))%B=q*V/B^i%B:=by
 have hp:0<B^i:=cG hB;rw[ZS hB];have e:q*V=q*(V%B^(i+1))+(q*(V/B^(i+1))*B)*B^i:=by
  have h1:=jb V (B^(i+1));have h2:q*(V/B^(i+1))*B*B^i=q*(B^(i+1)*(V/B^(i+1))):=by rw[dx];simp only[cP,mJ,fF]
  rw[h2,<-oF,mI,h1]
 rw[e,o9 _ _ hp,CK]
theorem ZU(hB:0<B){q:Nat}(hq:q<B)(V i:Nat):oc B q V i<B:=by have hp:0<B^i:=cG hB;unfold oc;rw[iv hp];have h1:q*(V%B^i)<=q*B^i:=jc _ (iR (cE _ hp));exact eL h1 (A8 hq hp)
end
section
variable{B:Nat}
def fZ(B j R D:Nat):Nat:=R%B^j+D*B^j
theorem xc(hB:0<B)(j R D i:Nat):fZ B j R D/B^(j+i)%B=D/B^i%B:=by have hp:0<B^j:=cG hB;unfold fZ;rw[ev,<-kA,o9 _ _ hp,l8 (cE _ hp),jY]
theorem SB(hB:0<B){j t:Nat}(ht:t<j)(R D:Nat):fZ B j R D/B^t%B=R/B^t%B:=by
 unfold fZ;obtain⟨s,rfl⟩:∃ s,j=t+1+s:=⟨j-(t+1),by omega⟩;have hp:0<B^t:=cG hB;have e1:R%B^(t+1+s)/B^t%B=R/B^t%B:=by
  have e:B^(t+1+s)=B^t*(B*B^s):=by rw[ev,dx,fF]
  rw[e,AY,JF]
 have e2:D*B^(t+1+s)=(D*B^s*B)*B^t:=by rw[ev,dx];simp only[cP,mJ,fF]
 rw[e2,o9 _ _ hp,CK,e1]
theorem G2(hB:0<B){j m D:Nat}(R:Nat)(h:D<B^m):fZ B j R D<B^(j+m):=by have hp:0<B^j:=cG hB;unfold fZ;have h1:=cE R hp;have h2:(D+1)*B^j<=B^m*B^j:=e6 _ h;rw[fA,pO]at h2;rw[ev,cP (B^j)];omega
theorem ZV(hB:0<B)(j R D E:Nat):fZ B j (fZ B j R D) E=fZ B j R E:=by unfold fZ;rw[CK,Nat.mod_mod]
theorem aIN(j R:Nat):fZ B j R (R/B^j)=R:=by unfold fZ;rw[cP,mI];exact jb R (B^j)
theorem G3(j R i:Nat):R/B^(j+i)%B=R/B^j/B^i%B:=by rw[ev,kA]
theorem Nk(hB:0<B)(L j R D:Nat):c7 B L j (fZ B j R D) R=ae B L R:=by
 unfold c7 ae;refine yA λt _=>?_;by_cases h:t<j
 ·rw[aw h,SB hB h]
 ·rw[ao h]
theorem EU(hB:0<B){L m R S:Nat}(hR:R<B^m)(hS:S<B^m):c7 B L m S R=ae B L S:=by
 unfold c7 ae;refine yA λt _=>?_;by_cases h:t<m
 ·rw[aw h]
 ·rw[ao h,qy hR o_ hB,qy hS o_ hB]
def fQ(B m U V q:Nat):Nat:=(U+B^(m+1)-q*V)%B^(m+1)
section
variable{m U V q:Nat}
theorem SC(hB:0<B):fQ B m U V q<B^(m+1):=cE _ (cG hB)
theorem ZW(hB:0<B){a i k:Nat}(h:i<k):a%B^k/B^i%B=a/B^i%B:=by have:=SB hB h a 0;unfold fZ at this;rw[lC,jn]at this;exact this
theorem aIO(hB:0<B){a i k:Nat}(h:i<k):(a+B^k)/B^i%B=a/B^i%B:=by
 have e:B^k=B^(k-i-1)*B*B^i:=by rw[<-dx,<-ev];congr 1;omega
 rw[e,o9 _ _ (cG hB),CK]
theorem aIP{a i k:Nat}(h:i<=k):(a+B^k)%B^i=a%B^i:=by
 have e:B^k=B^i*B^(k-i):=by rw[<-ev];congr 1;omega
 rw[e,ED]
def oI(B U V q i:Nat):Nat:=kB B U (q*V) i
theorem aIQ{a b i k:Nat}(h:i<=k):kB B (a+B^k) b i=kB B a b i:=by unfold kB;rw[aIP h]
theorem aIR(hB:0<B)(hq:q*V<=U+B^(m+1)){i:Nat}(hi:i<=m):
  (U/B^i%B+2*B-(oc B q V i+q*(V/B^i%B))%B-oI B U V q i)%B=fQ B m U V q/B^i%B:=by
 unfold fQ oI;rw[ZW hB o_,ZT hB,<-aIO hB (show i<m+1 by omega),<-aIQ (show i<=m+1 by omega)];exact R4 hB hq i
theorem aIS(hB:0<B)(i:Nat):(if U/B^i%B<(oc B q V i+q*(V/B^i%B))%B+oI B U V q i then 1 else 0)=oI B U V q (i+1):=by unfold oI;rw[ZT hB];exact R3 hB _ _ _
theorem aIT(hB:0<B)(hq:q<B)(hV:V<B^m):q*V<B^(m+1):=by rw[dx,cP (B^m)];exact eL (e6 _ (iR hq)) (Y3 hV hB)
theorem aIU(hB:0<B)(hq:q<B)(hV:V<B^m)(hU:U<V*B):oI B U V q (m+1)=if U<q*V then 1 else 0:=by
 have CQ:U<B^(m+1):=by rw[dx];exact cv hU (e6 _ (iR hV))
 unfold oI kB;rw[dK CQ,dK (aIT hB hq hV)]
theorem ZX(hB:0<B)(hV:V<B^m)(hU:U<V*B)(hle:U/V<=q)(h:¬U<q*V):q=U/V/\fQ B m U V q=U%V:=by
 have CQ:U<B^(m+1):=by rw[dx];exact cv hU (e6 _ (iR hV))
 have qz:0<V:=by
  rcases ob V with e|e
  ·rw[e]at hU;omega
  ·exact e
 have e:q=U/V:=by have:=(CO qz).2 (JP.1 h);omega
 refine⟨e,?_⟩;unfold fQ;have h1:=jb U V;rw[cP]at h1;rw[<-e]at h1;have h2:U+B^(m+1)-q*V=U%V+B^(m+1):=by omega
 rw[h2,JQ,dK (eL (Jx _ _) CQ)]
theorem ZY(hB:0<B)(hV:V<B^m)(hU:U<V*B)(hb:q*V<U+V)(h:U<q*V):q=U/V+1/\(fQ B m U V q+V)%B^(m+1)=U%V:=by
 have CQ:U<B^(m+1):=by rw[dx];exact cv hU (e6 _ (iR hV))
 have qz:0<V:=by
  rcases ob V with e|e
  ·rw[e]at hU;omega
  ·exact e
 have mL:0<q:=by
  rcases ob q with e|e
  ·rw[e,lC]at h;omega
  ·exact e
 obtain⟨p,rfl⟩:∃ p,q=p+1:=⟨q-1,by omega⟩;rw[fA,pO]at h hb;have e:p=U/V:=by have h1:p<=U/V:=(CO qz).2 o_;have h2:U/V<p+1:=(iv qz).2 (by rw[fA,pO];exact h);omega
 refine⟨by rw[e],?_⟩;unfold fQ;have h1:=jb U V;rw[cP,<-e]at h1;rw[Nat.mod_add_mod,fA,pO];have hpV:p*V<=U:=by omega
 have SD:V<=B^(m+1):=de (iR hV) (cZ hB o_);have h2:U+B^(m+1)-(p*V+V)+V=U%V+B^(m+1):=by omega
 rw[h2,JQ,dK (eL (Jx _ _) CQ)]
theorem SE(hB:0<B){D:Nat}{i:Nat}(hi:i<=m):(D/B^i%B+V/B^i%B+eM B D V i)%B=(D+V)%B^(m+1)/B^i%B:=by rw[ZW hB o_];exact GH hB D V i
end
theorem ZZ(hB:0<B)(A V j:Nat):fZ B j (A%(V*B^(j+1))) (A%(V*B^(j+1))/B^j%V)=A%(V*B^j):=by
 have hp:0<B^j:=cG hB;have h1:A%(V*B^j)=A%(V*B^(j+1))%(B^j*V):=by rw[cP (B^j),dx,<-fF,JF]
 rw[h1];generalize A%(V*B^(j+1))=R;rw[MO];unfold fZ;rw[cP (B^j) (_%V)]
theorem Z0(A V j:Nat):A%(V*B^(j+1))/B^j/V=A/V/B^j%B:=by rw[kA,dx,<-fF,cP (B^j) V,AY,kA]
theorem Z1{V:Nat}(hB:0<B)(hV:0<V)(A j:Nat):A%(V*B^(j+1))/B^j<V*B:=by have hp:0<B^j:=cG hB;rw[iv hp,fF,cP B,<-dx];exact cE _ (qA hV (cG hB))
theorem Z2{B k X i:Nat}(hB:0<B)(hk:∃ c,B=2^k*c):((X/B^(i+1)%B*B+X/B^i%B)/2^k)%B=X/2^k/B^i%B:=by
 obtain⟨c,hc⟩:=hk;have h2:0<2^k:=cG d_;have e1:X/B^i=X/B^(i+1)*B+X/B^i%B:=wT X i;have e2:X/B^(i+1)=X/B^(i+1)/B*B+X/B^(i+1)%B:=by rw[cP];exact(jb _ _).symm
 have e3:X/2^k/B^i=X/B^i/2^k:=by rw[kA,kA,cP]
 rw[e3];generalize X/B^i%B=x0 at *;generalize X/B^i=Y at *;generalize X/B^(i+1)%B=x1 at *;generalize X/B^(i+1)/B=H at *;generalize X/B^(i+1)=Z at *;subst e1;subst e2;have e4:(H*B+x1)*B+x0=(x1*B+x0)+H*B*c*2^k:=by
  rw[fA];have:H*B*c*2^k=H*B*B:=by rw[fF (H*B),cP c,<-hc]
  omega
 have e5:H*B*c=H*c*B:=by rw[fF,cP B c,<-fF]
 rw[e4,o9 _ _ h2,e5,CK]
end
section
variable{Bs:aa}{N:Nat}
def pR(x:Obj)(a:Nat):Prop:=x.reads=true/\∃ M,nd base a<=M/\x.cells=al (ae base M a)
theorem Ba{ι:Map}{c:Nat->Option Obj}{w:World}(hm:aQ Bs ι c w){k a:Nat}{x:Obj}{v:Value}(hk:c k=some x)(hx:pR x a)(hv:aG ι (sl k (nd base a)) v):iw w v a:=by
 obtain⟨h1,M,h2,h3⟩:=hx;have:=oD (len:=nd base a) hm hk h1 (by rw[h3];exact fB _) (λh=>h) hv;rw[h3,l9]at this;have e:(al (ae base M a)).take (nd base a)=al (ae base (nd base a) a):=by unfold al;rw[<-Co,Ju h2]
 rw[e]at this;exact this
def oJ(a:Nat):Obj:=.row (al (ae base (nd base a) a)) 176 1
theorem nF(a:Nat):pR (oJ a) a:=⟨rfl,_,bj _,rfl⟩
theorem xd(a:Nat):pR (.view (al (ae base (nd base a) a))) a:=⟨rfl,_,bj _,rfl⟩
theorem Nl{o:Oper}{y:Operand}{f:FuncId}{args:aj}{c:Nat}(ho:dw o.op=some y)(eK:gi prog f=true)(df:∀ v∈args,flat v=true)
  (h:∀ w,Calls prog f args.toArray w λe w'=>∃ v,e=.returned v/\jD w w' v c/\Below w.heap.size w w') (k:Nat) :
  cB prog Bs o (.func (.func f) #[] #[]::args) [(k,none)] (sl k (nd base c)) [(k,oJ c)]:=by
 refine jB (fi:=[]) (ca:=[]) ho eK λι cc w hm hn args' bd=>?_;rw[jo,je]at bd;rw[nr bd df];refine(h w).mono ?_
 rintro e w' ⟨v,rfl,h1,h2⟩
 obtain⟨au,q1,q2,q3⟩:=Ez hm h2 (k:=k) (hn _ (aV ..)) h1 (fB _);exact⟨au,v,rfl,q1,q3,q2⟩
theorem SF{o:Oper}{y:Operand}{f:FuncId}{k1 k2 a b c:Nat}{x1 x2:Obj}(ho:dw o.op=some y)(eK:gi prog f=true)(hx:pR x1 a)(gL:pR x2 b)
  (h:∀ w va vb,iw w va a->iw w vb b->Calls prog f #[va,vb] w λe w'=>∃ v,e=.returned v/\jD w w' v c/\Below w.heap.size w w') (k:Nat) :
  cB prog Bs o [.func (.func f) #[] #[],sl k1 (nd base a),sl k2 (nd base b)] [(k1,some x1),(k2,some x2),(k,none)] (sl k (nd base c)) [(k,oJ c)]:=by
 refine jB (fi:=[]) (ca:=[]) ho eK λι cc w hm hn args' bd=>?_;rw[jo,je]at bd;obtain⟨va,vb,rfl,hv,iu⟩:=jx bd;refine(h w va vb (Ba hm (hn (k1,some x1) s_) hx hv) (Ba hm (hn (k2,some x2) s_) gL iu)).mono ?_
 rintro e w' ⟨v,rfl,h1,h2⟩
 obtain⟨au,q1,q2,q3⟩:=Ez hm h2 (k:=k) (hn (k,none) s_) h1 (fB _);exact⟨au,v,rfl,q1,q3,q2⟩
theorem G4{o:Oper}{y:Operand}{f:FuncId}{post:aj}{k1 a:Nat}{x1:Obj}{res:Value}(ho:dw o.op=some y)(eK:gi prog f=true)(hx:pR x1 a)(R9:∀ v∈post,flat v=true)(AJ:flat res=true)
  (h:∀ w va,iw w va a->Calls prog f (va::post).toArray w λe w'=>e=.returned res/\Below w.heap.size w w') :
  cB prog Bs o (.func (.func f) #[] #[]::sl k1 (nd base a)::post) [(k1,some x1)] res []:=by
 refine jB (fi:=[]) (ca:=[]) ho eK λι cc w hm hn args' bd=>?_;rw[jo,je]at bd;cases bd with
 |cons hv hp=>
 rw[nr hp R9];refine(h w _ (Ba hm (hn _ (aV ..)) hx hv)).mono ?_
 rintro e w' ⟨rfl,h2⟩
 exact⟨ι,res,rfl,Map.le.refl _,.same AJ,hm.call h2⟩
theorem Nn{o:Oper}{y:Operand}{f:FuncId}{k1 k2 a b:Nat}{x1 x2:Obj}{res:Value}(ho:dw o.op=some y)(eK:gi prog f=true)(hx:pR x1 a)(gL:pR x2 b)(AJ:flat res=true)
  (h:∀ w va vb,iw w va a->iw w vb b->Calls prog f #[va,vb] w λe w'=>e=.returned res/\Below w.heap.size w w') :
  cB prog Bs o [.func (.func f) #[] #[],sl k1 (nd base a),sl k2 (nd base b)] [(k1,some x1),(k2,some x2)] res []:=by
 refine jB (fi:=[]) (ca:=[]) ho eK λι cc w hm hn args' bd=>?_;rw[jo,je]at bd;obtain⟨va,vb,rfl,hv,iu⟩:=jx bd;refine(h w va vb (Ba hm (hn (k1,some x1) s_) hx hv) (Ba hm (hn (k2,some x2) s_) gL iu)).mono ?_
 rintro e w' ⟨rfl,h2⟩
 exact⟨ι,res,rfl,Map.le.refl _,.same AJ,hm.call h2⟩
end
def pb(a:Nat):Value:=.string (BA (cg a))
def EV(neg:Bool)(a:Nat):Value:=.agg #[.bool (neg&&decide (a≠0)),pb a]
theorem qB(a:Nat):((BA (cg a)).toList==(ByteArray.mk #[]).toList)=decide (a=0):=by rw[EH,rI];exact aIr
theorem Z3{w:World}{va:Value}{a:Nat}{neg:Bool}(fY:iw w va a)(h1:nd base a<35184372088832):
  Calls prog 149 #[va,.bool neg] w λe w'=>e=.returned (EV neg a)/\Below w.heap.size w w':=by
 have hl:∀ s∈[cA.row va (nd base a) (al (ae base (nd base a) a)),.plain (.bool neg)],s.OK w:=by
  intro s hs;simp at hs;rcases hs with rfl|rfl
  ·exact⟨fY,fB _⟩
  ·exact rfl
 cases neg with
 |false=>
  exact lD (Q:=λe w'=>e=.returned (EV false a)/\Below w.heap.size w w') mixed func149 [cA.row va (nd base a) (al (ae base (nd base a) a)),.plain (.bool false)] hl 100 (N:=15) k_
   (rs:=[(.step 7 (av f149 7) _ _ _ _ (G4 (y:=.func 176) (k1:=0) (post:=[]) k_ k_ (xd a) n_ rfl λw va h=>ZP h h1):aY prog (aa.at w) 15)])
   (v:=.agg #[.bool false,pb a]) (ms:=[]) k_ λau bY v' w' hc bo _ _=>⟨by rw[hc.eU rfl];rfl,bo.base⟩
 |true=>
  have e:(!((BA (cg a)).toList==(ByteArray.mk #[]).toList))=decide (a≠0):=by rw[qB];simp
  exact lD (Q:=λe w'=>e=.returned (EV true a)/\Below w.heap.size w w') mixed func149 [cA.row va (nd base a) (al (ae base (nd base a) a)),.plain (.bool true)] hl 100 (N:=15) k_
   (rs:=[(.step 7 (av f149 7) _ _ _ _ (G4 (y:=.func 176) (k1:=0) (post:=[]) k_ k_ (xd a) n_ rfl λw va h=>ZP h h1):aY prog (aa.at w) 15),.rw 11 (.bool (!((BA (cg a)).toList==(ByteArray.mk #[]).toList))) (.bool (decide (a≠0))) (by rw[e])])
   (v:=.agg #[.bool (decide (a≠0)),pb a]) (ms:=[]) k_ λau bY v' w' hc bo _ _=>⟨by rw[hc.eU rfl];simp[EV],bo.base⟩
section
variable{Bs:aa}{n a k:Nat}
theorem aIV{B L X Y i d e:Nat}(h:i+1<L)(h0:d=Y/B^i%B)(h1:e=Y/B^(i+1)%B)(ho:∀ t,t≠i->t≠i+1->X/B^t%B=Y/B^t%B):((ae B L X).set i d).set (i+1) e=ae B L Y:=by
 refine SG λt=>?_;rw[List.getElem?_set,List.getElem?_set];by_cases ht:t<L
 ·rw[ek ht,ek ht];by_cases h2:i+1=t
  ·subst h2;rw[aw rfl,aw (by simp[oE];omega),h1]
  ·rw[ao h2];by_cases h3:i=t
   ·subst h3;rw[aw rfl,aw (by rw[oE];omega),h0]
   ·rw[ao h3,ho t (λe=>h3 e.symm) (λe=>h2 e.symm)]
 ·have e1:(ae B L X)[t]?=none:=Ay (by rw[oE];omega);have e2:(ae B L Y)[t]?=none:=Ay (by rw[oE];omega);rw[e1,e2,ao o_,ao o_]
theorem aIW{x c k:Nat}(hk:k<=31)(hx:x<base)(hc:c<2^k):(c||| (x*2^k%base))=(c+x*2^k)%base/\(c+x*2^k)/base=x*2^k/base/\x*2^k/base<2^k:=by
 obtain⟨m,hm⟩:∃ m,base=m*2^k:=⟨2^(32-k),by rw[<-ev,show 32-k+k=32 by omega]⟩;have hp:0<2^k:=cG d_;have pc:0<m:=by
  rcases ob m with e|e
  ·rw[e,lC]at hm;exact absurd hm d_
  ·exact e
 have e1:x*2^k%base=x%m*2^k:=by rw[hm,Z4]
 have e2:x*2^k/base=x/m:=by rw[hm,Z5 _ _ hp]
 have e3:(c+x*2^k)/base=x/m:=by rw[hm,cP m,<-kA,o9 _ _ hp,l8 hc,jY]
 have e4:(c+x*2^k)%base=c+x%m*2^k:=by
  have h1:=jb (c+x*2^k) base;rw[e3]at h1;have h2:=jb x m;have h3:x*2^k=base*(x/m)+x%m*2^k:=by
   rw[hm]
   conv=>lhs;rw[<-h2]
   rw[fA,Bb]
  generalize base*(x/m)=z at h1 h3;omega
 refine⟨?_,e3.trans e2.symm,?_⟩
 ·have:=M6 (i:=k) hc (x%m);rw[e1,e4,Nat.or_comm,cP,<-this];omega
 ·rw[e2,iv pc,cP,<-hm];exact hx
theorem aIX{i:Nat}(hk:k<=31):(a%base^i*2^k)/base^i%base=(a%base^i*2^k)/base^i/\(a%base^i*2^k)/base^i<2^k:=by
 have hp:0<base^i:=cG d_;have h1:(a%base^i*2^k)/base^i<2^k:=by rw[iv hp,cP];exact Y3 (cE _ hp) (cG d_)
 refine⟨dK (cv h1 ?_),h1⟩;exact de (cZ d_ hk) d_
theorem aIY{i:Nat}:(a%base^(i+1)*2^k)/base^i=(a%base^i*2^k)/base^i+a/base^i%base*2^k:=by have hp:0<base^i:=cG d_;rw[o8,fA,Bb,o9 _ _ hp]
def rR(n a k i:Nat):aW:=[(14,vI i),(13,vI n),(12,sl 0 n),(5,sl 1 (n+1)),(1,vI k)]
def oK(n a k i:Nat):aH:=[(0,.view (al (ae base n a))),(1,.row (al (ae base (n+1) (a%base^i*2^k))) 176 1)]
theorem SH{i:Nat}(hi:i<n)(hk:k<=31)(h63:n<35184372088832):
  ag prog Bs 40 (aF (af f204 0)) (rR n a k i) (oK n a k i) 2 ⟨.normal,rR n a k (i+1),oK n a k (i+1),2⟩:=by
 have hx:=gO (B:=base) d_ a i;obtain⟨s1,s2⟩:=aIX (a:=a) (k:=k) (i:=i) hk;have s3:=aIY (a:=a) (k:=k) (i:=i);have iS:(al (ae base (n+1) (a%base^i*2^k)))[i]?=some (aX ((a%base^i*2^k)/base^i)):=by rw[<-s1];exact kC (ek o_)
 have jm:∀ d e,d=(a%base^(i+1)*2^k)/base^i%base->e=(a%base^(i+1)*2^k)/base^(i+1)%base->((ae base (n+1) (a%base^i*2^k)).set i d).set (i+1) e=ae base (n+1) (a%base^(i+1)*2^k):=by
  intro d e hd he;refine aIV o_ hd he λt h1 h2=>?_;rcases eF t i with h|h
  ·have e1:a%base^(i+1)*2^k=fZ base i (a%base^i*2^k) ((a%base^i*2^k)/base^i+a/base^i%base*2^k):=by unfold fZ;rw[o8,fA,fA,<-uk,Nat.mod_add_div',Bb]
   rw[e1,SB d_ h]
  ·have hp:0<base^i:=cG d_;have b1:a%base^i*2^k<base^(i+1):=by rw[dx];exact Z6 (cE _ hp) (de (cZ d_ hk) d_) d_
   have b2:a%base^(i+1)*2^k<base^(i+2):=by rw[dx _ (i+1)];exact Z6 (cE _ (cG d_)) (de (cZ d_ hk) d_) d_
   rw[qy b1 o_ d_,qy b2 o_ d_]
 generalize hc:(a%base^i*2^k)/base^i=c at *;generalize G6:a/base^i%base=x at *;obtain⟨t1,t2,t3⟩:=aIW hk hx s2;have hd:(c||| x*2^k%base)=(a%base^(i+1)*2^k)/base^i%base:=by rw[s3,t1]
 have he:x*2^k/base=(a%base^(i+1)*2^k)/base^(i+1)%base:=by
  have e5:∀ Z:Nat,Z/base^(i+1)=Z/base^i/base:=λZ=>by rw[dx,kA]
  rw[e5,s3,t2];exact(dK (cv t3 (de (cZ d_ hk) d_))).symm
 have jm:=jm _ _ hd he;have h64:x*2^k<18446744073709551616:=by have h1:x*2^k<=(base-1)*2^31:=wY o_ (cZ d_ hk);exact eL h1 d_
 have w25:IntKind.u32.wrap ((x:Int)*2^(min k IntKind.u32.bits))=((x*2^k%base:Nat):Int):=by
  have e:(x:Int)*2^k=((x*2^k:Nat):Int):=by simp
  rw[show min k IntKind.u32.bits=k from nX (by show k<=32;omega),nC,e];unfold base;omega
 have w34:IntKind.u64.wrap ((x:Int)*2^(min k IntKind.u64.bits))=((x*2^k:Nat):Int):=by
  have e:(x:Int)*2^k=((x*2^k:Nat):Int):=by simp
  rw[show min k IntKind.u64.bits=k from nX (by show k<=64;omega),jP,e];omega
 have q1:x*2^k%base<base:=cE _ d_;have q2:c<base:=cv s2 (de (cZ d_ hk) d_);have q3:x*2^k/base<base:=cv t3 (de (cZ d_ hk) d_);have JR:eW prog 176 (al (ae base (n+1) (a%base^i*2^k))) i (aX (c||| x*2^k%base))=some (al ((ae base (n+1) (a%base^i*2^k)).set i (c||| x*2^k%base))):=by rw[yK _ _ _ (by simp[al,oE];omega),yL]
 have SI:eW prog 176 (al ((ae base (n+1) (a%base^i*2^k)).set i (c||| x*2^k%base))) (i+1) (aX (x*2^k/base))=some (al (ae base (n+1) (a%base^(i+1)*2^k))):=by rw[yK _ _ _ (by simp[al,oE];omega),yL,jm]
 generalize x*2^k=y at *;generalize kW:(c||| y%base)=d at *;exact aA [.lt 15 i n true (by simp[hi]),.ix f204 17 0 n i hi k_,.ld f204 18 176 0 i (.view (al (ae base n a))) (aX x) rfl (by rw[fG,<-G6];exact kC (ek hi)) k_,.ix f204 21 1 (n+1) i o_ k_,.ld f204 22 176 1 i (.row (al (ae base (n+1) (a%base^i*2^k))) 176 1) (aX c) rfl (by rw[fG];exact iS) k_,.shl f204 25 .u32 (x:Int) ((y%base:Nat):Int) k w25 k_,.quo 26 .u32 _ ((d:Nat):Int) ((R6 q2 q1).trans (by rw[kW])),.ix f204 27 1 (n+1) i o_ k_,.st f204 100027 176 1 i (.row (al (ae base (n+1) (a%base^i*2^k))) 176 1) (aX d) (.row (al ((ae base (n+1) (a%base^i*2^k)).set i d)) 176 1) rfl JR rfl k_,.sum 30 i 1 (i+1) rfl o_,.wr 32 .u64 (x:Int) (x:Int) (by rw[jP];unfold base at hx;omega),.shl f204 34 .u64 (x:Int) (y:Int) k w34 k_,.quo 35 .u64 ((y:Int).fdiv ((2:Int)^32)) ((y/base:Nat):Int) (by rw[rK _ d_];unfold base;omega),.wr 36 .u32 ((y/base:Nat):Int) ((y/base:Nat):Int) (by rw[nC];unfold base at q3 ⊢;omega),.ix f204 37 1 (n+1) (i+1) o_ k_,.st f204 100037 176 1 (i+1) (.row (al ((ae base (n+1) (a%base^i*2^k)).set i d)) 176 1) (aX (y/base)) (.row (al (ae base (n+1) (a%base^(i+1)*2^k))) 176 1) rfl SI rfl k_,.sum 38 i 1 (i+1) rfl o_]
theorem SJ(hk:k<=31)(h63:n<35184372088832):
  ag prog Bs 40 (.block 0 (af f204 0)) (rR n a k 0) (oK n a k 0) 2 ⟨.normal,rR n a k n,oK n a k n,2⟩:=
 bT (cd (b:=aF (af f204 0)) (r:=⟨.exit 0,rR n a k n,oK n a k n,2⟩) n (rR n a k) (oK n a k) (λi t _=>jN (l:=oK n a k i) (m:=oK n a k 0) rfl t) (λi hi=>SH hi hk h63)
  (aA [.lt 15 n n false s_]) n_)
end
def Z7(w w':World)(v:Value)(n a:Nat):Prop:=w'.ownsRow w.heap.size 176 1 v n (al (ae base n a))
theorem aIZ{w:World}{va:Value}{a k:Nat}(fY:iw w va a)(hk:k<=31)(h1:nd base a<35184372088832):
  Calls prog 204 #[va,vI k] w λe w'=>∃ v,e=.returned v/\Z7 w w' v (nd base a+1) (a*2^k)/\Below w.heap.size w w':=by
 have ak:=dS (B:=base) d_ a;have hl:∀ s∈[cA.row va (nd base a) (al (ae base (nd base a) a)),.plain (vI k)],s.OK w:=by
  intro s hs;simp at hs;rcases hs with rfl|rfl
  ·exact⟨fY,fB _⟩
  ·exact rfl
 unfold iw at fY;generalize nd base a=n at *;have bd:a%base^n=a:=dK ak
 refine lD (Q:=λe w'=>∃ v,e=.returned v/\Z7 w w' v (n+1) (a*2^k)/\Below w.heap.size w w') mixed func204 [cA.row va n (al (ae base n a)),.plain (vI k)] hl 100 (N:=40) k_
  (rs:=[(aY.sum 10 n 1 (n+1) rfl o_:aY prog (aa.at w) 40),.pM f204 11 1 (n+1) 176 4 (aX 0) (al (ae base (n+1) (a%base^0*2^k))) (by rw[rL,tf,lC,Sc,EE]) rfl rfl o_ (by simp[maxLen];omega) k_,.code 0 _ _ _ _ _ (SJ (n:=n) (a:=a) hk h1)])
  (v:=sl 1 (n+1)) (ms:=[(1,.row (al (ae base (n+1) (a%base^n*2^k))) 176 1)]) k_ λau bY v' w' hc bo dy _=>⟨v',rfl,?_,bo.base⟩
 have:=vx bo (dy _ (aV ..)) hc (by simp[al,oE]) (fB _);rw[ki (by simp[al,oE]),bd]at this;exact this
def bl(x:Nat):Nat:=if x=0 then 0 else x.log2+1
theorem SK{x k:Nat}(h:2^k<=x):bl x=bl (x/2^k)+k:=by
 have hp:0<2^k:=cG d_;have hx:x≠0:=by omega
 have hq:0<x/2^k:=Np h hp;unfold bl;rw[ao hx,ao o_];have h1:=Z8 (n:=x/2^k) o_;have h2:=Nat.lt_log2_self (n:=x/2^k);have e:x.log2=(x/2^k).log2+k:=by
  rw[Nat.log2_eq_iff hx];constructor
  ·rw[ev];exact(CO hp).1 h1
  ·rw[show(x/2^k).log2+k+1=((x/2^k).log2+1)+k by omega,ev];exact(iv hp).1 h2
 omega
theorem Z9{x n:Nat}(h:x<2^n):bl x<=n:=by
 unfold bl;split
 ·omega
 ·rename_i hx;have:=Z8 hx;rcases eF x.log2 n with h1|h1
  ·omega
  ·have:=cZ (show 0<2 by decide) h1;omega
theorem aI0{x:Nat}(h:x≠0):∃ k,bl x=k+1/\2^k<=x/\x<2^(k+1):=by refine⟨x.log2,by unfold bl;rw[ao h],Z8 h,Nat.lt_log2_self⟩
section
variable{P:Program}{B:aa}{N:Nat}
theorem aI1{o:Oper}(ho:GN P o=true){kd:IntKind}{s:ByteArray}{i:Nat}{c:UInt8}(hc:s[i]?=some c):cB P B o [.string s,.int kd i] [] (.int .u8 (c.toNat:Int)) []:=by
 unfold GN at ho;split at ho
 ·rename_i t p q bP;split at ho
  ·rename_i ht;refine(AA (λu hu=>by simp at hu;rcases hu with rfl|rfl<;>rfl) rfl λρ e7 w _=>?_).step;rw[bP]at e7;simp[Op.operands]at e7;have h0:(0:Int)<=(i:Int):=by omega
   simp[execOp,bP,e7.1,e7.2,Instr.index,asIntOf,iG ht,h0,hc]
  ·cases ho
 ·cases ho
def aY.Nq(fn:Func)(key:Nat)(kd:IntKind)(s:ByteArray)(i:Nat)(c:UInt8)(hc:s[i]?=some c)(ho:GN P (av fn key)=true):aY P B N:=
 .step key (av fn key) [.string s,.int kd i] [] (.int .u8 (c.toNat:Int)) [] (aI1 ho hc)
end
noncomputable def G7:ByteArray:=match (av f193 16).op with|.index _ (.const (.string s)) _=>s|_=>default
theorem aI2:∀ i,i<256->G7[i]?=some (UInt8.ofNat (bl i)):=by decide +kernel
theorem aI3{x:Nat}(hx:x<base):aE prog 193 [aX x] (vI (bl x)):=by
 have fin:∀ z,z<256->∃ c:UInt8,G7[z]?=some c/\c.toNat=bl z:=λz hz=>⟨_,aI2 z hz,by have:=Z9 (x:=z) (n:=8) hz;rw[Nf];exact dK o_⟩
 have w8:∀ z,z<256->IntKind.u8.wrap ((z:Nat):Int)=(z:Int):=λz h=>by rw[ZO];omega
 have shr:∀(z k:Nat),(z:Int).fdiv ((2:Int)^k)=((z/2^k:Nat):Int):=λz k=>by rw[rK _ (GZ d_),ti,G1];rfl
 by_cases h1:65536<=x
 ·have e1:=SK (k:=16) h1;obtain⟨y,hy⟩:∃ y,y=x/2^16:=⟨_,rfl⟩;have Gr:y<65536:=by rw[hy];unfold base at hx;omega
  by_cases h2:256<=y
  ·have e2:=SK (x:=y) (k:=8) h2;obtain⟨z,hz⟩:∃ z,z=y/2^8:=⟨_,rfl⟩;have Bc:z<256:=by rw[hz];omega
   obtain⟨c,c1,c2⟩:=fin z Bc;have e:bl x=24+c.toNat:=by rw[e1,<-hy,e2,<-hz,c2];omega
   rw[e];exact aP func193 (λ_=>[.ge 4 x 65536 true (by simp[h1]),.quo 6 .u32 ((x:Int).fdiv ((2:Int)^16)) (y:Int) (by rw[shr,hy]),.ge 8 y 256 true (by simp[h2]),.quo 10 .u32 ((y:Int).fdiv ((2:Int)^8)) (z:Int) (by rw[shr,hz]),.wr 15 .u8 (z:Int) (z:Int) (w8 z Bc),.Nq f193 16 .u8 G7 z c c1 k_,.wr 17 .i64 (c.toNat:Int) (c.toNat:Int) (by rw[c8];have:=c.toNat_lt;omega),.sum 18 24 c.toNat (24+c.toNat) rfl (by have:=c.toNat_lt;omega)])
  ·obtain⟨c,c1,c2⟩:=fin y o_;have e:bl x=16+c.toNat:=by rw[e1,<-hy,c2];omega
   rw[e];exact aP func193 (λ_=>[.ge 4 x 65536 true (by simp[h1]),.quo 6 .u32 ((x:Int).fdiv ((2:Int)^16)) (y:Int) (by rw[shr,hy]),.ge 8 y 256 false (by simp;omega),.wr 15 .u8 (y:Int) (y:Int) (w8 y o_),.Nq f193 16 .u8 G7 y c c1 k_,.wr 17 .i64 (c.toNat:Int) (c.toNat:Int) (by rw[c8];have:=c.toNat_lt;omega),.sum 18 16 c.toNat (16+c.toNat) rfl (by have:=c.toNat_lt;omega)])
 ·by_cases h2:256<=x
  ·have e2:=SK (x:=x) (k:=8) h2;obtain⟨z,hz⟩:∃ z,z=x/2^8:=⟨_,rfl⟩;have Bc:z<256:=by rw[hz];omega
   obtain⟨c,c1,c2⟩:=fin z Bc;have e:bl x=8+c.toNat:=by rw[e2,<-hz,c2];omega
   rw[e];exact aP func193 (λ_=>[.ge 4 x 65536 false (by simp;omega),.ge 8 x 256 true (by simp[h2]),.quo 10 .u32 ((x:Int).fdiv ((2:Int)^8)) (z:Int) (by rw[shr,hz]),.wr 15 .u8 (z:Int) (z:Int) (w8 z Bc),.Nq f193 16 .u8 G7 z c c1 k_,.wr 17 .i64 (c.toNat:Int) (c.toNat:Int) (by rw[c8];have:=c.toNat_lt;omega),.sum 18 8 c.toNat (8+c.toNat) rfl (by have:=c.toNat_lt;omega)])
  ·obtain⟨c,c1,c2⟩:=fin x o_;have e:bl x=0+c.toNat:=by rw[c2];omega
   rw[e];exact aP func193 (λ_=>[.ge 4 x 65536 false (by simp;omega),.ge 8 x 256 false (by simp;omega),.wr 15 .u8 (x:Int) (x:Int) (w8 x o_),.Nq f193 16 .u8 G7 x c c1 k_,.wr 17 .i64 (c.toNat:Int) (c.toNat:Int) (by rw[c8];have:=c.toNat_lt;omega),.sum 18 0 c.toNat (0+c.toNat) rfl (by have:=c.toNat_lt;omega)])
theorem aI4{x:Nat}(hx:x<base):aE prog 203 [aX x] (vI (32-bl x)):=
 aP func203 (λ_=>[(aI3 hx).at 4,.eX 5 32 (bl x) (32-bl x) (by have:=Z9 (x:=x) (n:=32) hx;omega) o_])
def pS(x:Nat):Value:=.int .u64 (x:Int)
theorem qC{x:Nat}(h:x<18446744073709551616):IntKind.u64.wrap (x:Int)=(x:Int):=by rw[jP];omega
theorem SL{x:Nat}(h:x<base):IntKind.u64.wrap ((x:Int)*2^32)=((x*base:Nat):Int):=by
 have e:(x:Int)*2^32=((x*base:Nat):Int):=by rw[nW];rfl
 rw[e];exact qC (by have:=A8 (k:=base) h d_;exact cv this d_)
theorem SM{x y:Nat}(hx:x<base)(hy:y<base):IntKind.u64.wrap (((BitVec.ofInt IntKind.u64.bits ((x*base:Nat):Int))||| (BitVec.ofInt IntKind.u64.bits (y:Int))).toNat:Int)=((x*base+y:Nat):Int):=by
 have h1:x*base<18446744073709551616:=by have:=A8 (k:=base) hx d_;exact cv this d_
 have h2:=M6 (i:=32) hy x;rw[Sh h1 (mf hy d_),cP x base];exact cI _ h2.symm
section
variable{Bs:aa}{j m L R V T v1 v2 u2:Nat}
def us(j m:Nat):Value:=.slice (some ⟨0,j,some 7⟩) (m+1) j
def kF(j m q r:Nat):aW:=[(7,pS q),(8,pS r),(5,vI m),(0,us j m),(1,sl 1 m)]
def gR(L R m V:Nat):aH:=[(0,.row (al (ae base L R)) 176 1),(1,.view (al (ae base m V)))]
structure DG(j e L R V T v1 v2 u2:Nat):Prop where
 ds:mg base e (R/base^j) V T u2 v1 v2
 hL:j+(e+2)+1<=L
 hV:V<base^(e+2)
 h63:L<35184372088832
section
variable{e:Nat}(h:DG j e L R V T v1 v2 u2)
include h
theorem DG.hR:R/base^j<base^(e+3):=by have h1:=h.ds.hU;have h2:V*base<=base^(e+2)*base:=e6 _ (iR h.hV);rw[<-dx]at h2;exact cv h1 h2
theorem DG.ud{i:Nat}(hi:i<=e+2):(al (ae base L R))[j+i]?=some (aX (R/base^j/base^i%base)):=by rw[<-G3];exact kC (ek (by have:=h.hL;omega))
omit h in
theorem DG.vd{i:Nat}(hi:i<e+2):(al (ae base (e+2) V))[i]?=some (aX (V/base^i%base)):=kC (ek hi)
theorem DG.SN:V/base^(e+1)%base=v1:=by rw[h.ds.ky];exact EA h.hV
theorem DG.aAa:R/base^j/base^(e+2)%base*base+R/base^j/base^(e+1)%base=T:=by rw[EA (h.hR),h.ds.hT,<-wT]
theorem DG.u2d:R/base^j/base^e%base=u2:=h.ds.hu.symm
theorem DG.v2d:V/base^e%base=v2:=h.ds.iu.symm
end
noncomputable def SO{e:Nat}(h:DG j e L R V T v1 v2 u2)(q r:Nat)(G8:q<base)(hr:r<base)(tr:Bool)(hq:tr=decide (r*base+u2<q*v2))(more:bA prog Bs 159):bA prog Bs 159:=
 have iu:v2<base:=by rw[h.ds.iu];exact cE _ d_
 have fv:u2<base:=by rw[h.ds.hu];exact cE _ d_
 have hp:q*v2<18446744073709551616:=cv (pN G8 iu) d_;
  .ge 48 q 4294967296 false (by simp;exact G8)::.eX 53 (e+2) 2 e rfl (by have:=h.hL;have:=h.h63;omega)::.ix f205 54 1 (e+2) e o_ k_::
  .ld f205 55 176 1 e (.view (al (ae base (e+2) V))) (aX v2) rfl (by rw[fG,<-h.v2d];exact DG.vd o_) k_::.wr 56 .u64 (v2:Int) (v2:Int) (qC (mf iu d_))::
  .wr 57 .u64 ((q:Int)*(v2:Int)) ((q*v2:Nat):Int) (by rw[<-nW];exact qC hp)::.wr 59 .u64 ((r:Int)*2^32) ((r*base:Nat):Int) (SL hr)::
  .eX 62 (e+2) 2 e rfl (by have:=h.hL;have:=h.h63;omega)::.wQ f205 63 0 j (e+3) j e o_ k_::
  .ld f205 64 176 0 (j+e) (.row (al (ae base L R)) 176 1) (aX u2) rfl (by rw[fG,<-h.u2d];exact h.ud o_) k_::.wr 65 .u64 (u2:Int) (u2:Int) (qC (mf fv d_))::
  .quo 66 .u64 _ ((r*base+u2:Nat):Int) (SM hr fv)::.gt 67 (q*v2) (r*base+u2) tr hq.symm::more
noncomputable def Nr{e:Nat}(h:DG j e L R V T v1 v2 u2)(q r:Nat)(hq:0<q/\q<18446744073709551616)(hr:r<base)(tr:Bool)(ht:tr=decide (base<=r+v1)):bA prog Bs 159:=
 have ky:v1<base:=h.ds.CN;
 [.wr 70 .u64 ((q:Int)-1) ((q-1:Nat):Int) (by rw[jP];omega),.eX 74 (e+2) 1 (e+1) rfl (by have:=h.hL;have:=h.h63;omega),.ix f205 75 1 (e+2) (e+1) o_ k_,.ld f205 76 176 1 (e+1) (.view (al (ae base (e+2) V))) (aX v1) rfl (by rw[fG,<-h.SN];exact DG.vd o_) k_,.wr 77 .u64 (v1:Int) (v1:Int) (qC (mf ky d_)),.wr 78 .u64 ((r:Int)+(v1:Int)) ((r+v1:Nat):Int) (by rw[<-vC];exact qC (by unfold base at hr ky;omega)),.ge 80 (r+v1) 4294967296 tr ht.symm]
section
variable{e:Nat}(h:DG j e L R V T v1 v2 u2)
include h
theorem aAb{q r:Nat}(G8:q<base)(hr:r<base)(hq:q*v2<=r*base+u2):
  ag prog Bs 159 (aF (af f205 0)) (kF j (e+2) q r) (gR L R (e+2) V) 2 ⟨.exit 0,kF j (e+2) q r,gR L R (e+2) V,2⟩:=
 aA (SO h q r G8 hr false (by simp;omega) [])
theorem aI5{q r:Nat}(hq:0<q/\q<18446744073709551616)(hr:r<base)(hc:base<=q\/r*base+u2<q*v2)(ht:r+v1<base):
  ag prog Bs 159 (aF (af f205 0)) (kF j (e+2) q r) (gR L R (e+2) V) 2 ⟨.normal,kF j (e+2) (q-1) (r+v1),gR L R (e+2) V,2⟩:=by
 by_cases hb:base<=q
 ·exact aA (.ge 48 q 4294967296 true (by simp;exact hb)::Nr h q r hq hr false (by simp;omega))
 ·exact aA (SO h q r o_ hr true (by simp[hc.resolve_left hb]) (Nr h q r hq hr false (by simp;omega)))
theorem aAc{q r:Nat}(hq:0<q/\q<18446744073709551616)(hr:r<base)(hc:base<=q\/r*base+u2<q*v2)(ht:base<=r+v1):
  ag prog Bs 159 (aF (af f205 0)) (kF j (e+2) q r) (gR L R (e+2) V) 2 ⟨.exit 0,kF j (e+2) (q-1) (r+v1),gR L R (e+2) V,2⟩:=by
 by_cases hb:base<=q
 ·exact aA (.ge 48 q 4294967296 true (by simp;exact hb)::Nr h q r hq hr true (by simp;omega))
 ·exact aA (SO h q r o_ hr true (by simp[hc.resolve_left hb]) (Nr h q r hq hr true (by simp;omega)))
theorem aI6:∃ q r,ag prog Bs 159 (.block 0 (af f205 0)) (kF j (e+2) (T/v1) (T%v1)) (gR L R (e+2) V) 2 ⟨.normal,kF j (e+2) q r,gR L R (e+2) V,2⟩/\q<base/\q*V<R/base^j+V/\R/base^j/V<=q:=by
 have ky:v1<base:=h.ds.CN;have xe:=h.ds.top;have EW:0<v1:=by unfold base at xe;omega
 have od:T%v1<v1:=cE _ EW;have g0:=h.ds.start;have sm:∀{q r},A7 (R/base^j) V T v1 q r->q<18446744073709551616:=λg=>eL (h.ds.aIK g) d_;have one:∀{q r q' r':Nat},ag prog Bs 159 (.loop (aF (af f205 0))) (kF j (e+2) q r) (gR L R (e+2) V) 2 ⟨.exit 0,kF j (e+2) q' r',gR L R (e+2) V,2⟩->
   ag prog Bs 159 (.block 0 (af f205 0)) (kF j (e+2) q r) (gR L R (e+2) V) 2 ⟨.normal,kF j (e+2) q' r',gR L R (e+2) V,2⟩:=λg=>bT (id:=0) g
 have zero:∀{q r:Nat} {o:l5},o.ex≠.normal->ag prog Bs 159 (aF (af f205 0)) (kF j (e+2) q r) (gR L R (e+2) V) 2 o->ag prog Bs 159 (.loop (aF (af f205 0))) (kF j (e+2) q r) (gR L R (e+2) V) 2 o:=λ{q r o} ho g=>
  cd (P:=prog) (B:=Bs) (N:=159) (b:=aF (af f205 0)) (next:=2) 0 (λ_=>kF j (e+2) q r) (λ_=>gR L R (e+2) V) (λ_ _ _=>Iff.rfl) (λi hi=>by omega) g ho
 generalize T/v1=q0 at *;generalize T%v1=r0 at *;by_cases c1:base<=q0\/r0*base+u2<q0*v2
 ·obtain⟨p1,g1⟩:=h.ds.less g0 c1;by_cases t1:base<=r0+v1
  ·obtain⟨a1,a2⟩:=h.ds.fin g1 (.inr t1);exact⟨_,_,one (zero n_ (aAc h ⟨p1,sm g0⟩ o_ c1 t1)),a1,a2,g1.le⟩
  ·have t1:=Nat.not_le.1 t1;have two:∀{o:l5},o.ex≠.normal->ag prog Bs 159 (aF (af f205 0)) (kF j (e+2) (q0-1) (r0+v1)) (gR L R (e+2) V) 2 o->ag prog Bs 159 (.loop (aF (af f205 0))) (kF j (e+2) q0 r0) (gR L R (e+2) V) 2 o:=λ{o} ho g=>
    cd (P:=prog) (B:=Bs) (N:=159) (b:=aF (af f205 0)) (next:=2) 1 (λi=>if i=0 then kF j (e+2) q0 r0 else kF j (e+2) (q0-1) (r0+v1)) (λ_=>gR L R (e+2) V) (λ_ _ _=>Iff.rfl) (λi hi=>by
     have:i=0:=by omega
     subst this;exact aI5 h ⟨p1,sm g0⟩ o_ c1 t1) g ho
   by_cases c2:base<=q0-1\/(r0+v1)*base+u2<(q0-1)*v2
   ·obtain⟨p2,g2⟩:=h.ds.less g1 c2;have t2:=h.ds.aIJ r0;obtain⟨a1,a2⟩:=h.ds.fin g2 (.inr t2);exact⟨_,_,one (two n_ (aAc h ⟨p2,sm g1⟩ t1 c2 t2)),a1,a2,g2.le⟩
   ·have Bd:q0-1<base/\(q0-1)*v2<=(r0+v1)*base+u2:=by
     constructor
     ·exact Nat.not_le.1 λhh=>c2 (.inl hh)
     ·exact JP.1 λhh=>c2 (.inr hh)
    obtain⟨a1,a2⟩:=h.ds.fin g1 (.inl Bd);exact⟨_,_,one (two n_ (aAb h Bd.1 t1 Bd.2)),a1,a2,g1.le⟩
 ·have Be:q0<base/\q0*v2<=r0*base+u2:=by
   constructor
   ·exact Nat.not_le.1 λhh=>c1 (.inl hh)
   ·exact JP.1 λhh=>c1 (.inr hh)
  obtain⟨a1,a2⟩:=h.ds.fin g0 (.inl Be);exact⟨_,_,one (zero n_ (aAb h Be.1 o_ Be.2)),a1,a2,g0.le⟩
end
end
section
variable{Bs:aa}{j L R V T v1 v2 u2:Nat}
theorem G9{L i R S t:Nat}(ht:t<L)(h:i<=t):(al (c7 base L i S R))[t]?=some (aX (R/base^t%base)):=kC (Cr ht h)
theorem JS{L i R S:Nat}(hi:i<L){d:Nat}(hd:d=S/base^i%base):eW prog 176 (al (c7 base L i S R)) i (aX d)=some (al (c7 base L (i+1) S R)):=by rw[yK _ i _ (by simp[al,wS];omega),yL,yJ hi hd]
def fR(j m R V q:Nat):Nat:=fZ base j R (fQ base m (R/base^j) V q)
def CS(j m R V q i:Nat):aW:=
 [(83,vI i),(82,vI m),(81,sl 1 m),(7,pS q),(9,pS (oc base q V i)),(10,aX (oI base (R/base^j) V q i)),(5,vI m),(0,us j m),(1,sl 1 m)]
def Bf(j m L R V q i:Nat):aH:=[(0,.row (al (c7 base L (j+i) (fR j m R V q) R)) 176 1),(1,.view (al (ae base m V)))]
section
variable{e q:Nat}(h:DG j e L R V T v1 v2 u2)(hq:q<base)(nu:q*V<R/base^j+V)
include h hq nu
omit hq in
theorem DG.qle:q*V<=R/base^j+base^(e+3):=by have h1:V<=base^(e+3):=de (iR h.hV) (cZ d_ o_);omega
omit hq in
theorem DG.sub{i:Nat}(hi:i<=e+2):aE prog 221 [aX (R/base^j/base^i%base),aX ((oc base q V i+q*(V/base^i%base))%base),aX (oI base (R/base^j) V q i)]
  (.tuple #[aX (fR j (e+2) R V q/base^(j+i)%base),aX (oI base (R/base^j) V q (i+1))]):=by
 have hb:oI base (R/base^j) V q i<=1:=MQ _ _ _;have:=Zg (x:=R/base^j/base^i%base) (y:=(oc base q V i+q*(V/base^i%base))%base) (b:=oI base (R/base^j) V q i) (cE _ d_) (cE _ d_) hb;rw[aIR d_ (h.qle nu) hi,aIS d_]at this;unfold fR;rw[xc d_];exact this
theorem aI7{i:Nat}(hi:i<e+2):
  ag prog Bs 159 (aF (af f205 2)) (CS j (e+2) R V q i) (Bf j (e+2) L R V q i) 2 ⟨.normal,CS j (e+2) R V q (i+1),Bf j (e+2) L R V q (i+1),2⟩:=by
 have hL:=h.hL;have h63:=h.h63;have tg:=h.sub nu (show i<=e+2 by omega);have hc:=ZU (B:=base) d_ hq V i;have vp:=aIM (B:=base) d_ q V i;have hv:V/base^i%base<base:=cE _ d_;have bL:eW prog 176 (al (c7 base L (j+i) (fR j (e+2) R V q) R)) (j+i) (aX (fR j (e+2) R V q/base^(j+i)%base))=some (al (c7 base L (j+(i+1)) (fR j (e+2) R V q) R)):=JS o_ rfl;have SP:=DG.vd (V:=V) hi;have SQ:(al (c7 base L (j+i) (fR j (e+2) R V q) R))[j+i]?=some (aX (R/base^j/base^i%base)):=by rw[<-G3];exact G9 o_ (bj _)
 generalize R/base^j/base^i%base=x at *;generalize V/base^i%base=y at *;generalize hC:oc base q V i=C at *;have hp:q*y<18446744069414584321:=by have h1:q*y<=(base-1)*(base-1):=wY o_ o_;exact eL h1 d_
 have hs:C+q*y<18446744073709551616:=by unfold base at hc;omega
 have e1:CS j (e+2) R V q i=[(83,vI i),(82,vI (e+2)),(81,sl 1 (e+2)),(7,pS q),(9,pS C),(10,aX (oI base (R/base^j) V q i)),(5,vI (e+2)),(0,us j (e+2)),(1,sl 1 (e+2))]:=by unfold CS;rw[hC]
 rw[e1];generalize hP:q*y=W at *;exact aA [.lt 84 i (e+2) true (by simp[hi]),.ix f205 86 1 (e+2) i hi k_,.ld f205 87 176 1 i (.view (al (ae base (e+2) V))) (aX y) rfl (by rw[fG];exact SP) k_,.wr 91 .u64 (y:Int) (y:Int) (qC (mf hv d_)),.wr 92 .u64 ((q:Int)*(y:Int)) (W:Int) (by rw[<-nW,hP];exact qC o_),.wr 93 .u64 ((C:Int)+(W:Int)) ((C+W:Nat):Int) (by rw[<-vC];exact qC hs),.wQ f205 99 0 j (e+3) j i o_ k_,.ld f205 100 176 0 (j+i) (.row (al (c7 base L (j+i) (fR j (e+2) R V q) R)) 176 1) (aX x) rfl (by rw[fG];exact SQ) k_,.wr 102 .u32 ((C+W:Nat):Int) (((C+W)%base:Nat):Int) (by rw[nC];unfold base;omega),tg.at 104,.wQ f205 107 0 j (e+3) j i o_ k_,.st f205 100107 176 0 (j+i) (.row (al (c7 base L (j+i) (fR j (e+2) R V q) R)) 176 1) (aX (fR j (e+2) R V q/base^(j+i)%base)) (.row (al (c7 base L (j+(i+1)) (fR j (e+2) R V q) R)) 176 1) rfl bL rfl k_,.quo 109 .u64 (((C+W:Nat):Int).fdiv ((2:Int)^32)) ((oc base q V (i+1):Nat):Int) (by rw[rK _ d_,<-vp];unfold base;omega),.sum 110 i 1 (i+1) rfl o_]
omit h hq nu in
theorem aI8:Bf j (e+2) L R V q 0=gR L R (e+2) V:=by unfold Bf gR fR;rw[jn,Nk d_]
theorem aI9:ag prog Bs 159 (.block 2 (af f205 2)) (CS j (e+2) R V q 0) (gR L R (e+2) V) 2 ⟨.normal,CS j (e+2) R V q (e+2),Bf j (e+2) L R V q (e+2),2⟩:=by
 rw[<-aI8 (q:=q)];exact bT (id:=2) (cd (b:=aF (af f205 2)) (r:=⟨.exit 2,CS j (e+2) R V q (e+2),Bf j (e+2) L R V q (e+2),2⟩) (e+2) (CS j (e+2) R V q) (Bf j (e+2) L R V q) (λi t _=>jN (l:=Bf j (e+2) L R V q i) (m:=Bf j (e+2) L R V q 0) rfl t)
  (λi hi=>aI7 h hq nu hi) (aA [.lt 84 (e+2) (e+2) false s_]) n_)
end
def nG(j m R V q:Nat):Nat:=fZ base j R ((fQ base m (R/base^j) V q+V)%base^(m+1))
def Ha(j m R V q i:Nat):aW:=
 [(131,vI i),(130,vI m),(129,sl 1 m),(13,aX (eM base (fQ base m (R/base^j) V q) V i)),(7,pS (q-1)),(5,vI m),(0,us j m),(1,sl 1 m)]
def Bg(j m L R V q i:Nat):aH:=[(0,.row (al (c7 base L (j+i) (nG j m R V q) (fR j m R V q))) 176 1),(1,.view (al (ae base m V)))]
section
variable{e q:Nat}(h:DG j e L R V T v1 v2 u2)
include h
theorem aJa{i:Nat}(hi:i<e+2):
  ag prog Bs 159 (aF (af f205 4)) (Ha j (e+2) R V q i) (Bg j (e+2) L R V q i) 2 ⟨.normal,Ha j (e+2) R V q (i+1),Bg j (e+2) L R V q (i+1),2⟩:=by
 have hL:=h.hL;have h63:=h.h63;have hc:=AU (B:=base) d_ (fQ base (e+2) (R/base^j) V q) V i;have yN:=Jz (x:=fQ base (e+2) (R/base^j) V q/base^i%base) (y:=V/base^i%base) (c:=eM base (fQ base (e+2) (R/base^j) V q) V i) (cE _ d_) (cE _ d_) (eL hc d_);rw[SE d_ (show i<=e+2 by omega),EB d_]at yN;have bL:eW prog 176 (al (c7 base L (j+i) (nG j (e+2) R V q) (fR j (e+2) R V q))) (j+i) (aX ((fQ base (e+2) (R/base^j) V q+V)%base^(e+2+1)/base^i%base))=some (al (c7 base L (j+(i+1)) (nG j (e+2) R V q) (fR j (e+2) R V q))):=
  JS o_ (by unfold nG;rw[xc d_])
 have SP:=DG.vd (V:=V) hi;have SQ:(al (c7 base L (j+i) (nG j (e+2) R V q) (fR j (e+2) R V q)))[j+i]?=some (aX (fQ base (e+2) (R/base^j) V q/base^i%base)):=by have:=G9 (L:=L) (i:=j+i) (R:=fR j (e+2) R V q) (S:=nG j (e+2) R V q) (t:=j+i) o_ (bj _);rw[this];unfold fR;rw[xc d_]
 exact aA [.lt 132 i (e+2) true (by simp[hi]),.ix f205 134 1 (e+2) i hi k_,.ld f205 135 176 1 i (.view (al (ae base (e+2) V))) (aX (V/base^i%base)) rfl (by rw[fG];exact SP) k_,.wQ f205 141 0 j (e+3) j i o_ k_,.ld f205 142 176 0 (j+i) (.row (al (c7 base L (j+i) (nG j (e+2) R V q) (fR j (e+2) R V q))) 176 1) (aX (fQ base (e+2) (R/base^j) V q/base^i%base)) rfl (by rw[fG];exact SQ) k_,yN.at 145,.wQ f205 148 0 j (e+3) j i o_ k_,.st f205 100148 176 0 (j+i) (.row (al (c7 base L (j+i) (nG j (e+2) R V q) (fR j (e+2) R V q))) 176 1) (aX ((fQ base (e+2) (R/base^j) V q+V)%base^(e+2+1)/base^i%base)) (.row (al (c7 base L (j+(i+1)) (nG j (e+2) R V q) (fR j (e+2) R V q))) 176 1) rfl bL rfl k_,.sum 149 i 1 (i+1) rfl o_]
omit h in
theorem aJb:Bg j (e+2) L R V q 0=gR L (fR j (e+2) R V q) (e+2) V:=by unfold Bg gR nG;rw[jn,<-ZV (B:=base) d_ j R (fQ base (e+2) (R/base^j) V q)];unfold fR;rw[Nk d_]
theorem aJc:ag prog Bs 159 (.block 4 (af f205 4)) (Ha j (e+2) R V q 0) (gR L (fR j (e+2) R V q) (e+2) V) 2 ⟨.normal,Ha j (e+2) R V q (e+2),Bg j (e+2) L R V q (e+2),2⟩:=by
 rw[<-aJb (q:=q)];exact bT (id:=4) (cd (b:=aF (af f205 4)) (r:=⟨.exit 4,Ha j (e+2) R V q (e+2),Bg j (e+2) L R V q (e+2),2⟩) (e+2) (Ha j (e+2) R V q) (Bg j (e+2) L R V q) (λi t _=>jN (l:=Bg j (e+2) L R V q i) (m:=Bg j (e+2) L R V q 0) rfl t)
  (λi hi=>aJa h hi) (aA [.lt 132 (e+2) (e+2) false s_]) n_)
end
noncomputable def aAd{e q r:Nat}(h:DG j e L R V T v1 v2 u2)(hq:q<base)(nu:q*V<R/base^j+V)
  (hg:ag prog Bs 159 (.block 0 (af f205 0)) (kF j (e+2) (T/v1) (T%v1)) (gR L R (e+2) V) 2 ⟨.normal,kF j (e+2) q r,gR L R (e+2) V,2⟩) (more:bA prog Bs 159):bA prog Bs 159:=
 have hL:=h.hL;have h63:=h.h63;have hx:R/base^j/base^(e+2)%base<base:=cE _ d_;have hy:R/base^j/base^(e+1)%base<base:=cE _ d_;have ky:v1<base:=h.ds.CN;have EW:(v1:Int)≠0:=by have:=h.ds.top;unfold base at this;omega
 have hT:T<18446744073709551616:=by
  rw[<-h.aAa];have:R/base^j/base^(e+2)%base*base<=(base-1)*base:=e6 _ o_;have e3:(base-1)*base=18446744069414584320:=by decide
  rw[e3]at this;clear e3;unfold base at *;omega
 have hc:=ZU (B:=base) d_ hq V (e+2);have h0:V/base^(e+2)%base=0:=qy h.hV (bj _) d_;have tg:=h.sub nu (bj (e+2))
 have aJd:aE prog 221 [aX (R/base^j/base^(e+2)%base),aX (oc base q V (e+2)),aX (oI base (R/base^j) V q (e+2))]
   (.tuple #[aX (fR j (e+2) R V q/base^(j+(e+2))%base),aX (oI base (R/base^j) V q (e+3))]):=by
  rw[h0,Nat.mul_zero,jn (oc base q V (e+2)),dK hc]at tg;exact tg
 have iS:(al (c7 base L (j+(e+2)) (fR j (e+2) R V q) R))[j+(e+2)]?=some (aX (R/base^j/base^(e+2)%base)):=by rw[<-G3];exact G9 o_ (bj _)
 have bL:eW prog 176 (al (c7 base L (j+(e+2)) (fR j (e+2) R V q) R)) (j+(e+2)) (aX (fR j (e+2) R V q/base^(j+(e+2))%base))=some (al (ae base L (fR j (e+2) R V q))):=by
  rw[JS o_ rfl,show j+(e+2)+1=j+(e+3)by omega,EU d_]
  ·have:=h.hR;have h2:=G2 (B:=base) d_ (j:=j) R this;rw[aIN]at h2;exact h2
  ·exact G2 d_ R (SC d_);
 .wQ f205 20 0 j (e+3) j (e+2) o_ k_::.ld f205 21 176 0 (j+(e+2)) (.row (al (ae base L R)) 176 1) (aX (R/base^j/base^(e+2)%base)) rfl (by rw[fG];exact h.ud (bj _)) k_::
 .wr 22 .u64 ((R/base^j/base^(e+2)%base:Nat):Int) ((R/base^j/base^(e+2)%base:Nat):Int) (qC (mf hx d_))::
 .wr 23 .u64 (((R/base^j/base^(e+2)%base:Nat):Int)*2^32) ((R/base^j/base^(e+2)%base*base:Nat):Int) (SL hx)::.eX 26 (e+2) 1 (e+1) rfl o_::
 .wQ f205 27 0 j (e+3) j (e+1) o_ k_::.ld f205 28 176 0 (j+(e+1)) (.row (al (ae base L R)) 176 1) (aX (R/base^j/base^(e+1)%base)) rfl (by rw[fG];exact h.ud o_) k_::
 .wr 29 .u64 ((R/base^j/base^(e+1)%base:Nat):Int) ((R/base^j/base^(e+1)%base:Nat):Int) (qC (mf hy d_))::.quo 30 .u64 _ ((T:Nat):Int) ((SM hx hy).trans (by rw[h.aAa]))::
 .eX 34 (e+2) 1 (e+1) rfl o_::.ix f205 35 1 (e+2) (e+1) o_ k_::.ld f205 36 176 1 (e+1) (.view (al (ae base (e+2) V))) (aX v1) rfl (by rw[fG,<-h.SN];exact DG.vd o_) k_::
 .wr 37 .u64 (v1:Int) (v1:Int) (qC (mf ky d_))::.pQ f205 38 .u64 (T:Int) v1 ((T/v1:Nat):Int) EW (by rw[yS o_,<-ti];exact qC (eL (tj _ _) hT)) k_::
 .eX 42 (e+2) 1 (e+1) rfl o_::.ix f205 43 1 (e+2) (e+1) o_ k_::.ld f205 44 176 1 (e+1) (.view (al (ae base (e+2) V))) (aX v1) rfl (by rw[fG,<-h.SN];exact DG.vd o_) k_::
 .wr 45 .u64 (v1:Int) (v1:Int) (qC (mf ky d_))::.th f205 46 .u64 (T:Int) v1 ((T%v1:Nat):Int) EW (by rw[yT o_];rfl) k_::
 .code 0 _ _ _ _ _ hg::.rw 9 (.int .u64 0) (pS (oc base q V 0)) (by rw[aIL];rfl)::.rw 10 (.int .u32 0) (aX (oI base (R/base^j) V q 0)) (by unfold oI;rw[R2];rfl)::
 .code 2 _ _ _ _ _ (aI9 h hq nu)::.wQ f205 116 0 j (e+3) j (e+2) o_ k_::.ld f205 117 176 0 (j+(e+2)) (.row (al (c7 base L (j+(e+2)) (fR j (e+2) R V q) R)) 176 1) (aX (R/base^j/base^(e+2)%base)) rfl (by rw[fG];exact iS) k_::
 .wr 119 .u32 ((oc base q V (e+2):Nat):Int) ((oc base q V (e+2):Nat):Int) (by rw[nC];unfold base at hc ⊢;omega)::aJd.at 121::.wQ f205 124 0 j (e+3) j (e+2) o_ k_::
 .st f205 100124 176 0 (j+(e+2)) (.row (al (c7 base L (j+(e+2)) (fR j (e+2) R V q) R)) 176 1) (aX (fR j (e+2) R V q/base^(j+(e+2))%base)) (.row (al (ae base L (fR j (e+2) R V q))) 176 1) rfl bL rfl k_::more
theorem aJe{w:World}{g cap c' e:Nat}{cur:Array Value}{vv:Value}(h:DG j e L R V T v1 v2 u2)(hg:w.heap[g]?=some (.cells cur 176 (0,0)))(hn:e+3<=c')(mC:j+c'=cap)(jy:cap<=maxLen)(bH:cur.size=cap*1)
  (hc:cur.toList.take (al (ae base L R)).length=al (ae base L R)) (hv:cK w vv (e+2) (al (ae base (e+2) V))) (aU:∀ b o c,vv=.slice (some ⟨b,o,none⟩) (e+2) c->b≠g) :
  Calls prog 205 #[.slice (some ⟨g,j,none⟩) (e+3) c',vv] w λex w'=>ex=.returned (aX (R/base^j/V))/\AV g w w'/\∃ fK,w'.heap[g]?=some (.cells fK 176 (0,0))/\fK.size=cap*1/\
   fK.toList.take (al (ae base L (fZ base j R (R/base^j%V)))).length=al (ae base L (fZ base j R (R/base^j%V))):=by
 obtain⟨q,r,uG,hq,nu,hle⟩:=aI6 (Bs:=aa.vy w g) h;have hU:=h.ds.hU;have kY:=aIU (B:=base) d_ hq h.hV hU;have hL:=h.hL;have h63:=h.h63;have aUA:q<18446744073709551616:=mf hq d_;have key:∀(qq:Nat) (S:Nat) (rs:bA prog (aa.vy w g) 159),qq=R/base^j/V->S=fZ base j R (R/base^j%V)->
   nA (fO (P:=prog) f205 100 (us j (e+2)::rH 1 [cA.row vv (e+2) (al (ae base (e+2) V))]) ((0,.row (al (ae base L R)) 176 1)::uA 1 [cA.row vv (e+2) (al (ae base (e+2) V))]) (s9 1 [cA.row vv (e+2) (al (ae base (e+2) V))]) rs) [(0,.row (al (ae base L S)) 176 1)] =
    nB (fO f205 100 (us j (e+2)::rH 1 [cA.row vv (e+2) (al (ae base (e+2) V))]) ((0,.row (al (ae base L R)) 176 1)::uA 1 [cA.row vv (e+2) (al (ae base (e+2) V))]) (s9 1 [cA.row vv (e+2) (al (ae base (e+2) V))]) rs) (aX qq) [(0,.row (al (ae base L S)) 176 1)]->
   Calls prog 205 #[.slice (some ⟨g,j,none⟩) (e+3) c',vv] w λex w'=>ex=.returned (aX (R/base^j/V))/\AV g w w'/\∃ fK,w'.heap[g]?=some (.cells fK 176 (0,0))/\fK.size=cap*1/\
    fK.toList.take (al (ae base L (fZ base j R (R/base^j%V)))).length=al (ae base L (fZ base j R (R/base^j%V))):=by
  rintro qq S rs rfl rfl En
  exact aIB (ms:=[]) (cells':=al (ae base L (fZ base j R (R/base^j%V)))) (v:=aX (R/base^j/V)) mixed func205 hg jy bH hc (fB _) (fB _) hn mC [cA.row vv (e+2) (al (ae base (e+2) V))]
   (λs hs=>by simp at hs;subst hs;exact⟨hv,fB _⟩) (λs hs=>by simp at hs;subst hs;exact aU) 100 (N:=159) k_ En λau Sy v' w' _ jX h1 h2 _ _=>⟨by rw[jX.eU rfl],h1,h2⟩
 by_cases hb:R/base^j<q*V
 ·rw[aw hb]at kY;obtain⟨e1,e2⟩:=ZY (B:=base) (m:=e+2) d_ h.hV hU nu hb;have e3:nG j (e+2) R V q=fZ base j R (R/base^j%V):=by unfold nG;rw[e2]
  have h0:V/base^(e+2)%base=0:=qy h.hV (bj _) d_;have JT:=SE (B:=base) (m:=e+2) (V:=V) (D:=fQ base (e+2) (R/base^j) V q) d_ (bj (e+2));rw[h0,jn (fQ base (e+2) (R/base^j) V q/base^(e+2)%base)]at JT;have iS:(al (c7 base L (j+(e+2)) (nG j (e+2) R V q) (fR j (e+2) R V q)))[j+(e+2)]?=some (aX (fQ base (e+2) (R/base^j) V q/base^(e+2)%base)):=by have:=G9 (L:=L) (i:=j+(e+2)) (R:=fR j (e+2) R V q) (S:=nG j (e+2) R V q) (t:=j+(e+2)) o_ (bj _);rw[this];unfold fR;rw[xc d_]
  have bL:eW prog 176 (al (c7 base L (j+(e+2)) (nG j (e+2) R V q) (fR j (e+2) R V q))) (j+(e+2)) (aX ((fQ base (e+2) (R/base^j) V q+V)%base^(e+2+1)/base^(e+2)%base))=some (al (ae base L (nG j (e+2) R V q))):=by
   rw[JS o_ (by unfold nG;rw[xc d_]),show j+(e+2)+1=j+(e+3)by omega,EU d_]
   ·exact G2 d_ R (SC d_)
   ·exact G2 d_ R (cE _ (cG d_))
  have hd:fQ base (e+2) (R/base^j) V q/base^(e+2)%base<base:=cE _ d_;have gj:=AU (B:=base) d_ (fQ base (e+2) (R/base^j) V q) V (e+2);have hbk:=aJc (Bs:=aa.vy w g) (q:=q) h;have tt:q-1=R/base^j/V:=by rw[e1,Nj]
  have mL:0<q:=by rw[e1];exact SR _
  refine key (q-1) (nG j (e+2) R V q) (aAd h hq nu uG [.rw 126 (.bool (((oI base (R/base^j) V q (e+3):Nat):Int)!=0)) (.bool true) (by rw[show e+3=e+2+1 from rfl,kY];rfl),.wr 128 .u64 ((q:Int)-1) ((q-1:Nat):Int) (by rw[jP];omega),.rw 13 (.int .u32 0) (aX (eM base (fQ base (e+2) (R/base^j) V q) V 0)) (by rw[MP];rfl),.code 4 _ _ _ _ _ hbk,.wQ f205 152 0 j (e+3) j (e+2) o_ k_,.ld f205 153 176 0 (j+(e+2)) (.row (al (c7 base L (j+(e+2)) (nG j (e+2) R V q) (fR j (e+2) R V q))) 176 1) (aX (fQ base (e+2) (R/base^j) V q/base^(e+2)%base)) rfl (by rw[fG];exact iS) k_,.wr 155 .u32 (((fQ base (e+2) (R/base^j) V q/base^(e+2)%base:Nat):Int)+((eM base (fQ base (e+2) (R/base^j) V q) V (e+2):Nat):Int)) (((fQ base (e+2) (R/base^j) V q+V)%base^(e+2+1)/base^(e+2)%base:Nat):Int)
    (by rw[<-JT,<-vC,nC];unfold base;omega),.wQ f205 156 0 j (e+3) j (e+2) o_ k_,
   .st f205 100156 176 0 (j+(e+2)) (.row (al (c7 base L (j+(e+2)) (nG j (e+2) R V q) (fR j (e+2) R V q))) 176 1) (aX ((fQ base (e+2) (R/base^j) V q+V)%base^(e+2+1)/base^(e+2)%base)) (.row (al (ae base L (nG j (e+2) R V q))) 176 1) rfl bL rfl k_,
   .wr 158 .u32 ((q-1:Nat):Int) ((q-1:Nat):Int) (by rw[nC];unfold base at hq;omega)]) tt e3 k_
 ·rw[ao hb]at kY;obtain⟨e1,e2⟩:=ZX (B:=base) (m:=e+2) d_ h.hV hU hle hb;have e3:fR j (e+2) R V q=fZ base j R (R/base^j%V):=by unfold fR;rw[e2]
  exact key q (fR j (e+2) R V q) (aAd h hq nu uG [.rw 126 (.bool (((oI base (R/base^j) V q (e+3):Nat):Int)!=0)) (.bool false) (by rw[show e+3=e+2+1 from rfl,kY];rfl),.wr 158 .u32 (q:Int) (q:Int) (by rw[nC];unfold base at hq;omega)]) e1 e3 k_
end
section
variable{Bs:aa}{N:Nat}
theorem Ns{o:Oper}{y:Operand}(ho:dw o.op=some y){k n M a:Nat}{x:Obj}(hx:x.reads=true)(hc:x.cells=al (ae base M a))(hnM:n<=M)(ha:a<base^n)(h63:n<=9223372036854775807){d:Nat}(hd:nd base a=d):
  cB prog Bs o [.func (.func 175) #[] #[],sl k n] [(k,some x)] (sl k d) []:=by
 subst hd;refine jB (fi:=[]) (ca:=[]) ho k_ λι c w hm hn args' df=>?_;obtain⟨v,rfl,h1⟩:=lW df;have hk:c k=some x:=hn _ (aV ..);have hr:=oD (len:=n) hm hk hx (by rw[hc];exact fB _) (λh=>h) h1;have e:(al (ae base M a)).take n=al (ae base n a):=by unfold al;rw[<-Co,Ju hnM]
 rw[hc,l9,e]at hr;refine(Y9 hr ha h63).mono ?_
 rintro e w' ⟨rfl,hb⟩
 refine⟨ι,_,rfl,Map.le.refl _,?_,hm.call hb⟩;have jQ:=ja (B:=base) d_ ha;rcases h1.gV rfl with ⟨q1,q2,_,_,q5⟩|⟨b,oo,cap,c',q1,q2,q3,q5⟩
 ·rw[q5];have:nd base a=0:=by omega
  rw[this];exact .slcN q1
 ·rw[q5];exact .slc q1 o_ q3
theorem aAe{o:Oper}{y:Operand}(ho:dw o.op=some y){k1 a k n:Nat}{x1:Obj}(hx:pR x1 a)(hk:k<=31)(h1:nd base a<35184372088832)(l4:nd base a=n)(kn:Nat):
  cB prog Bs o [.func (.func 204) #[] #[],sl k1 n,vI k] [(k1,some x1),(kn,none)] (sl kn (n+1)) [(kn,.row (al (ae base (n+1) (a*2^k))) 176 1)]:=by
 subst l4;refine jB (fi:=[]) (ca:=[]) ho k_ λι cc w hm hn args' bd=>?_;rw[jo,je]at bd;obtain⟨va,vb,rfl,hv,iu⟩:=jx bd;rw[iu.eU rfl];refine(aIZ (Ba hm (hn _ (aV ..)) hx hv) hk h1).mono ?_
 rintro e w' ⟨v,rfl,h1,h2⟩
 obtain⟨au,q1,q2,q3⟩:=Ez hm h2 (k:=kn) (hn _ (bF _ (aV ..))) h1 (fB _);exact⟨au,v,rfl,q1,q3,q2⟩
def aY.part{P:Program}{B:aa}(fn:Func)(key k n l h s m off:Nat)(yu:l*s=off)(hh:h<=n)(hm:l+m=h)(h0:0<m)(ho:rJ P (av fn key)=some (true,true,s)):aY P B N:=
 .step key (av fn key) [sl k n,vI l,vI h] [] (.slice (some ⟨k,off,some 7⟩) m l) [] (by
  subst yu;have:=GC (B:=B) ho (k:=k) (off:=0) (n:=n) (cc:=0) (l:=l) (h:=h) n_ n_ o_ hh (.inl o_);have e1:h-l=m:=by omega
  rw[e1,jY,jY]at this;exact this)
end
structure DV(e L A V:Nat):Prop where
 hV:V<base^(e+2)
 top:base<=2*(V/base^(e+1))
 hL:e+2+1<=L
 hA:A<V*base^(L-(e+2))
 h63:L<35184372088832
theorem DV.pos{e L A V:Nat}(h:DV e L A V):0<V:=by
 rcases ob V with e1|e1
 ·have:=h.hA;rw[e1,lC]at this;omega
 ·exact e1
theorem DV.dg{e L A V j:Nat}(h:DV e L A V)(hj:j+(e+2)+1<=L):
  DG j e L (A%(V*base^(j+1))) V (A%(V*base^(j+1))/base^j/base^(e+1)) (V/base^(e+1)) (V/base^e%base) (A%(V*base^(j+1))/base^j/base^e%base) where
 ds:={ hB:=by decide,hU:=Z1 d_ h.pos A j,hT:=rfl,hu:=rfl,ky:=rfl,iu:=rfl,top:=h.top,CN:=by have:=h.hV;rw[iv (cG d_),cP,<-dx];exact this }
 hL:=hj
 hV:=h.hV
 h63:=h.h63
section
variable{Bs:aa}{e L A V M:Nat}
def Hb(e L p j:Nat):aW:=[(13,dh j),(12,sl 4 p),(10,sl 3 L),(9,sl 2 (e+2)),(11,vI (e+2))]
def Bh(L A V M p j:Nat):aH:=[(3,.row (al (ae base L (A%(V*base^j)))) 176 1),(4,.row (al (gv base p j (A/V))) 176 1),(2,.row (al (ae base M V)) 176 1)]
theorem aJf(h:DV e L A V)(hM:e+2<=M){p j:Nat}(hp:p+(e+2)=L)(hj:j<p):
  ag prog Bs 110 (aF (af f173 0)) (Hb e L p (j+1)) (Bh L A V M p (j+1)) 5 ⟨.normal,Hb e L p j,Bh L A V M p j,5⟩:=by
 have h63:=h.h63;have hdg:=h.dg (j:=j) o_;have hr:=ZZ (B:=base) d_ A V j;have hq:=Z0 (B:=base) A V j;have bL:eW prog 176 (al (gv base p (j+1) (A/V))) j (aX (A/V/base^j%base))=some (al (gv base p j (A/V))):=by rw[yK _ _ _ (by simp[al,MT];exact hj),yL,MV hj rfl]
 have CT:(al (ae base M V)).take (e+2)=al (ae base (e+2) V):=by unfold al;rw[<-Co,Ju hM]
 have hw:cB prog Bs (av f173 76) [.func (.func 205) #[] #[],.slice (some ⟨3,j,some 7⟩) (e+3) j,sl 2 (e+2)] [(3,some (.row (al (ae base L (A%(V*base^(j+1))))) 176 1)),(2,some (.row (al (ae base M V)) 176 1))]
   (aX (A/V/base^j%base)) [(3,.row (al (ae base L (A%(V*base^j)))) 176 1)]:=by
  refine aID (x:=.func 205) (SA:=e+2) k_ k_ d_ o_ (fB _) (fB _) rfl rfl (fB _) o_ λw g cap cur c' v2 hg lq mC jy bH hc hv aU=>?_;have hv:cK w v2 (e+2) ((al (ae base M V)).take (e+2)):=hv;rw[CT]at hv;have:=aJe hdg hg lq mC jy bH hc hv aU;rw[hq,hr]at this;exact this
 exact aA [.rw 62 (dh (j+1)) (vI j) (dX j),.ge 63 j 0 true s_,.rw 67 (dh (j+1)) (vI j) (dX j),.rw 69 (dh (j+1)) (vI j) (dX j),.rw 70 (dh (j+1)) (vI j) (dX j),.sum 72 j (e+2) (j+(e+2)) rfl o_,.sum 73 (j+(e+2)) 1 (j+(e+3)) rfl o_,.part f173 74 3 L j (j+(e+3)) 1 (e+3) j (fX j) o_ rfl o_ k_,.step 76 _ _ _ _ _ hw,.ix f173 77 4 p j hj k_,.st f173 100077 176 4 j (.row (al (gv base p (j+1) (A/V))) 176 1) (aX (A/V/base^j%base)) (.row (al (gv base p j (A/V))) 176 1) rfl bL rfl k_,.rw 64 (dh (j+1)) (vI j) (dX j),.wr 65 .i64 ((j:Int)-1) ((j:Int)-1) (oH o_)]
theorem aJg(h:DV e L A V)(hM:e+2<=M){p:Nat}(hp:p+(e+2)=L):
  ag prog Bs 110 (.block 0 (af f173 0)) (Hb e L p p) (Bh L A V M p p) 5 ⟨.normal,Hb e L p 0,Bh L A V M p 0,5⟩:=by
 have:=cd (P:=prog) (B:=Bs) (N:=110) (b:=aF (af f173 0)) (next:=5) (r:=⟨.exit 0,Hb e L p 0,Bh L A V M p 0,5⟩) p (λi=>Hb e L p (p-i)) (λi=>Bh L A V M p (p-i)) (λi t _=>jN (l:=Bh L A V M p (p-i)) (m:=Bh L A V M p (p-0)) rfl t)
  (λi hi=>by
   have e1:p-i=(p-(i+1))+1:=by omega
   simp only[e1];exact aJf h hM hp o_)
  (by simp only[vA];exact aA [.rw 63 (.bool (decide (((0:Nat):Int)-1>=0))) (.bool false) rfl]) n_
 exact bT (id:=0) this
section
variable{m X k p:Nat}
def Hc(m L k i:Nat):aW:=[(83,vI i),(82,vI m),(14,sl 3 m),(10,sl 3 L),(8,vI k)]
def yV(L X k i:Nat):aH:=[(3,.row (al (c7 base L i (X/2^k) X)) 176 1)]
theorem aJh{i:Nat}(hi:i<m)(hmL:m+1<=L)(hk:k<=31)(h63:L<35184372088832):
  ag prog Bs 110 (aF (af f173 2)) (Hc m L k i) (yV L X k i) 5 ⟨.normal,Hc m L k (i+1),yV L X k (i+1),5⟩:=by
 have vi:(al (c7 base L i (X/2^k) X))[i+1]?=some (aX (X/base^(i+1)%base)):=G9 o_ o_;have qp:(al (c7 base L i (X/2^k) X))[i]?=some (aX (X/base^i%base)):=G9 o_ o_;have hd:=Z2 (B:=base) (k:=k) (X:=X) (i:=i) d_ ⟨2^(32-k),by rw[<-ev,show k+(32-k)=32 by omega]⟩;have bL:eW prog 176 (al (c7 base L i (X/2^k) X)) i (aX (X/2^k/base^i%base))=some (al (c7 base L (i+1) (X/2^k) X)):=JS o_ rfl;have hx:X/base^(i+1)%base<base:=cE _ d_;have hy:X/base^i%base<base:=cE _ d_;generalize X/base^(i+1)%base=x at *;generalize X/base^i%base=y at *;have hb:(x*base+y)/2^k<18446744073709551616:=eL (tj _ _) (by unfold base at *;omega);have kW:=SM hx hy;have hs:((x*base+y:Nat):Int).fdiv (2^(min k IntKind.u64.bits))=(((x*base+y)/2^k:Nat):Int):=by rw[show min k IntKind.u64.bits=k from nX (by show k<=64;omega),rK _ (GZ d_),ti,G1];rfl
 generalize (x*base+y)/2^k=z at *;exact aA [.lt 84 i m true (by simp[hi]),.sum 90 i 1 (i+1) rfl o_,.ix f173 91 3 L (i+1) o_ k_,.ld f173 92 176 3 (i+1) (.row (al (c7 base L i (X/2^k) X)) 176 1) (aX x) rfl (by rw[fG];exact vi) k_,.wr 93 .u64 (x:Int) (x:Int) (qC (mf hx d_)),.wr 94 .u64 ((x:Int)*2^32) ((x*base:Nat):Int) (SL hx),.ix f173 97 3 L i o_ k_,.ld f173 98 176 3 i (.row (al (c7 base L i (X/2^k) X)) 176 1) (aX y) rfl (by rw[fG];exact qp) k_,.wr 99 .u64 (y:Int) (y:Int) (qC (mf hy d_)),.quo 100 .u64 _ ((x*base+y:Nat):Int) kW,.shr f173 102 .u64 ((x*base+y:Nat):Int) (z:Int) k hs k_,.wr 103 .u32 (z:Int) ((X/2^k/base^i%base:Nat):Int) (by rw[nC,<-hd];unfold base;omega),.ix f173 104 3 m i hi k_,.st f173 100104 176 3 i (.row (al (c7 base L i (X/2^k) X)) 176 1) (aX (X/2^k/base^i%base)) (.row (al (c7 base L (i+1) (X/2^k) X)) 176 1) rfl bL rfl k_,.sum 105 i 1 (i+1) rfl o_]
theorem aJi(hX:X<base^m)(hmL:m+1<=L)(hk:k<=31)(h63:L<35184372088832):
  ag prog Bs 110 (.block 2 (af f173 2)) (Hc m L k 0) [(3,.row (al (ae base L X)) 176 1)] 5 ⟨.normal,Hc m L k m,[(3,.row (al (ae base L (X/2^k))) 176 1)],5⟩:=by
 have e0:yV L X k 0=[(3,.row (al (ae base L X)) 176 1)]:=by unfold yV c7 ae;simp
 have e1:yV L X k m=[(3,.row (al (ae base L (X/2^k))) 176 1)]:=by unfold yV;rw[EU d_ hX (eL (tj _ _) hX)]
 rw[<-e0,<-e1];exact bT (id:=2) (cd (b:=aF (af f173 2)) (r:=⟨.exit 2,Hc m L k m,yV L X k m,5⟩) m (Hc m L k) (yV L X k) (λi t _=>jN (l:=yV L X k i) (m:=yV L X k 0) rfl t)
  (λi hi=>aJh hi hmL hk h63) (aA [.lt 84 m m false s_]) n_)
end
end
section
variable{Bs:aa}{N:Nat}
theorem aJj{o:Oper}{y:Operand}(ho:dw o.op=some y){k1 a d n:Nat}{x1:Obj}(hx:pR x1 a)(hd:0<d)(mK:d<base)(h1:nd base a<35184372088832)(l4:nd base a=n)(kn:Nat):
  cB prog Bs o [.func (.func 202) #[] #[],sl k1 n,aX d] [(k1,some x1),(kn,none)] (.tuple #[sl kn (nd base (a/d)),aX (a%d)]) [(kn,oJ (a/d))]:=by
 subst l4;refine jB (fi:=[]) (ca:=[]) ho k_ λι cc w hm hn args' bd=>?_;rw[jo,je]at bd;obtain⟨va,vb,rfl,hv,iu⟩:=jx bd;rw[iu.eU rfl];refine(aIa (Ba hm (hn _ (aV ..)) hx hv) hd mK h1).mono ?_
 rintro e w' ⟨v,rfl,h1,h2⟩
 obtain⟨au,q1,q2,q3⟩:=Ez hm h2 (k:=kn) (hn _ (bF _ (aV ..))) h1 (fB _);exact⟨au,_,rfl,q1,.tup (.cons q3 (.cons (.same rfl) .nil)),q2⟩
end
theorem aAf{a:Nat}(h:a<base):ae base 1 a=[a]:=by simp[ae,dK h]
theorem SS{w:World}{va vb:Value}{a b:Nat}(fY:iw w va a)(kX:iw w vb b)(b9:a<b)(h1:nd base a<35184372088832)(h2:nd base b<35184372088832):
  Calls prog 173 #[va,vb] w λe w'=>e=.returned (.tuple #[.slice none 0 0,va])/\Below w.heap.size w w':=by
 have hl:∀ s∈[cA.row va (nd base a) (al (ae base (nd base a) a)),cA.row vb (nd base b) (al (ae base (nd base b) b))],s.OK w:=by
  intro s hs;simp at hs;rcases hs with rfl|rfl
  ·exact⟨fY,fB _⟩
  ·exact⟨kX,fB _⟩
 have hc:nE a b<0:=by have:=@JJ a b;omega
 refine lD (Q:=λe w'=>e=.returned (.tuple #[.slice none 0 0,va])/\Below w.heap.size w w') mixed func173 [cA.row va (nd base a) (al (ae base (nd base a) a)),cA.row vb (nd base b) (al (ae base (nd base b) b))] hl 100 (N:=110) k_
  (rs:=[(.step 18 (av f173 18) _ _ _ _ (Nn (y:=.func 201) (k1:=0) (k2:=1) k_ k_ (xd a) (xd b) rfl λw va vb ha hb=>Na ha hb h1 h2):aY prog (aa.at w) 110),.rw 19 (.bool (decide (nE a b<0))) (.bool true) (by rw[aC hc])])
  (v:=.tuple #[.slice none 0 0,sl 0 (nd base a)]) (ms:=[]) k_ λau bY v' w' jX bo _ df=>⟨?_,bo.base⟩
 obtain⟨cM,rfl,bd⟩:=jX.ug;obtain⟨p,q,hp,h3,h4⟩:=jx bd;cases df with
 |cons h5 _=>
 have:q=va:=Jo h4 h5;have e:cM=#[p,q]:=vm.1 (by rw[hp]);rw[e,h3.eU rfl,this]
theorem SV{w:World}{va vb:Value}{a b:Nat}(fY:iw w va a)(kX:iw w vb b)(b9:b<=a)(kG:b≠0)(hb:b<base)(h1:nd base a<35184372088832):
  Calls prog 173 #[va,vb] w λe w'=>∃ vq vr,e=.returned (.tuple #[vq,vr])/\jD w w' vq (a/b)/\jD w w' vr (a%b)/\Below w.heap.size w w':=by
 have cX:nd base b=1:=by have h3:=ja (B:=base) (n:=1) d_ (by rw[CF];exact hb);have h4:=uB (B:=base) d_ kG;omega
 have EX:cK w vb 1 (al (ae base 1 b)):=by have:=kX;unfold iw at this;rw[cX]at this;exact this
 have hl:∀ s∈[cA.row va (nd base a) (al (ae base (nd base a) a)),cA.row vb 1 (al (ae base 1 b))],s.OK w:=by
  intro s hs;simp at hs;rcases hs with rfl|rfl
  ·exact⟨fY,fB _⟩
  ·exact⟨EX,fB _⟩
 have hc:¬nE a b<0:=by have:=@JJ a b;omega
 have uH:pR (.view (al (ae base 1 b))) b:=by have:=xd b;rw[cX]at this;exact this
 have hr:a%b<base:=mf (cE _ (te kG)) hb;have SX:cB prog (aa.at w) (av f173 18) [.func (.func 201) #[] #[],sl 0 (nd base a),sl 1 1] [(0,some (.view (al (ae base (nd base a) a)))),(1,some (.view (al (ae base 1 b))))] (.int .i64 (nE a b)) []:=by have:=Nn (Bs:=aa.at w) (o:=av f173 18) (f:=201) (y:=.func 201) (k1:=0) (k2:=1) (res:=.int .i64 (nE a b)) k_ k_ (xd a) uH rfl λw va vb ha hb=>Na ha hb h1 o_;rw[cX]at this;exact this
 refine lD (Q:=λe w'=>∃ vq vr,e=.returned (.tuple #[vq,vr])/\jD w w' vq (a/b)/\jD w w' vr (a%b)/\Below w.heap.size w w') mixed func173 [cA.row va (nd base a) (al (ae base (nd base a) a)),cA.row vb 1 (al (ae base 1 b))] hl 100 (N:=110) k_
  (rs:=[(.step 18 (av f173 18) _ _ _ _ SX:aY prog (aa.at w) 110),.rw 19 (.bool (decide (nE a b<0))) (.bool false) (by rw[aN hc]),.ld f173 28 176 1 0 (.view (al (ae base 1 b))) (aX b) rfl (by rw[fG,aAf hb];rfl) k_,.step 29 (av f173 29) _ _ _ _ (aJj (y:=.func 202) (k1:=0) k_ (xd a) (te kG) hb h1 rfl 2),.bs f173 34 3 1 176 1 [0] (aX 0) [aX (a%b)] #[aX (a%b)] (.row (al (ae base 1 (a%b))) 176 1) (by rw[aAf hr];rfl) (λv hv=>by simp at hv;subst hv;rfl) (λv hv=>by simp at hv;subst hv;rfl) k_ rfl o_ o_ k_,.step 35 (av f173 35) _ _ _ _ (Ns (y:=.func 175) (k:=3) (n:=1) (M:=1) (a:=a%b) (x:=.row (al (ae base 1 (a%b))) 176 1) k_ rfl rfl (bj 1) (by rw[CF];exact hr) o_ rfl)])
  (v:=.tuple #[sl 2 (nd base (a/b)),sl 3 (nd base (a%b))]) (ms:=[(2,oJ (a/b)),(3,.row (al (ae base 1 (a%b))) 176 1)]) k_ λau bY v' w' jX bo dy _=>?_
 obtain⟨cM,rfl,bd⟩:=jX.ug;obtain⟨p,q,hp,h3,h4⟩:=jx bd;have e:cM=#[p,q]:=vm.1 (by rw[hp]);subst e;exact⟨p,q,rfl,wW bo (dy _ (aV ..)) (dS d_ _) h3,wW bo (dy _ (bF _ (aV ..))) (by rw[CF];exact hr) h4,bo.base⟩
theorem norm{a b e:Nat}(b9:b<=a)(hb:nd base b=e+2)(h1:nd base a<35184372088831):
  ∃ k,k<=31/\32-bl (b/base^(e+1)%base)=k/\DV e (nd base a+1) (a*2^k) (b*2^k)/\nd base (b*2^k)=e+2/\b*2^k<base^(e+3):=by
 have ak:=dS (B:=base) d_ b;rw[hb]at ak;have dR:base^(e+1)<=b:=Y0 d_ o_;have hp:0<base^(e+1):=cG d_;have hd:b/base^(e+1)%base=b/base^(e+1):=EA ak;obtain⟨d,lH⟩:∃ d,d=b/base^(e+1):=⟨_,rfl⟩;have mK:d<base:=by rw[lH,<-hd];exact cE _ d_
 have CU:d≠0:=by have:=Np dR hp;omega
 obtain⟨t,t1,t2,t3⟩:=aI0 CU;have ht:t<=31:=by
  rcases eF t 32 with h|h
  ·omega
  ·have:=cZ (show 0<2 by decide) h;have e32:(2:Nat)^32=base:=by decide
   omega
 have fE:0<2^(31-t):=cG d_;have hV1:d*2^(31-t)<=b*2^(31-t)/base^(e+1):=by rw[CO hp,Bb];refine e6 _ ?_;rw[lH];exact CP _ _
 have xe:base<=2*(b*2^(31-t)/base^(e+1)):=by
  have h3:2^t*2^(31-t)<=d*2^(31-t):=e6 _ t2;rw[<-ev,show t+(31-t)=31 by omega]at h3;have e31:base=2*2^31:=by decide
  omega
 have xb:b*2^(31-t)<base^(e+2):=by
  have h3:b<(d+1)*base^(e+1):=by rw[lH];exact(iv hp).1 (A9 _)
  have h4:(d+1)*2^(31-t)<=base:=by have:(d+1)*2^(31-t)<=2^(t+1)*2^(31-t):=e6 _ t3;rw[<-ev,show t+1+(31-t)=32 by omega]at this;exact this
  have h5:b*2^(31-t)<(d+1)*base^(e+1)*2^(31-t):=A8 h3 fE;rw[Bb]at h5;have h6:(d+1)*2^(31-t)*base^(e+1)<=base*base^(e+1):=e6 _ h4;rw[cP base,<-dx]at h6;exact cv h5 h6
 have EY:e+2<=nd base a:=by rw[<-hb];exact iJ d_ b9
 refine⟨31-t,by omega,by rw[hd,<-lH,t1];omega,{ hV:=xb,top:=xe,hL:=by omega,hA:=?_,h63:=by omega },?_,cv xb (cZ d_ o_)⟩
 ·have ha:=dS (B:=base) d_ a;have h3:a*2^(31-t)<base^nd base a*2^(31-t):=A8 ha fE;have h4:2^(31-t)*base^(e+1)<=b*2^(31-t):=by rw[cP];exact e6 _ dR
  have h5:2^(31-t)*base^(e+1)*base^(nd base a+1-(e+2))<=b*2^(31-t)*base^(nd base a+1-(e+2)):=e6 _ h4;rw[fF,<-ev,show e+1+(nd base a+1-(e+2))=nd base a by omega,cP]at h5;exact cv h3 h5
 ·refine ZH (ja d_ xb) ?_;rw[<-hb];exact iJ d_ (EK _ fE)
theorem SY{w:World}{va vb:Value}{a b e:Nat}(fY:iw w va a)(kX:iw w vb b)(b9:b<=a)(hb:nd base b=e+2)(h1:nd base a<35184372088831):
  Calls prog 173 #[va,vb] w λe w'=>∃ vq vr,e=.returned (.tuple #[vq,vr])/\jD w w' vq (a/b)/\jD w w' vr (a%b)/\Below w.heap.size w w':=by
 obtain⟨k,hk,hlz,pT,Nt,hV3⟩:=norm b9 hb h1;have pL:nd base b<35184372088831:=eL (iJ d_ b9) h1;have ak:=dS (B:=base) d_ b;have aUB:=dS (B:=base) d_ a;rw[hb]at ak;have wI:0<2^k:=cG d_;have JU:0<b:=by
  rcases ob b with h|h
  ·rw[h,o7]at hb;omega
  ·exact h
 have EX:cK w vb (e+2) (al (ae base (e+2) b)):=by have:=kX;unfold iw at this;rw[hb]at this;exact this
 have hl:∀ s∈[cA.row va (nd base a) (al (ae base (nd base a) a)),cA.row vb (e+2) (al (ae base (e+2) b))],s.OK w:=by
  intro s hs;simp at hs;rcases hs with rfl|rfl
  ·exact⟨fY,fB _⟩
  ·exact⟨EX,fB _⟩
 have hc:¬nE a b<0:=by have:=@JJ a b;omega
 have uH:pR (.view (al (ae base (e+2) b))) b:=by have:=xd b;rw[hb]at this;exact this
 have SX:cB prog (aa.at w) (av f173 18) [.func (.func 201) #[] #[],sl 0 (nd base a),sl 1 (e+2)] [(0,some (.view (al (ae base (nd base a) a)))),(1,some (.view (al (ae base (e+2) b))))] (.int .i64 (nE a b)) []:=by have:=Nn (Bs:=aa.at w) (o:=av f173 18) (f:=201) (y:=.func 201) (k1:=0) (k2:=1) (res:=.int .i64 (nE a b)) k_ k_ (xd a) uH rfl λw va vb ha hb=>Na ha hb o_ o_;rw[hb]at this;exact this
 have EY:e+2<=nd base a:=by rw[<-hb];exact iJ d_ b9
 have aUC:nd base a=nd base a:=rfl;have lz:=aI4 (x:=b/base^(e+1)%base) (cE _ d_);rw[hlz]at lz;have gp:2<=e+2:=by omega
 obtain⟨p,hp⟩:∃ p,p+(e+2)=nd base a+1:=⟨nd base a+1-(e+2),by omega⟩;have Nu:=aJg (Bs:=aa.at w) (M:=e+3) pT o_ hp;have hA:=pT.hA;rw[show nd base a+1-(e+2)=p by omega]at hA;have SZ:a*2^k%(b*2^k*base^p)=a*2^k:=dK hA;have S0:a*2^k%(b*2^k*base^0)=a%b*2^k:=by rw[rL,fX,Z4]
 have hQ:a*2^k/(b*2^k)=a/b:=Z5 _ _ wI;have aJk:a%b*2^k<base^(e+2):=by refine cv (A8 (cE _ JU) wI) (iR pT.hV)
 have yz:=aJi (Bs:=aa.at w) (L:=nd base a+1) (k:=k) aJk o_ hk o_;rw[R5 _ wI]at yz;have JV:a/b<base^p:=by rw[<-hQ,iv pT.pos,cP (base^p)];exact hA
 have Hd:a%b<base^(e+2):=mf (cE _ JU) ak;unfold Bh at Nu;rw[SZ,S0,hQ,MU,Jy]at Nu;generalize hn:nd base a=n at *
 refine lD (Q:=λe w'=>∃ vq vr,e=.returned (.tuple #[vq,vr])/\jD w w' vq (a/b)/\jD w w' vr (a%b)/\Below w.heap.size w w') mixed func173 [cA.row va n (al (ae base n a)),cA.row vb (e+2) (al (ae base (e+2) b))] hl 100 (N:=110) k_
  (rs:=[(.step 18 (av f173 18) _ _ _ _ SX:aY prog (aa.at w) 110),.rw 19 (.bool (decide (nE a b<0))) (.bool false) (by rw[aN hc]),.fk 23 (e+2) 1 false s_,.eX 39 (e+2) 1 (e+1) rfl o_,.ix f173 40 1 (e+2) (e+1) o_ k_,.ld f173 41 176 1 (e+1) (.view (al (ae base (e+2) b))) (aX (b/base^(e+1)%base)) rfl (by rw[fG];exact DG.vd o_) k_,lz.at 42,.step 45 (av f173 45) _ _ _ _ (aAe (y:=.func 204) (k1:=1) k_ uH hk o_ hb 2),.step 46 (av f173 46) _ _ _ _ (Ns (y:=.func 175) (k:=2) (n:=e+3) (M:=e+3) (a:=b*2^k) (x:=.row (al (ae base (e+3) (b*2^k))) 176 1) k_ rfl rfl (bj _) hV3 o_ Nt),.step 49 (av f173 49) _ _ _ _ (aAe (y:=.func 204) (k1:=0) (x1:=.view (al (ae base n a))) k_ (by have:=xd a;rw[hn]at this;exact this) hk o_ hn 3),.eX 55 (n+1) (e+2) p o_ o_,.pM f173 56 4 p 176 4 (aX 0) (al (List.replicate p 0)) (EE _) rfl rfl o_ (by simp[maxLen];omega) k_,.eX 60 (n+1) (e+2) p o_ o_,.wr 61 .i64 ((p:Int)-1) ((p:Int)-1) (oH o_),.code 0 _ _ _ _ _ Nu,.upto f173 80 3 (n+1) (e+2) 1 o_ k_,.code 2 _ _ _ _ _ yz,.step 107 (av f173 107) _ _ _ _ (Ns (y:=.func 175) (k:=4) (n:=p) (M:=p) (a:=a/b) (x:=.row (al (ae base p (a/b))) 176 1) k_ rfl rfl (bj _) JV o_ rfl),.step 109 (av f173 109) _ _ _ _ (Ns (y:=.func 175) (k:=3) (n:=e+2) (M:=n+1) (a:=a%b) (x:=.row (al (ae base (n+1) (a%b))) 176 1) k_ rfl rfl o_ Hd o_ rfl)])
  (v:=.tuple #[sl 4 (nd base (a/b)),sl 3 (nd base (a%b))]) (ms:=[(4,.row (al (ae base p (a/b))) 176 1),(3,.row (al (ae base (n+1) (a%b))) 176 1)]) k_ λau bY v' w' jX bo dy _=>?_
 obtain⟨cM,rfl,bd⟩:=jX.ug;obtain⟨p,q,hp,h3,h4⟩:=jx bd;have e:cM=#[p,q]:=vm.1 (by rw[hp]);subst e;exact⟨p,q,rfl,wW bo (dy _ (aV ..)) JV h3,wW bo (dy _ (bF _ (aV ..))) (cv Hd (cZ d_ o_)) h4,bo.base⟩
def sv(neg:Bool)(m:Nat):Value:=.agg #[.bool neg,pb m]
def sg(neg:Bool)(m:Nat):Int:=if neg then -(m:Int)else m
def bM(z:Int):Value:=sv (decide (z<0)) z.natAbs
theorem uI(neg:Bool)(m:Nat):EV neg m=bM (sg neg m):=by
 cases neg
 ·have e:decide ((m:Int)<0)=false:=by simp
  show Value.agg #[.bool false,pb m]=Value.agg #[.bool (decide ((m:Int)<0)),pb (m:Int).natAbs];rw[e];rfl
 ·have e:(decide (-(m:Int)<0))=decide (m≠0):=by rw[rI];omega
  show Value.agg #[.bool (decide (m≠0)),pb m]=Value.agg #[.bool (decide (-(m:Int)<0)),pb (-(m:Int)).natAbs];rw[e,JW];rfl
theorem rS{C:Int->Value->Prop}(h0:∀ m:Nat,C m (sv false m))(h1:∀ m:Nat,m≠0->C (-(m:Int)) (sv true m))(z:Int):C z (bM z):=by
 by_cases hz:z<0
 ·obtain⟨m,rfl⟩:∃ m:Nat,z=-(m:Int):=⟨z.natAbs,by omega⟩;have:=h1 m o_;have e:bM (-(m:Int))=sv true m:=by unfold bM;rw[aC hz,JW];rfl
  rw[e];exact this
 ·obtain⟨m,rfl⟩:∃ m:Nat,z=(m:Int):=⟨z.natAbs,by omega⟩;have e:bM (m:Int)=sv false m:=by unfold bM;rw[aN hz];rfl
  rw[e];exact h0 m
theorem xf{m n:Nat}(h:m<2^n):nd base m<=n:=ja d_ (cv h (aAg d_ n))
theorem vD{m n:Nat}(h:m<2^n):nd 256 m<=n:=ja d_ (cv h (aAg d_ n))
theorem aAh{w:World}{m n:Nat}(h:m<2^n)(hn:n<=1099511627776):Calls prog 172 #[pb m] w λe w'=>∃ v,e=.returned v/\jD w w' v m/\Below w.heap.size w w':=by have e:kk (BA (cg m))=m:=EP m;have:=aH2 (w:=w) (s:=BA (cg m)) (by rw[oG,tn];have:=vD h;omega);rw[e]at this;exact this
section
variable{Bs:aa}{N:Nat}
def aY.of(fn:Func)(key k m n:Nat)(h:m<2^n)(hn:n<=1099511627776){y:Operand}(ho:dw (av fn key).op=some y):aY prog Bs N:=
 .step key (av fn key) [.func (.func 172) #[] #[],pb m] [(k,none)] (sl k (nd base m)) [(k,oJ m)] (Nl ho k_ (λv hv=>by simp at hv;subst hv;rfl) (λ_=>aAh h hn) k)
def aY.add(fn:Func)(key k k1 k2 a b:Nat)(h1:nd base a<35184372088832)(h2:nd base b<35184372088832){y:Operand}(ho:dw (av fn key).op=some y):aY prog Bs N:=
 .step key (av fn key) _ _ _ _ (SF (f:=209) (k1:=k1) (k2:=k2) ho k_ (nF a) (nF b) (λ_ _ _ ha hb=>aHA ha hb h1 h2) k)
def aY.less(fn:Func)(key k k1 k2 a b:Nat)(b9:b<=a)(h1:nd base a<35184372088832){y:Operand}(ho:dw (av fn key).op=some y):aY prog Bs N:=
 .step key (av fn key) _ _ _ _ (SF (f:=210) (k1:=k1) (k2:=k2) ho k_ (nF a) (nF b) (λ_ _ _ ha hb=>aHF ha hb b9 h1) k)
def aY.mul(fn:Func)(key k k1 k2 a b:Nat)(h1:nd base a<1099511627777)(h2:nd base b<1099511627777){y:Operand}(ho:dw (av fn key).op=some y):aY prog Bs N:=
 .step key (av fn key) _ _ _ _ (SF (f:=217) (k1:=k1) (k2:=k2) ho k_ (nF a) (nF b) (λ_ _ _ ha hb=>aHS ha hb o_) k)
def aY.cmp(fn:Func)(key k1 k2 a b:Nat)(h1:nd base a<35184372088832)(h2:nd base b<35184372088832){y:Operand}(ho:dw (av fn key).op=some y):aY prog Bs N:=
 .step key (av fn key) _ _ _ _ (Nn (f:=201) (k1:=k1) (k2:=k2) (res:=.int .i64 (nE a b)) ho k_ (nF a) (nF b) rfl λ_ _ _ ha hb=>Na ha hb h1 h2)
def aY.tu(fn:Func)(key k a:Nat)(x:Obj)(hx:pR x a)(neg:Bool)(h1:nd base a<35184372088832){y:Operand}(ho:dw (av fn key).op=some y):aY prog Bs N:=
 .step key (av fn key) _ _ _ _ (G4 (f:=149) (k1:=k) (post:=[.bool neg]) (res:=EV neg a) ho k_ hx (λv hv=>by simp at hv;subst hv;rfl) rfl λ_ _ h=>Z3 h h1)
end
def xg(neg:Bool):List UInt8->Bool
 |[]=>!neg
 |c::_=>decide (c≠0)
theorem yW(neg:Bool)(l:List UInt8):aE prog 107 [.agg #[.bool neg,.string (BA l)]] (.bool (xg neg l)):=by
 cases l with
 |nil=>exact aP func107 (λ_=>[.rw 5 (.bool ((BA []).toList==(ByteArray.mk #[]).toList)) (.bool true) (by rw[EH];rfl)])
 |cons c l=>
  have e:(((c.toNat:Nat):Int)!=0)=decide (c≠0):=by
   by_cases h:c=0
   ·subst h;rfl
   ·rw[aC h,uC];intro h2;exact h (M8.1 (by simpa using h2))
  exact aP func107 (λ_=>[.rw 5 (.bool ((BA (c::l)).toList==(ByteArray.mk #[]).toList)) (.bool false) (by rw[EH];rfl),.sx f107 11 (BA (c::l)) 0 c (by rw[JG];rfl) k_,.rw 12 (.bool (((c.toNat:Nat):Int)!=0)) (.bool (decide (c≠0))) (by rw[e])])
theorem cV(neg:Bool){m:Nat}(h:neg=true->m≠0):aE prog 107 [sv neg m] (.bool true):=by
 have:=yW neg (cg m);have e:xg neg (cg m)=true:=by
  by_cases hm:m=0
  ·subst hm;rw[CJ];cases neg
   ·rfl
   ·exact absurd rfl (h rfl)
  ·obtain⟨c,l,h1,h2⟩:=Ng hm;rw[h1];exact aC h2
 rw[e]at this;exact this
theorem j4{z:Int}(h:z.natAbs<9223372036854775808):aE prog 110 [.int .i64 z] (bM z):=by
 have jQ:nd base z.natAbs<35184372088832:=by have:=xf (m:=z.natAbs) (n:=63) o_;omega
 by_cases hz:z<0
 ·have e:=uI true z.natAbs;have e2:sg true z.natAbs=z:=by show -((z.natAbs:Nat):Int)=z;omega
  rw[e2]at e;rw[<-e];exact aP func110 (λ_=>[.rw 4 (.bool (decide (z<0))) (.bool true) (by rw[aC hz]),.wr 6 .u64 z (z+18446744073709551616) (by rw[jP];omega),.wr 7 .u64 (0-(z+18446744073709551616)) (z.natAbs:Int) (by rw[jP];omega),.step 8 (av f110 8) _ _ _ _ (Nl (y:=.func 148) (args:=[.int .u64 (z.natAbs:Int)]) k_ k_ (λv hv=>by simp at hv;subst hv;rfl) (λ_=>Sk (n:=z.natAbs) o_) 1),.tu f110 9 1 z.natAbs (oJ z.natAbs) (nF _) true jQ (y:=.func 149) k_])
 ·have e:=uI false z.natAbs;have e2:sg false z.natAbs=z:=by show((z.natAbs:Nat):Int)=z;omega
  rw[e2]at e;rw[<-e];exact aP func110 (λ_=>[.rw 4 (.bool (decide (z<0))) (.bool false) (by rw[aN hz]),.wr 11 .u64 z (z.natAbs:Int) (by rw[jP];omega),.step 12 (av f110 12) _ _ _ _ (Nl (y:=.func 148) (args:=[.int .u64 (z.natAbs:Int)]) k_ k_ (λv hv=>by simp at hv;subst hv;rfl) (λ_=>Sk (n:=z.natAbs) o_) 1),.tu f110 13 1 z.natAbs (oJ z.natAbs) (nF _) false jQ (y:=.func 149) k_])
theorem qD(z:Int):aE prog 108 [bM z] (.int .i64 z.sign):=by
 refine rS (C:=λz v=>aE prog 108 [v] (.int .i64 z.sign)) (λm=>?_) (λm hm=>?_) z
 ·by_cases h:m=0
  ·subst h;exact aP func108 (λ_=>[(cV false (m:=0) n_).at 5,.rw 10 (.bool ((BA (cg 0)).toList==(ByteArray.mk #[]).toList)) (.bool true) (by rw[qB];rfl)])
  ·have e:((m:Nat):Int).sign=1:=Bi o_;rw[e];exact aP func108 (λ_=>[(cV false (m:=m) n_).at 5,.rw 10 (.bool ((BA (cg m)).toList==(ByteArray.mk #[]).toList)) (.bool false) (by rw[qB,aN h])])
 ·have e:(-(m:Int)).sign=-1:=EZ o_;rw[e];exact aP func108 (λ_=>[(cV true (m:=m) (λ_=>hm)).at 5,.rw 10 (.bool ((BA (cg m)).toList==(ByteArray.mk #[]).toList)) (.bool false) (by rw[qB,aN hm])])
theorem oe(z:Int):aE prog 208 [bM z] (bM (-z)):=by
 refine rS (C:=λz v=>aE prog 208 [v] (bM (-z))) (λm=>?_) (λm hm=>?_) z
 ·have e:=uI true m;rw[<-show sg true m=-(m:Int)from rfl,<-e];have e:(!((BA (cg m)).toList==(ByteArray.mk #[]).toList))=decide (m≠0):=by rw[qB];simp
  exact aP func208 (λ_=>[(cV false (m:=m) n_).at 4,.rw 13 (.bool (!((BA (cg m)).toList==(ByteArray.mk #[]).toList))) (.bool (decide (m≠0))) (by rw[e])])
 ·have e:=uI false m;rw[JX,<-show sg false m=(m:Int)from rfl,<-e];exact aP func208 (λ_=>[(cV true (m:=m) (λ_=>hm)).at 4])
theorem S1{n1 n2:Bool}{m1 m2 p q:Nat}(v1:n1=true->m1≠0)(v2:n2=true->m2≠0)(h1:m1<2^p)(h2:m2<2^q)(hp:p<=1099511627776)(hq:q<=1099511627776):
  aE prog 180 [sv n1 m1,sv n2 m2] (bM (sg n1 m1+sg n2 m2)):=by
 have b1:=xf h1;have b2:=xf h2;have same:∀ n:Bool,n1=n->n2=n->aE prog 180 [sv n1 m1,sv n2 m2] (bM (sg n1 m1+sg n2 m2)):=by
  rintro n rfl rfl
  have bs:nd base (m1+m2)<35184372088832:=by
   have:=xf (m:=m1+m2) (n:=p+q+1) (by have e1:=cZ (show 0<2 by decide) (show p<=p+q by omega);have e2:=cZ (show 0<2 by decide) (show q<=p+q by omega);rw[dx];omega)
   omega
  have e:sg n2 m1+sg n2 m2=sg n2 (m1+m2):=by cases n2<;>simp[sg]<;>omega
  rw[e,<-uI];cases n2
  ·exact aP func180 (λ_=>[(cV _ v1).at 8,(cV _ v2).at 12,.of f180 18 3 m1 p h1 hp (y:=.func 172) k_,.of f180 21 4 m2 q h2 hq (y:=.func 172) k_,.add f180 30 5 3 4 m1 m2 o_ o_ (y:=.func 209) k_,.tu f180 33 5 (m1+m2) (oJ (m1+m2)) (nF _) false bs (y:=.func 149) k_])
  ·exact aP func180 (λ_=>[(cV _ v1).at 8,(cV _ v2).at 12,.of f180 18 3 m1 p h1 hp (y:=.func 172) k_,.of f180 21 4 m2 q h2 hq (y:=.func 172) k_,.add f180 30 5 3 4 m1 m2 o_ o_ (y:=.func 209) k_,.tu f180 33 5 (m1+m2) (oJ (m1+m2)) (nF _) true bs (y:=.func 149) k_])
 have diff:n1≠n2->aE prog 180 [sv n1 m1,sv n2 m2] (bM (sg n1 m1+sg n2 m2)):=by
  intro aU;by_cases dR:m2<=m1
  ·have bs:nd base (m1-m2)<35184372088832:=by have:=iJ (B:=base) d_ (Bj m1 m2);omega
   have e:sg n1 m1+sg n2 m2=sg n1 (m1-m2):=by cases n1<;>cases n2<;>simp[sg]at aU ⊢<;>omega
   have hc:decide (nE m1 m2>=0)=true:=aC (JJ.2 dR);rw[e,<-uI];cases n1<;>cases n2<;>first|exact absurd rfl aU|skip
   ·exact aP func180 (λ_=>[(cV _ v1).at 8,(cV _ v2).at 12,.of f180 18 3 m1 p h1 hp (y:=.func 172) k_,.of f180 21 4 m2 q h2 hq (y:=.func 172) k_,.cmp f180 37 3 4 m1 m2 o_ o_ (y:=.func 201) k_,.rw 38 (.bool (decide (nE m1 m2>=0))) (.bool true) (by rw[hc]),.less f180 41 5 3 4 m1 m2 dR o_ (y:=.func 210) k_,.tu f180 44 5 (m1-m2) (oJ (m1-m2)) (nF _) false bs (y:=.func 149) k_])
   ·exact aP func180 (λ_=>[(cV _ v1).at 8,(cV _ v2).at 12,.of f180 18 3 m1 p h1 hp (y:=.func 172) k_,.of f180 21 4 m2 q h2 hq (y:=.func 172) k_,.cmp f180 37 3 4 m1 m2 o_ o_ (y:=.func 201) k_,.rw 38 (.bool (decide (nE m1 m2>=0))) (.bool true) (by rw[hc]),.less f180 41 5 3 4 m1 m2 dR o_ (y:=.func 210) k_,.tu f180 44 5 (m1-m2) (oJ (m1-m2)) (nF _) true bs (y:=.func 149) k_])
  ·have bs:nd base (m2-m1)<35184372088832:=by have:=iJ (B:=base) d_ (Bj m2 m1);omega
   have e:sg n1 m1+sg n2 m2=sg n2 (m2-m1):=by cases n1<;>cases n2<;>simp[sg]at aU ⊢<;>omega
   have hc:decide (nE m1 m2>=0)=false:=aN (λh=>dR (JJ.1 h));rw[e,<-uI];cases n1<;>cases n2<;>first|exact absurd rfl aU|skip
   ·exact aP func180 (λ_=>[(cV _ v1).at 8,(cV _ v2).at 12,.of f180 18 3 m1 p h1 hp (y:=.func 172) k_,.of f180 21 4 m2 q h2 hq (y:=.func 172) k_,.cmp f180 37 3 4 m1 m2 o_ o_ (y:=.func 201) k_,.rw 38 (.bool (decide (nE m1 m2>=0))) (.bool false) (by rw[hc]),.less f180 47 5 4 3 m2 m1 o_ o_ (y:=.func 210) k_,.tu f180 50 5 (m2-m1) (oJ (m2-m1)) (nF _) true bs (y:=.func 149) k_])
   ·exact aP func180 (λ_=>[(cV _ v1).at 8,(cV _ v2).at 12,.of f180 18 3 m1 p h1 hp (y:=.func 172) k_,.of f180 21 4 m2 q h2 hq (y:=.func 172) k_,.cmp f180 37 3 4 m1 m2 o_ o_ (y:=.func 201) k_,.rw 38 (.bool (decide (nE m1 m2>=0))) (.bool false) (by rw[hc]),.less f180 47 5 4 3 m2 m1 o_ o_ (y:=.func 210) k_,.tu f180 50 5 (m2-m1) (oJ (m2-m1)) (nF _) false bs (y:=.func 149) k_])
 by_cases h:n1=n2
 ·exact same n2 h rfl
 ·exact diff h
theorem E0{C:Int->Int->Value->Value->Prop}(h:∀(n1 n2:Bool) (m1 m2:Nat),(n1=true->m1≠0)->(n2=true->m2≠0)->C (sg n1 m1) (sg n2 m2) (sv n1 m1) (sv n2 m2))(x y:Int):C x y (bM x) (bM y):=
 rS (C:=λx v=>C x y v (bM y)) (λm=>rS (C:=λy u=>C m y (sv false m) u) (λk=>h false false m k n_ n_) (λk hk=>h false true m k n_ (λ_=>hk)) y)
  (λm hm=>rS (C:=λy u=>C (-(m:Int)) y (sv true m) u) (λk=>h true false m k (λ_=>hm) n_) (λk hk=>h true true m k (λ_=>hm) (λ_=>hk)) y) x
theorem pU(n:Bool)(m:Nat):(sg n m).natAbs=m:=by cases n<;>simp[sg]
theorem yX{x y:Int}{p q:Nat}(h1:x.natAbs<2^p)(h2:y.natAbs<2^q)(hp:p<=1099511627776)(hq:q<=1099511627776):aE prog 180 [bM x,bM y] (bM (x+y)):=by revert h1 h2;refine E0 (C:=λx y v u=>x.natAbs<2^p->y.natAbs<2^q->aE prog 180 [v,u] (bM (x+y))) (λn1 n2 m1 m2 v1 v2 h1 h2=>?_) x y;rw[pU]at h1 h2;exact S1 v1 v2 h1 h2 hp hq
theorem lI(z:Int):aE prog 107 [bM z] (.bool true):=
 rS (C:=λ_ v=>aE prog 107 [v] (.bool true)) (λ_=>cV false n_) (λ_ hm=>cV true λ_=>hm) z
theorem E1{x y:Int}{p q:Nat}(h1:x.natAbs<2^p)(h2:y.natAbs<2^q)(hp:p<=1099511627776)(hq:q<=1099511627776):aE prog 179 [bM x,bM y] (bM (x-y)):=
 aP func179 (λ_=>[(lI x).at 6,(lI y).at 10,(oe y).at 16,(yX h1 (by rw[JW];exact h2) hp hq).at 17])
theorem S2{x y:Int}{p q:Nat}(h1:x.natAbs<2^p)(h2:y.natAbs<2^q)(hp:p<=1099511627776)(hq:q<=1099511627776):aE prog 207 [bM x,bM y] (.int .i64 (x-y).sign):=
 aP func207 (λ_=>[(E1 h1 h2 hp hq).at 7,(qD (x-y)).at 8])
theorem mN{x y:Int}{p q:Nat}(h1:x.natAbs<2^p)(h2:y.natAbs<2^q)(hp:p<=1099511627776)(hq:q<=1099511627776):aE prog 195 [bM x,bM y] (bM (x*y)):=by
 revert h1 h2;refine E0 (C:=λx y v u=>x.natAbs<2^p->y.natAbs<2^q->aE prog 195 [v,u] (bM (x*y))) (λn1 n2 m1 m2 v1 v2 h1 h2=>?_) x y;rw[pU]at h1 h2;have b1:=xf h1;have b2:=xf h2;have bs:nd base (m1*m2)<35184372088832:=by have:=xf (m:=m1*m2) (n:=p+q) (by rw[ev];exact pN h1 h2);omega
 have e:sg n1 m1*sg n2 m2=sg (n1 !=n2) (m1*m2):=by cases n1<;>cases n2<;>simp[sg,He,Hf]
 rw[e,<-uI];cases n1<;>cases n2
 ·exact aP func195 (λ_=>[(cV _ v1).at 6,(cV _ v2).at 10,.of f195 16 3 m1 p h1 hp (y:=.func 172) k_,.of f195 19 4 m2 q h2 hq (y:=.func 172) k_,.mul f195 20 5 3 4 m1 m2 o_ o_ (y:=.func 217) k_,.tu f195 26 5 (m1*m2) (oJ (m1*m2)) (nF _) false bs (y:=.func 149) k_])
 ·exact aP func195 (λ_=>[(cV _ v1).at 6,(cV _ v2).at 10,.of f195 16 3 m1 p h1 hp (y:=.func 172) k_,.of f195 19 4 m2 q h2 hq (y:=.func 172) k_,.mul f195 20 5 3 4 m1 m2 o_ o_ (y:=.func 217) k_,.tu f195 26 5 (m1*m2) (oJ (m1*m2)) (nF _) true bs (y:=.func 149) k_])
 ·exact aP func195 (λ_=>[(cV _ v1).at 6,(cV _ v2).at 10,.of f195 16 3 m1 p h1 hp (y:=.func 172) k_,.of f195 19 4 m2 q h2 hq (y:=.func 172) k_,.mul f195 20 5 3 4 m1 m2 o_ o_ (y:=.func 217) k_,.tu f195 26 5 (m1*m2) (oJ (m1*m2)) (nF _) true bs (y:=.func 149) k_])
 ·exact aP func195 (λ_=>[(cV _ v1).at 6,(cV _ v2).at 10,.of f195 16 3 m1 p h1 hp (y:=.func 172) k_,.of f195 19 4 m2 q h2 hq (y:=.func 172) k_,.mul f195 20 5 3 4 m1 m2 o_ o_ (y:=.func 217) k_,.tu f195 26 5 (m1*m2) (oJ (m1*m2)) (nF _) false bs (y:=.func 149) k_])
section
variable{Bs:aa}{N:Nat}
theorem Nv{ι:Map}{c:Nat->Option Obj}{w:World}(hm:aQ Bs ι c w){k n size g0:Nat}{ty:TypeId}{v:Value}{xs:aj}(hk:c k=none)(h:w.ownsRow g0 ty size v n xs)(cN:∀ u∈xs,flat u=true)
  (dp:∀ j y b o cap,c j=some y->y.owns=true->ι j=some (.at b o cap)->b<g0) :
  ∃ au,Map.le ι au/\aQ Bs au (ba c k (.view xs)) w/\aG au (.slice (some ⟨k,0,some 7⟩) n 0) v:=by
 refine yD hm hk (.YW h) cN λb o c' e j y o' aT hj hy he=>?_;have h1:=dp j y b o' aT hj hy he;rcases h.2 with ⟨h2,_⟩|⟨g,cap,cur,h2,h3,_⟩
 ·rw[h2]at e;cases e
 ·rw[h2]at e;injection e with e1 e2;injection e1 with e1;injection e1 with e1;omega
def j5(a:Nat):Obj:=.view (al (ae base (nd base a) a))
theorem Nw{ι:Map}{c:Nat->Option Obj}{w:World}(hm:aQ Bs ι c w):∀ j y b o cap,c j=some y->y.owns=true->ι j=some (.at b o cap)->b<w.heap.size:=λj y b o cap h1 h2 h3=>(hm.own j y b o cap h1 h2 h3).1
theorem aAi{ι au:Map}{c:Nat->Option Obj}{w:World}{g0 k:Nat}{xs:aj}(hm:aQ Bs ι c w)(hle:Map.le ι au)(h:∀ j y b o cap,c j=some y->y.owns=true->ι j=some (.at b o cap)->b<g0):
  ∀ j y b o cap,ba c k (.view xs) j=some y->y.owns=true->au j=some (.at b o cap)->b<g0:=by
 intro j y b o cap hj hy hb;unfold ba at hj;by_cases bN:j=k
 ·rw[aw bN]at hj;injection hj with hj;subst hj;cases hy
 ·rw[ao bN]at hj;obtain⟨l,e1,_⟩:=hm.born j y hj;have:=hle j l e1;rw[hb]at this;injection this with this;subst this;exact h j y b o cap hj hy e1
theorem aJl{o:Oper}{y:Operand}{f:FuncId}{args:aj}{c:Nat}(ho:dw o.op=some y)(eK:gi prog f=true)(df:∀ v∈args,flat v=true)
  (h:∀ w,Calls prog f args.toArray w λe w'=>∃ v,e=.returned v/\jD w w' v c/\Below w.heap.size w w') (k:Nat) :
  cB prog Bs o (.func (.func f) #[] #[]::args) [(k,none)] (sl k (nd base c)) [(k,j5 c)]:=by
 refine jB (fi:=[]) (ca:=[]) ho eK λι cc w hm hn args' bd=>?_;rw[jo,je]at bd;rw[nr bd df];refine(h w).mono ?_
 rintro e w' ⟨v,rfl,h1,h2⟩
 obtain⟨au,q1,q2,q3⟩:=YX hm h2 (k:=k) (hn _ (aV ..)) h1 (fB _);exact⟨au,v,rfl,q1,q3,q2⟩
def aY.yY(fn:Func)(key k m n:Nat)(h:m<2^n)(hn:n<=1099511627776){y:Operand}(ho:dw (av fn key).op=some y):aY prog Bs N:=
 .step key (av fn key) [.func (.func 172) #[] #[],pb m] [(k,none)] (sl k (nd base m)) [(k,j5 m)] (aJl ho k_ (λv hv=>by simp at hv;subst hv;rfl) (λ_=>aAh h hn) k)
theorem uJ(a:Nat):pR (j5 a) a:=xd a
theorem Nx{o:Oper}{y:Operand}(ho:dw o.op=some y){k1 k2 kq kr a b:Nat}(hk:kr≠kq){x1 x2:Obj}(uH:pR x1 a)(ky:x1.gh=true)(gL:pR x2 b)(kG:b≠0)(h1:nd base a<35184372088831)(h2:nd base b<35184372088831):
  cB prog Bs o [.func (.func 173) #[] #[],sl k1 (nd base a),sl k2 (nd base b)] [(k1,some x1),(k2,some x2),(kq,none),(kr,none)] (.tuple #[sl kq (nd base (a/b)),sl kr (nd base (a%b))]) [(kr,j5 (a%b)),(kq,j5 (a/b))]:=by
 refine jB (fi:=[]) (ca:=[]) ho k_ λι c w hm hn args' bd=>?_;rw[jo,je]at bd;obtain⟨va,vb,rfl,hv,iu⟩:=jx bd;have hY:c k1=some x1:=hn (k1,some x1) s_;have fE:c k2=some x2:=hn (k2,some x2) s_;have JY:c kq=none:=hn (kq,none) s_;have S3:c kr=none:=hn (kr,none) s_;have ha:=Ba hm hY uH hv;have hb:=Ba hm fE gL iu;have fin:∀(w':World) (vq vr:Value),Below w.heap.size w w'->(∃ bO,Map.le ι bO/\aQ Bs bO (ba c kq (j5 (a/b))) w'/\aG bO (sl kq (nd base (a/b))) vq/\∃ dG,Map.le bO dG/\aQ Bs dG (ba (ba c kq (j5 (a/b))) kr (j5 (a%b))) w'/\aG dG (sl kr (nd base (a%b))) vr)->
   ∃ au v',Ending.returned (.tuple #[vq,vr])=.returned v'/\Map.le ι au/\aG au (.tuple #[sl kq (nd base (a/b)),sl kr (nd base (a%b))]) v'/\aQ Bs au (lp c [(kr,j5 (a%b)),(kq,j5 (a/b))]) w':=by
  rintro w' vq vr fJ ⟨bO,q1,q2,q3,dG,s1,s2,s3⟩
  exact⟨dG,_,rfl,q1.trans s1,.tup (.cons (q3.mono s1) (.cons s3 .nil)),s2⟩
 have JZ:∀ x,ba c kq x kr=none:=λx=>by unfold ba;rw[ao hk];exact S3
 have new:∀(w':World) (vq vr:Value),Below w.heap.size w w'->jD w w' vq (a/b)->jD w w' vr (a%b)->(∃ bO,Map.le ι bO/\aQ Bs bO (ba c kq (j5 (a/b))) w'/\aG bO (sl kq (nd base (a/b))) vq/\∃ dG,Map.le bO dG/\aQ Bs dG (ba (ba c kq (j5 (a/b))) kr (j5 (a%b))) w'/\aG dG (sl kr (nd base (a%b))) vr):=by intro w' vq vr fJ h3 h4;have bo:=hm.call fJ;obtain⟨bO,q1,q2,q3⟩:=Nv bo JY h3 (fB _) (Nw hm);obtain⟨dG,s1,s2,s3⟩:=Nv q2 (JZ _) h4 (fB _) (aAi bo q1 (Nw hm));exact⟨bO,q1,q2,q3,dG,s1,s2,s3⟩
 by_cases b9:a<b
 ·have e1:a/b=0:=l8 b9;have e2:a%b=a:=dK b9;refine(SS ha hb b9 o_ o_).mono ?_
  rintro e w' ⟨rfl,fJ⟩
  refine fin w' _ _ fJ ?_;have bo:=hm.call fJ;obtain⟨bO,q1,q2,q3⟩:=yD (xs:=[]) (n:=0) (v:=.slice none 0 0) bo JY (.inl ⟨rfl,rfl,rfl⟩) n_ n_;have ez:j5 (a/b)=.view []:=by unfold j5;rw[e1,o7];rfl
  have en:nd base (a/b)=0:=by rw[e1,o7]
  rw[ez,en,e2];have S4:cK w' va (nd base a) (al (ae base (nd base a) a)):=cK.gB ha fJ;obtain⟨dG,s1,s2,s3⟩:=yD q2 (JZ _) S4 (fB _) (λb o c' e j y o' aT hj hy he=>by
   have A6:c j=some y:=by
    unfold ba at hj;by_cases bN:j=kq
    ·rw[aw bN]at hj;injection hj with hj;subst hj;cases hy
    ·rw[ao bN]at hj;exact hj
   obtain⟨l,e1,_⟩:=hm.born j y A6;have e2:=q1 j l e1;rw[he]at e2;injection e2 with e2;subst e2;subst e;rcases hv.gV rfl with ⟨_,_,_,_,e⟩|⟨b',o2,rk,c2,gp,_,_,e⟩
   ·cases e
   ·injection e with e _ _;injection e with e;injection e with e _ _;subst e;exact(hm.seen k1 x1 _ _ _ hY ky gp).2 j y _ _ A6 hy e1)
  exact⟨bO,q1,q2,q3,dG,s1,s2,s3⟩
 ·have J0:b<=a:=JP.1 b9;have go:Calls prog 173 #[va,vb] w λe w'=>∃ vq vr,e=.returned (.tuple #[vq,vr])/\jD w w' vq (a/b)/\jD w w' vr (a%b)/\Below w.heap.size w w':=by
   by_cases ak:b<base
   ·exact SV ha hb J0 kG ak o_
   ·have h3:2<=nd base b:=by
     rcases eF (nd base b) 2 with h|h
     ·have h4:=dS (B:=base) d_ b;have h5:base^nd base b<=base^1:=cZ d_ o_;rw[CF]at h5;omega
     ·exact h
    exact SY (e:=nd base b-2) ha hb J0 o_ h1
  refine go.mono ?_
  rintro e w' ⟨vq,vr,rfl,h3,h4,fJ⟩
  exact fin w' _ _ fJ (new w' vq vr fJ h3 h4)
end
def eu(x y:Nat):Nat->Nat×Nat
 |0=>(x,y)
 |i+1=>((eu x y i).2,(eu x y i).1%(eu x y i).2)
theorem J1(x y:Nat):∀ i,Nat.gcd (eu x y i).1 (eu x y i).2=Nat.gcd x y
 |0=>rfl
 |i+1=>by rw[<-J1 x y i];show Nat.gcd (eu x y i).2 ((eu x y i).1%(eu x y i).2)=_;rw[Hg,<-Nat.gcd_rec,Hg]
theorem S5(x y:Nat):∀ i,(eu x y i).1<=max x y/\(eu x y i).2<=max x y
 |0=>⟨Nat.le_max_left ..,Nat.le_max_right ..⟩
 |i+1=>by obtain⟨h1,h2⟩:=S5 x y i;exact⟨h2,de (Jx _ _) h1⟩
theorem Ny(x y:Nat)(p:Nat->Nat->Bool)(hp:∀ u v,p u v=true->v≠0):∃ n,p (eu x y n).1 (eu x y n).2=false/\∀ i,i<n->p (eu x y i).1 (eu x y i).2=true:=by
 have key:∃ n,p (eu x y n).1 (eu x y n).2=false:=by
  apply gN;intro gE;have all:∀ i,p (eu x y i).1 (eu x y i).2=true:=λi=>by
   cases h:p (eu x y i).1 (eu x y i).2 with
   |true=>rfl
   |false=>exact absurd ⟨i,h⟩ gE
  have dec:∀ i,(eu x y i).2+i<=y:=by
   intro i;induction i with
   |zero=>exact bj _
   |succ i ih=>
    have h0:=hp _ _ (all i);have h1:(eu x y (i+1)).2<(eu x y i).2:=cE _ (te h0);omega
  have h1:=dec (y+1);omega
 obtain⟨n,hn⟩:=key;obtain⟨e,h1,h2,h3⟩:=yI (λi=>p (eu x y i).1 (eu x y i).2=false) n hn;exact⟨e,h2,λi hi=>by
  cases h:p (eu x y i).1 (eu x y i).2 with
  |true=>rfl
  |false=>exact absurd h (h3 i hi)⟩
def yZ(u v:Nat):Bool:=decide (2<nd base v)||(decide (2<nd base u)&&decide (0<nd base v))
section
variable{Bs:aa}
def CV(u v:Nat):aW:=[(5,sl 5 (nd base u)),(6,sl 6 (nd base v))]
def Bk(u v:Nat):List Obj:=[j5 u,j5 v]
theorem aJm{u v:Nat}(h:yZ u v=true)(h0:v≠0)(h1:nd base u<35184372088831)(h2:nd base v<35184372088831):
  ag prog Bs 65 (aF (af f147 0)) (CV u v) ([]++marks 5 (Bk u v)) 7 ⟨.normal,gQ 5 [some 6,some 8] (CV v (u%v)),[]++dT [some 6,some 8] (Bk v (u%v)),9⟩:=by
 have hd:=Nx (Bs:=Bs) (o:=av f147 42) (y:=.func 173) k_ (k1:=5) (k2:=6) (kq:=7) (kr:=8) d_ (uJ u) rfl (uJ v) h0 h1 h2;unfold yZ at h;by_cases c1:2<nd base v
 ·exact aA [.gt 28 (nd base v) 2 true (by simp[c1]),.step 42 _ _ _ _ _ hd]
 ·simp[c1]at h;exact aA [.gt 28 (nd base v) 2 false (by simp;omega),.gt 32 (nd base u) 2 true (by simp[h.1]),.gt 36 (nd base v) 0 true (by simp[h.2]),.step 42 _ _ _ _ _ hd]
theorem aJn{u v:Nat}(h:yZ u v=false):
  ag prog Bs 65 (aF (af f147 0)) (CV u v) ([]++marks 5 (Bk u v)) 7 ⟨.exit 0,CV u v,marks 5 (Bk u v),7⟩:=by
 unfold yZ at h;by_cases c1:2<nd base v
 ·simp[c1]at h
 ·by_cases c2:2<nd base u
  ·by_cases c3:0<nd base v
   ·simp[c2,c3]at h
   ·exact aA [.gt 28 (nd base v) 2 false (by simp;omega),.gt 32 (nd base u) 2 true (by simp[c2]),.gt 36 (nd base v) 0 false (by simp;omega)]
  ·exact aA [.gt 28 (nd base v) 2 false (by simp;omega),.gt 32 (nd base u) 2 false (by simp;omega)]
theorem aJo{x y n:Nat}(hn:yZ (eu x y n).1 (eu x y n).2=false)(hi:∀ i,i<n->yZ (eu x y i).1 (eu x y i).2=true)(h1:nd base (max x y)<35184372088831):
  ag prog Bs 65 (.block 0 (af f147 0)) (gQ 5 [some 3,some 4] (CV x y)) ([]++dT [some 3,some 4] (Bk x y)) 5 ⟨.normal,CV (eu x y n).1 (eu x y n).2,marks 5 (Bk (eu x y n).1 (eu x y n).2),7⟩:=by
 have:=rQ (P:=prog) (B:=Bs) (N:=65) (b:=aF (af f147 0)) (next:=5) (p:=2) (r:=⟨.exit 0,CV (eu x y n).1 (eu x y n).2,marks 5 (Bk (eu x y n).1 (eu x y n).2),7⟩) n (λi=>CV (eu x y i).1 (eu x y i).2) (λ_=>[]) (λi=>Bk (eu x y i).1 (eu x y i).2) [some 3,some 4] (λ_ _=>rfl)
  (λi _=>⟨λq hq=>(by cases hq),λz hz=>by simp[Bk]at hz;rcases hz with rfl|rfl<;>exact GV (fB _)⟩) k_ k_
  (λi ak=>⟨[some 6,some 8],9,k_,by have hg:=hi i ak;have hle:=S5 x y i;refine aJm hg (λe=>?_) (eL (iJ d_ hle.1) h1) (eL (iJ d_ hle.2) h1);rw[e]at hg;unfold yZ at hg;rw[o7]at hg;simp at hg⟩) (aJn hn) n_
 exact bT (id:=0) this
def xh(u v:Nat):aW:=[(9,pS u),(10,pS v)]
theorem S6{x y:Nat}:∃ g,g=Nat.gcd x y/\ag prog Bs 65 (.block 2 (af f147 2)) (xh x y) [] 7 ⟨.normal,[(9,pS g)],[],7⟩:=by
 obtain⟨n,hn,hi⟩:=Ny x y (λ_ v=>decide (v≠0)) (λu v h=>kH h);have hz:(eu x y n).2=0:=by have:=Hh hn;omega
 have hg:=J1 x y n;rw[hz,S7]at hg;refine⟨_,hg,bT (id:=2) (cd (P:=prog) (B:=Bs) (N:=65) (b:=aF (af f147 2)) (next:=7) (r:=⟨.exit 2,[(9,pS (eu x y n).1)],[],7⟩) n (λi=>xh (eu x y i).1 (eu x y i).2) (λ_=>[]) (λ_ _ _=>Iff.rfl) (λi ak=>?_) ?_ n_)⟩
 ·have h0:(eu x y i).2≠0:=kH (hi i ak);show ag _ _ _ _ (xh (eu x y i).1 (eu x y i).2) [] 7 ⟨.normal,xh (eu x y i).2 ((eu x y i).1%(eu x y i).2),[],7⟩;generalize (eu x y i).1=u at *;generalize (eu x y i).2=v at *;exact aA [.rw 57 (.bool ((v:Int)!=0)) (.bool true) (by congr 1;rw[uC];omega),.th f147 61 .u64 (u:Int) v ((u%v:Nat):Int) o_ (by rw[yT o_];rfl) k_]
 ·rw[hz];exact aA [.rw 57 (.bool (((0:Nat):Int)!=0)) (.bool false) rfl]
end
theorem S8{n1 n2:Bool}{m1 m2 p q:Nat}(v1:n1=true->m1≠0)(v2:n2=true->m2≠0)(h1:m1<2^p)(h2:m2<2^q)(hp:p<=1099511627776)(hq:q<=1099511627776):
  aE prog 147 [sv n1 m1,sv n2 m2] (bM (Nat.gcd m1 m2:Nat)):=by
 have b1:=xf h1;have b2:=xf h2;have bm:nd base (max m1 m2)<35184372088831:=by rcases Nz m1 m2 with h|h<;>simp[h]<;>omega
 obtain⟨n,hn,hi⟩:=Ny m1 m2 yZ (λu v h e=>by rw[e]at h;unfold yZ at h;rw[o7]at h;simp at h)
 have hg:=J1 m1 m2 n;have hle:=S5 m1 m2 n;have hl:=λw=>aJo (Bs:=aa.at w) hn hi bm;have bU:nd base (eu m1 m2 n).1<35184372088831:=eL (iJ d_ hle.1) bm;have bV:nd base (eu m1 m2 n).2<35184372088831:=eL (iJ d_ hle.2) bm;rw[<-hg];generalize (eu m1 m2 n).1=U at *;generalize (eu m1 m2 n).2=V at *;have e:=uI false (Nat.gcd U V);rw[show sg false (Nat.gcd U V)=((Nat.gcd U V:Nat):Int)from rfl]at e;rw[<-e];by_cases hV:V=0
 ·subst hV;rw[S7];exact aP func147 (λw=>[(cV n1 v1).at 12,(cV n2 v2).at 16,.yY f147 22 3 m1 p h1 hp (y:=.func 172) k_,.yY f147 25 4 m2 q h2 hq (y:=.func 172) k_,.code 0 _ _ _ _ _ (hl w),.rw 49 (.bool (((nd base 0:Nat):Int)==0)) (.bool true) (by rw[o7];rfl),.tu f147 51 5 U (j5 U) (uJ U) false o_ (y:=.func 149) k_])
 ·have qz:=uB (B:=base) d_ hV;unfold yZ at hn;have c1:nd base V<=2/\nd base U<=2:=by simp at hn;exact⟨hn.1,JP.1 λh=>by have:=hn.2 h;omega⟩
  have aAj:∀ t,nd base t<=2->t<18446744073709551616:=λt ht=>by have h1:=dS (B:=base) d_ t;have h2:base^nd base t<=base^2:=cZ d_ ht;exact cv h1 (de h2 d_)
  have aJp:=aAj U c1.2;have aAk:=aAj V c1.1;have NA:∀ w,∃ g,g=Nat.gcd U V/\ag prog (aa.at w) 65 (.block 2 (af f147 2)) (xh U V) [] 7 ⟨.normal,[(9,pS g)],[],7⟩:=λw=>S6;have NA:∀ w,ag prog (aa.at w) 65 (.block 2 (af f147 2)) (xh U V) [] 7 ⟨.normal,[(9,pS (Nat.gcd U V))],[],7⟩:=λw=>by obtain⟨g,rfl,h⟩:=NA w;exact h
  have aJq:Nat.gcd U V<18446744073709551616:=eL (Nat.gcd_le_right U (te hV)) aAk;have bG:nd base (Nat.gcd U V)<35184372088832:=by have:=iJ (B:=base) d_ (Nat.gcd_le_right U (te hV));omega
  exact aP func147 (λw=>[(cV n1 v1).at 12,(cV n2 v2).at 16,.yY f147 22 3 m1 p h1 hp (y:=.func 172) k_,.yY f147 25 4 m2 q h2 hq (y:=.func 172) k_,.code 0 _ _ _ _ _ (hl w),.fk 49 (nd base V) 0 false (by simp;omega),.step 53 (av f147 53) _ _ _ _ (G4 (f:=174) (y:=.func 174) (k1:=5) (post:=[]) (res:=pS U) k_ k_ (uJ U) n_ rfl λ_ _ h=>Zw h aJp o_),.step 55 (av f147 55) _ _ _ _ (G4 (f:=174) (y:=.func 174) (k1:=6) (post:=[]) (res:=pS V) k_ k_ (uJ V) n_ rfl λ_ _ h=>Zw h aAk o_),.code 2 _ _ _ _ _ (NA w),.step 63 (av f147 63) _ _ _ _ (Nl (y:=.func 148) (args:=[pS (Nat.gcd U V)]) k_ k_ (λv hv=>by simp at hv;subst hv;rfl) (λ_=>Sk aJq) 7),.tu f147 64 7 (Nat.gcd U V) (oJ (Nat.gcd U V)) (nF _) false bG (y:=.func 149) k_])
theorem J2{x y:Int}{p q:Nat}(h1:x.natAbs<2^p)(h2:y.natAbs<2^q)(hp:p<=1099511627776)(hq:q<=1099511627776):aE prog 147 [bM x,bM y] (bM (Nat.gcd x.natAbs y.natAbs:Nat)):=by revert h1 h2;refine E0 (C:=λx y v u=>x.natAbs<2^p->y.natAbs<2^q->aE prog 147 [v,u] (bM (Nat.gcd x.natAbs y.natAbs:Nat))) (λn1 n2 m1 m2 v1 v2 h1 h2=>?_) x y;rw[pU]at h1 h2;rw[pU,pU];exact S8 v1 v2 h1 h2 hp hq
theorem NB{a b q r:Int}(h:a=q*b+r)(hr:(0<b/\0<=r/\r<b)\/(b<0/\b<r/\r<=0)):a.fdiv b=q/\a.fmod b=r:=by
 have key:a.fdiv b=q:=by
  rcases hr with ⟨h1,h2,h3⟩|⟨h1,h2,h3⟩
  ·rw[rK _ o_,h,Int.add_comm,aAl _ _ o_,Int.ediv_eq_zero_of_lt h2 h3];omega
  ·have e:a.fdiv b=(-a).fdiv (-b):=(Int.neg_fdiv_neg a b).symm;have e2:-a=-r+q*-b:=by rw[h,Hf];omega
   rw[e,rK _ o_,e2,aAl _ _ o_,Int.ediv_eq_zero_of_lt o_ o_];omega
 refine⟨key,?_⟩;have:=Int.mul_fdiv_add_fmod a b;rw[key,S9]at this;omega
section
variable{Bs:aa}{N:Nat}
def aY.Hi(fn:Func)(key k a:Nat)(x:Obj)(hx:pR x a)(neg:Bool)(h1:nd base a<35184372088832){y:Operand}(ho:dw (av fn key).op=some y):aY prog Bs N:=
 .step key (av fn key) _ _ _ _ (G4 (f:=149) (k1:=k) (post:=[.bool neg]) (res:=bM (sg neg a)) ho k_ hx (λv hv=>by simp at hv;subst hv;rfl) rfl λ_ _ h=>by rw[<-uI];exact Z3 h h1)
end
theorem Ta{x y:Int}{p q:Nat}(hy:y≠0)(h1:x.natAbs<2^p)(h2:y.natAbs<2^q)(hp:p<=1099511627774)(hq:q<=1099511627774):
  aE prog 227 [bM x,bM y] (.tuple #[bM (x.fdiv y),bM (x.fmod y),.int .i64 0]):=by
 obtain⟨m1,cX⟩:∃ m,m=x.natAbs:=⟨_,rfl⟩;obtain⟨m2,dB⟩:∃ m,m=y.natAbs:=⟨_,rfl⟩;rw[<-cX]at h1;rw[<-dB]at h2;have Hj:m2≠0:=by omega
 have b1:=xf h1;have b2:=xf h2;obtain⟨s,hs⟩:∃ s,s=(decide (x<0)!=decide (y<0)):=⟨_,rfl⟩;obtain⟨n1,Cj⟩:∃ n,n=decide (x<0):=⟨_,rfl⟩;obtain⟨Q,hQ⟩:∃ Q,Q=m1/m2:=⟨_,rfl⟩;obtain⟨R,hR⟩:∃ R,R=m1%m2:=⟨_,rfl⟩;have J3:m1=Q*m2+R:=by rw[hQ,hR,cP];exact(jb _ _).symm
 have y0:R<m2:=by rw[hR];exact cE _ (te Hj)
 have Tb:Q<=m1:=by rw[hQ];exact tj _ _
 have bQ:nd base (m1/m2)<35184372088832:=by have:=iJ (B:=base) d_ Tb;rw[<-hQ];omega
 have bR:nd base (m1%m2)<35184372088832:=by have:=iJ (B:=base) d_ (iR y0);rw[<-hR];omega
 have ex:x=sg n1 m1:=by rw[Cj,cX];unfold sg;by_cases h:x<0<;>simp[h]<;>omega
 have ey:y=sg (n1 !=s) m2:=by rw[Cj,hs,dB];unfold sg;by_cases h:x<0<;>by_cases h':y<0<;>simp[h,h']<;>omega
 have J4:(decide (x<0)!=decide (y<0))=s:=hs.symm;have v1:=lI x;have v2:=lI y;have Tc:((BA (cg y.natAbs)).toList==(ByteArray.mk #[]).toList)=false:=by rw[qB,<-dB,aN Hj]
 have Td:(!((BA (cg (sg n1 R).natAbs)).toList==(ByteArray.mk #[]).toList))=decide (R≠0):=by rw[qB,pU];simp
 have pG:x.natAbs<2^p:=by rw[<-cX];exact h1
 have vE:y.natAbs<2^q:=by rw[<-dB];exact h2
 rw[show m1/m2=Q from hQ.symm]at bQ;rw[show m1%m2=R from hR.symm]at bR;have hd:∀ w,cB prog (aa.at w) (av f227 33) [.func (.func 173) #[] #[],sl 4 (nd base x.natAbs),sl 5 (nd base y.natAbs)] [(4,some (j5 x.natAbs)),(5,some (j5 y.natAbs)),(6,none),(7,none)] (.tuple #[sl 6 (nd base Q),sl 7 (nd base R)]) [(7,j5 R),(6,j5 Q)]:=λw=>by have:=Nx (Bs:=aa.at w) (o:=av f227 33) (y:=.func 173) k_ (k1:=4) (k2:=5) (kq:=6) (kr:=7) d_ (uJ x.natAbs) rfl (uJ y.natAbs) o_ (by rw[<-cX];omega) (by rw[<-dB];omega);rw[<-cX,<-dB,<-hQ,<-hR]at this;rw[<-cX,<-dB];exact this
 have Te:(Value.bool (decide (x<0)))=.bool n1:=by rw[Cj]
 by_cases NC:R≠0/\s=true
 ·obtain⟨jr,bL⟩:=NC;have fin:=NB (a:=x) (b:=y) (q:=sg s Q-1) (r:=sg n1 R+y) (by
    rw[ex,ey,bL,J3];have e:sg true Q=-(Q:Int):=rfl;rw[e];have jd:((Q*m2:Nat):Int)=(Q:Int)*m2:=nW ..;cases n1<;>simp only[sg,ND,NF,JC,ql,uF,uE,vC,jd,Int.sub_mul,He,Hf,JX,NG]<;>omega)
   (by
    rw[ey,bL];cases n1
    ·right;simp only[sg,ND,ql,uF,uE];omega
    ·left;simp only[sg,NF,JC,ql,uF,uE];omega)
  rw[fin.1,fin.2];have s1:(sg s Q).natAbs<2^p:=by rw[pU];omega
  have s2:(1:Int).natAbs<2^1:=by decide
  have s3:(sg n1 R).natAbs<2^q:=by rw[pU];omega
  have sb:=E1 (x:=sg s Q) (y:=1) s1 s2 o_ o_;have ad:=yX (x:=sg n1 R) (y:=y) s3 vE o_ o_;exact aP func227 (λw=>[v1.at 11,v2.at 15,.rw 23 (.bool ((BA (cg y.natAbs)).toList==(ByteArray.mk #[]).toList)) (.bool false) (by rw[Tc]),.yY f227 29 4 x.natAbs p pG o_ (y:=.func 172) k_,.yY f227 32 5 y.natAbs q vE o_ (y:=.func 172) k_,.step 33 _ _ _ _ _ (hd w),.rw 41 (.bool (decide (x<0)!=decide (y<0))) (.bool s) (by rw[J4]),.Hi f227 42 6 Q (j5 Q) (uJ Q) s bQ (y:=.func 149) k_,.rw 45 (.bool (decide (x<0))) (.bool n1) Te,.Hi f227 46 7 R (j5 R) (uJ R) n1 bR (y:=.func 149) k_,.rw 49 (.bool (!((BA (cg (sg n1 R).natAbs)).toList==(ByteArray.mk #[]).toList))) (.bool true) (by rw[Td,aC jr]),.rw 55 (.bool (decide (x<0)!=decide (y<0))) (.bool true) (by rw[J4,bL]),(j4 (z:=1) d_).at 58,sb.at 59,ad.at 62])
 ·have fin:=NB (a:=x) (b:=y) (q:=sg s Q) (r:=sg n1 R) (by
    rw[ex,ey,J3];have jd:((Q*m2:Nat):Int)=(Q:Int)*m2:=nW ..;cases n1<;>cases s<;>simp only[sg,ND,NF,JC,MZ,ql,uF,uE,vC,jd,He,Hf,JX]<;>omega)
   (by
    rw[ey];cases n1<;>cases s
    ·left;simp only[sg,ND,uF,uE];omega
    ·right;have jr:R=0:=gN λh=>NC ⟨h,rfl⟩;simp only[sg,ND,ql,uF,uE];omega
    ·right;simp only[sg,NF,MZ,ql];omega
    ·left;have jr:R=0:=gN λh=>NC ⟨h,rfl⟩;simp only[sg,NF,JC,ql,uF,uE];omega)
  rw[fin.1,fin.2];by_cases jr:R=0
  ·exact aP func227 (λw=>[v1.at 11,v2.at 15,.rw 23 (.bool ((BA (cg y.natAbs)).toList==(ByteArray.mk #[]).toList)) (.bool false) (by rw[Tc]),.yY f227 29 4 x.natAbs p pG o_ (y:=.func 172) k_,.yY f227 32 5 y.natAbs q vE o_ (y:=.func 172) k_,.step 33 _ _ _ _ _ (hd w),.rw 41 (.bool (decide (x<0)!=decide (y<0))) (.bool s) (by rw[J4]),.Hi f227 42 6 Q (j5 Q) (uJ Q) s bQ (y:=.func 149) k_,.rw 45 (.bool (decide (x<0))) (.bool n1) Te,.Hi f227 46 7 R (j5 R) (uJ R) n1 bR (y:=.func 149) k_,.rw 49 (.bool (!((BA (cg (sg n1 R).natAbs)).toList==(ByteArray.mk #[]).toList))) (.bool false) (by rw[Td,aN (λh=>h jr)])])
  ·have bL:s=false:=by
    cases s
    ·rfl
    ·exact absurd ⟨jr,rfl⟩ NC
   exact aP func227 (λw=>[v1.at 11,v2.at 15,.rw 23 (.bool ((BA (cg y.natAbs)).toList==(ByteArray.mk #[]).toList)) (.bool false) (by rw[Tc]),.yY f227 29 4 x.natAbs p pG o_ (y:=.func 172) k_,.yY f227 32 5 y.natAbs q vE o_ (y:=.func 172) k_,.step 33 _ _ _ _ _ (hd w),.rw 41 (.bool (decide (x<0)!=decide (y<0))) (.bool s) (by rw[J4]),.Hi f227 42 6 Q (j5 Q) (uJ Q) s bQ (y:=.func 149) k_,.rw 45 (.bool (decide (x<0))) (.bool n1) Te,.Hi f227 46 7 R (j5 R) (uJ R) n1 bR (y:=.func 149) k_,.rw 49 (.bool (!((BA (cg (sg n1 R).natAbs)).toList==(ByteArray.mk #[]).toList))) (.bool true) (by rw[Td,aC jr]),.rw 55 (.bool (decide (x<0)!=decide (y<0))) (.bool false) (by rw[J4,bL])])
section
variable{P:Program}{B:aa}{N:Nat}
def Hk(o:Oper):Option (Bool×TypeId):=match o.op with|.binOp .eql t _ _ _=>some (true,t)|.binOp .neq t _ _ _=>some (false,t)|_=>none
theorem aAm{op:BinOp}{t:TypeId}{x y:Operand}{xs ys:Array Value}(hg:P.eqGuardType P.depth t=false)(w:World):(eqGuard op t x y (.agg xs) (.agg ys)).run P w=.ok () w:=by unfold eqGuard;cases op<;>simp[hg]
theorem NH{o:Oper}{t:TypeId}{neg:Bool}{m D:Nat}{xs ys:Array Value}{lx ly:List Lit}{r:Bool}(ho:Hk o=some (neg,t))(hm:m<=10000)(hk:P.keyTypeAt m t=true)(hg:P.eqGuardType P.depth t=false)
  (hfx:(Value.agg xs).formed P t=true) (hfy:(Value.agg ys).formed P t=true) (hx:P.keyLits D t xs.toList=some lx) (hy:P.keyLits D t ys.toList=some ly) (XO:flat (.agg xs)=true) (I7:flat (.agg ys)=true)
  (hr:(if neg then r else !r)=true↔lx=ly):cB P B o [.agg xs,.agg ys] [] (.bool r) []:=by
 refine(AA (λu hu=>by simp at hu;rcases hu with rfl|rfl<;>assumption) rfl λρ e7 w _=>?_).step;obtain⟨r',e1,e2⟩:=run_equalIn_deep (10000-m) m t hk w D D (.agg xs) (.agg ys) lx ly hfx hfy hx hy;rw[show 10000-m+m=10000 by omega]at e1;have e1:(Op.equal t (.agg xs) (.agg ys)).run P w=.ok r' w:=e1;unfold Hk at ho;split at ho
 ·rename_i t' p q t2 bP;injection ho with ho;injection ho with h1 h2;subst h1;subst h2;rw[bP]at e7;simp[Op.operands]at e7;have e3:r'=r:=by rw[<-e2]at hr;cases r<;>cases r'<;>simp at hr ⊢
  have n9:=aAm (op:=.eql) (x:=p) (y:=q) (xs:=xs) (ys:=ys) hg w;simp only[execOp,bP,e7.1,e7.2];simp[n9,binOp,e1,e3]
 ·rename_i t' p q t2 bP;injection ho with ho;injection ho with h1 h2;subst h1;subst h2;rw[bP]at e7;simp[Op.operands]at e7;have e3:(!r')=r:=by rw[<-e2]at hr;cases r<;>cases r'<;>simp at hr ⊢
  have n9:=aAm (op:=.neq) (x:=p) (y:=q) (xs:=xs) (ys:=ys) hg w;simp only[execOp,bP,e7.1,e7.2];simp[n9,binOp,e1,e3]
 ·cases ho
theorem aAn{β:Type}(f:TypeId->Nat->Option β):∀(l:List Field) {m:List (TypeId×Nat)},l.map (λg=>(g.type,g.offset))=m->(l.mapM λg=>f g.type g.offset)=m.mapM λp=>f p.1 p.2
 |[],m,h=>by subst h;rfl
 |g::l,m,h=>by subst h;simp only[rF,Jr];rw[aAn f l rfl]
theorem NI {t : TypeId} {fs : Array Field} {l : List (TypeId × Nat)} {cs : aj} (hu : P.underlying t = some (.struct fs)) (hf : fs.toList.map (fun g => (g.type, g.offset)) = l) (hn : fs.all (fun g => g.name != "_") = true) (hl : cs.length = P.cellsOf t) (d : Nat) :
  P.keyLits (d+1) t cs=(l.mapM λp=>P.keyLits d p.1 ((cs.drop p.2).take (P.cellsOf p.1))).map List.flatten:=by
 conv=>lhs;unfold Program.keyLits
 rw[hu];dsimp only;rw[aw ⟨hl,hn⟩,aAn (λa b=>P.keyLits d a ((cs.drop b).take (P.cellsOf a))) fs.toList hf]
theorem aJr{t e:TypeId}{n:Nat}{cs:aj}(hu:P.underlying t=some (.array n e))(hl:cs.length=P.cellsOf t)(d:Nat):
  P.keyLits (d+1) t cs=((List.range n).mapM λi=>P.keyLits d e ((cs.drop (i*P.cellsOf e)).take (P.cellsOf e))).map List.flatten:=by
 conv=>lhs;unfold Program.keyLits
 rw[hu];dsimp only;rw[aw hl]
theorem aJs{t:TypeId}(hu:P.underlying t=some .bool)(b:Bool)(d:Nat):P.keyLits (d+1) t [.bool b]=some [.bool b]:=by unfold Program.keyLits;rw[hu]
theorem aJt{t:TypeId}(hu:P.underlying t=some .string)(s:ByteArray)(hs:s.size<=maxLen)(d:Nat):P.keyLits (d+1) t [.string s]=some [.string s.data.toList]:=by unfold Program.keyLits;rw[hu];dsimp only;rw[aw hs]
end
section
class CR (F:Type) extends Add F,Mul F,Neg F,Sub F,Zero F,One F where
 add_assoc:∀ a b c:F,a+b+c=a+(b+c)
 add_comm:∀ a b:F,a+b=b+a
 zero_add:∀ a:F,0+a=a
 neg_add:∀ a:F,-a+a=0
 mul_assoc:∀ a b c:F,a*b*c=a*(b*c)
 mul_comm:∀ a b:F,a*b=b*a
 one_mul:∀ a:F,1*a=a
 mul_add:∀ a b c:F,a*(b+c)=a*b+a*c
 sub_def:∀ a b:F,a-b=a+-b
namespace CR
variable{F:Type}[CR F]
theorem add_zero(a:F):a+0=a:=by rw[add_comm,zero_add]
theorem add_neg(a:F):a+-a=0:=by rw[add_comm,neg_add]
theorem mul_one(a:F):a*1=a:=by rw[mul_comm,one_mul]
theorem add_mul(a b c:F):(a+b)*c=a*c+b*c:=by rw[mul_comm,mul_add,mul_comm c a,mul_comm c b]
theorem add_left_comm(a b c:F):a+(b+c)=b+(a+c):=by rw[<-add_assoc,add_comm a b,add_assoc]
theorem mul_left_comm(a b c:F):a*(b*c)=b*(a*c):=by rw[<-mul_assoc,mul_comm a b,mul_assoc]
theorem add_left_cancel{a b c:F}(h:a+b=a+c):b=c:=by have:=cI (λx=>-a+x) h;simpa only[<-add_assoc,neg_add,zero_add]using this
theorem mul_zero(a:F):a*0=0:=by apply add_left_cancel (a:=a*0);rw[<-mul_add,zero_add,add_zero]
theorem zero_mul(a:F):0*a=0:=by rw[mul_comm,mul_zero]
theorem Hl{a b:F}(h:a+b=0):b=-a:=add_left_cancel (a:=a) (by rw[h,add_neg])
theorem neg_mul(a b:F):-a*b=-(a*b):=Hl (by rw[<-add_mul,add_neg,zero_mul])
theorem mul_neg(a b:F):a*-b=-(a*b):=by rw[mul_comm,neg_mul,mul_comm]
theorem neg_neg(a:F):- -a=a:=(Hl (neg_add a)).symm
theorem CW(a b:F):-(a+b)=-a+-b:=
 (Hl (by rw[add_assoc,add_left_comm b,<-add_assoc,add_neg,zero_add,add_neg])).symm
theorem neg_zero:-(0:F)=0:=(Hl (zero_add 0)).symm
def ofNat:Nat->F
 |0=>0
 |n+1=>ofNat n+1
def ofInt:Int->F
 |.ofNat n=>ofNat n
 |.negSucc n=>-ofNat (n+1)
theorem ofNat_add(a b:Nat):(ofNat (a+b):F)=ofNat a+ofNat b:=by
 induction b with
 |zero=>simp[ofNat,add_zero]
 |succ b ih=>rw[<-uk];simp only[ofNat];rw[ih,add_assoc]
theorem ofNat_mul(a b:Nat):(ofNat (a*b):F)=ofNat a*ofNat b:=by
 induction b with
 |zero=>simp[ofNat,mul_zero]
 |succ b ih=>rw[MR,ofNat_add,ih];simp only[ofNat];rw[mul_add,mul_one]
theorem ofInt_sub(a b:Nat):(ofInt ((a:Int)-b):F)=ofNat a+-ofNat b:=by
 rcases Nz b a with h|h
 ·obtain⟨c,rfl⟩:=Nat.le.dest h;rw[show((b+c:Nat):Int)-b=Int.ofNat c by simp[vC];omega];simp only[ofInt];rw[ofNat_add,add_comm (ofNat b),add_assoc,add_neg,add_zero]
 ·obtain⟨c,rfl⟩:=Nat.le.dest h;cases c with
  |zero=>rw[show(a:Int)-((a+0:Nat):Int)=Int.ofNat 0 by simp];simp[ofInt,ofNat,add_neg]
  |succ c=>
   rw[show(a:Int)-((a+(c+1):Nat):Int)=Int.negSucc c by omega];simp only[ofInt];rw[ofNat_add a (c+1),CW,<-add_assoc,add_neg,zero_add]
theorem ofInt_neg(a:Int):(ofInt (-a):F)=-ofInt a:=by
 cases a with
 |ofNat n=>
  cases n with
  |zero=>simp[ofInt,ofNat,neg_zero]
  |succ n=>rfl
 |negSucc n=>rw[show -(Int.negSucc n)=Int.ofNat (n+1)from rfl];simp only[ofInt];rw[neg_neg]
theorem rS(a:Int):∃ m n:Nat,a=(m:Int)-n:=by
 cases a with
 |ofNat m=>exact⟨m,0,by simp⟩
 |negSucc n=>exact⟨0,n+1,by omega⟩
theorem ofInt_add(a b:Int):(ofInt (a+b):F)=ofInt a+ofInt b:=by obtain⟨m,n,rfl⟩:=rS a;obtain⟨p,q,rfl⟩:=rS b;rw[show(m:Int)-n+(p-q)=((m+p:Nat):Int)-(n+q:Nat)by omega];rw[ofInt_sub,ofInt_sub,ofInt_sub,ofNat_add,ofNat_add,CW];simp only[add_assoc,add_left_comm]
theorem ofInt_mul(a b:Int):(ofInt (a*b):F)=ofInt a*ofInt b:=by
 obtain⟨m,n,rfl⟩:=rS a;obtain⟨p,q,rfl⟩:=rS b;rw[show((m:Int)-n)*(p-q)=((m*p+n*q:Nat):Int)-(m*q+n*p:Nat)by simp only[vC,nW,Int.sub_mul,Int.mul_sub];omega]
 rw[ofInt_sub,ofInt_sub,ofInt_sub];simp only[ofNat_add,ofNat_mul,add_mul,mul_add,neg_mul,mul_neg,CW,neg_neg];simp only[add_assoc,add_left_comm,add_comm]
end CR
open CR
inductive E where
 |var (i:Nat)
 |num (n:Int)
 |add (a b:E)
 |mul (a b:E)
 |neg (a:E)
 |sub (a b:E)
 |one
namespace E
instance:Add E:=⟨E.add⟩
instance:Mul E:=⟨E.mul⟩
instance:Neg E:=⟨E.neg⟩
instance:Sub E:=⟨E.sub⟩
instance:Zero E:=⟨E.num 0⟩
instance:One E:=⟨E.one⟩
def den{F:Type}[CR F](ρ:Nat->F):E->F
 |.var i=>ρ i
 |.num n=>ofInt n
 |.add a b=>den ρ a+den ρ b
 |.mul a b=>den ρ a*den ρ b
 |.neg a=>-den ρ a
 |.sub a b=>den ρ a-den ρ b
 |.one=>1
abbrev Mon:=List Nat
abbrev Poly:=List (Mon×Int)
def NJ(v:Nat):Mon->Mon
 |[]=>[v]
 |u::m=>if Nat.ble v u then v::u::m else u::NJ v m
def J5(m n:Mon):Mon:=m.foldr NJ n
def E2:Mon->Mon->Bool
 |[],[]=>true
 |a::m,b::n=>Nat.beq a b&&E2 m n
 |_,_=>false
def mlt:Mon->Mon->Bool
 |[],[]=>false
 |[],_::_=>true
 |_::_,[]=>false
 |a::m,b::n=>if Nat.beq a b then mlt m n else Nat.blt a b
def pins(m:Mon)(a:Int):Poly->Poly
 |[]=>[(m,a)]
 |(n,b)::p=>if E2 m n then(if a+b=0 then p else(n,a+b)::p)else if mlt m n then(m,a)::(n,b)::p else(n,b)::pins m a p
def Hm(p q:Poly):Poly:=p.foldr (λx acc=>pins x.1 x.2 acc) q
def J6(m:Mon)(a:Int)(q:Poly)(acc:Poly):Poly:=q.foldr (λx acc=>pins (J5 m x.1) (a*x.2) acc) acc
def J7(p q:Poly):Poly:=p.foldr (λx acc=>J6 x.1 x.2 q acc) []
def norm:E->Poly
 |.var i=>[([i],1)]
 |.num n=>if n=0 then[]else[([],n)]
 |.add a b=>Hm (norm a) (norm b)
 |.mul a b=>J7 (norm a) (norm b)
 |.neg a=>(norm a).map λx=>(x.1,-x.2)
 |.sub a b=>Hm (norm a) ((norm b).map λx=>(x.1,-x.2))
 |.one=>[([],1)]
def peq:Poly->Poly->Bool
 |[],[]=>true
 |(m,a)::p,(n,b)::q=>E2 m n&&(a==b)&&peq p q
 |_,_=>false
section
variable{F:Type}[CR F](ρ:Nat->F)
def rT:Mon->F
 |[]=>1
 |v::m=>ρ v*rT m
def jR:Poly->F
 |[]=>0
 |(m,a)::p=>ofInt a*rT ρ m+jR p
theorem aJu(v:Nat)(m:Mon):rT ρ (NJ v m)=ρ v*rT ρ m:=by
 induction m with
 |nil=>rfl
 |cons u m ih=>
  simp only[NJ];split
  ·rfl
  ·simp only[rT];rw[ih,mul_left_comm]
theorem aJv(m n:Mon):rT ρ (J5 m n)=rT ρ m*rT ρ n:=by
 induction m with
 |nil=>simp only[J5,Tf,rT,one_mul]
 |cons v m ih=>simp only[J5,Tg,aJu];simp only[J5]at ih;rw[ih];simp only[rT];rw[mul_assoc]
theorem aAo{m n:Mon}(h:E2 m n=true):m=n:=by
 induction m generalizing n with
 |nil=>cases n<;>simp_all [E2]
 |cons a m ih=>
  cases n with
  |nil=>simp[E2]at h
  |cons b n=>
   simp only[E2,da]at h;rw[Q3 h.1,ih h.2]
theorem aAp(m:Mon)(a:Int)(p:Poly):jR ρ (pins m a p)=ofInt a*rT ρ m+jR ρ p:=by
 induction p with
 |nil=>rfl
 |cons x p ih=>
  obtain⟨n,b⟩:=x;simp only[pins];split
  ·rename_i h;have:=aAo h;subst this;split
   ·rename_i h0;simp only[jR];rw[<-add_assoc,<-add_mul,<-ofInt_add,h0];rw[show(ofInt 0:F)=0 from rfl,zero_mul,zero_add]
   ·simp only[jR];rw[ofInt_add,add_mul,add_assoc]
  ·split
   ·rfl
   ·simp only[jR];rw[ih,add_left_comm]
theorem aAq(p q:Poly):jR ρ (Hm p q)=jR ρ p+jR ρ q:=by
 induction p with
 |nil=>simp only[Hm,Tf,jR,zero_add]
 |cons x p ih=>simp only[Hm,Tg,aAp];simp only[Hm]at ih;rw[ih];simp only[jR];rw[add_assoc]
theorem aJw(m:Mon)(a:Int)(q acc:Poly):jR ρ (J6 m a q acc)=ofInt a*rT ρ m*jR ρ q+jR ρ acc:=by
 induction q with
 |nil=>simp only[J6,Tf,jR,mul_zero,zero_add]
 |cons x q ih=>
  simp only[J6,Tg,aAp];simp only[J6]at ih;rw[ih];simp only[jR];rw[aJv,ofInt_mul,mul_add,<-add_assoc]
  congr 2
  simp only[mul_assoc,mul_left_comm]
theorem aJx(p q:Poly):jR ρ (J7 p q)=jR ρ p*jR ρ q:=by
 induction p with
 |nil=>simp only[J7,Tf,jR,zero_mul]
 |cons x p ih=>simp only[J7,Tg,aJw];simp only[J7]at ih;rw[ih];simp only[jR];rw[add_mul]
theorem aAr(p:Poly):jR ρ (p.map λx=>(x.1,-x.2))=-jR ρ p:=by
 induction p with
 |nil=>simp only[Sw,jR,neg_zero]
 |cons x p ih=>simp only[rF,jR];rw[ih,ofInt_neg,neg_mul,CW]
theorem aAs(e:E):jR ρ (norm e)=den ρ e:=by
 induction e with
 |var i=>
  simp only[norm,jR,rT,den,mul_one,add_zero];rw[show(ofInt 1:F)=0+1 from rfl,zero_add,one_mul]
 |num n=>
  simp only[norm];split
  ·rename_i h;subst h;rfl
  ·simp only[jR,rT,den,mul_one,add_zero]
 |add a b J8 J9=>simp only[norm,den,aAq,J8,J9]
 |mul a b J8 J9=>simp only[norm,den,aJx,J8,J9]
 |neg a ih=>simp only[norm,den,aAr,ih]
 |sub a b J8 J9=>simp only[norm,den,aAq,aAr,J8,J9,sub_def]
 |one=>simp only[norm,jR,rT,den,mul_one,add_zero];rw[show(ofInt 1:F)=0+1 from rfl,zero_add]
theorem aJy{p q:Poly}(h:peq p q=true):p=q:=by
 induction p generalizing q with
 |nil=>cases q<;>simp_all [peq]
 |cons x p ih=>
  obtain⟨m,a⟩:=x;cases q with
  |nil=>simp[peq]at h
  |cons y q=>
   obtain⟨n,b⟩:=y;simp only[peq,da,beq_iff_eq]at h;rw[aAo h.1.1,h.1.2,ih h.2]
theorem prove(l r:E)(h:peq l.norm r.norm=true):l.den ρ=r.den ρ:=by rw[<-aAs,<-aAs,aJy h]
end
end E
def rU{F:Type}[CR F](l:List F):Nat->F:=λi=>l.getD i 0
end
section
open CR
class OF (F:Type) extends CR F,Inv F where
 lJ:∀ x:F,x≠0->x*x⁻¹=1
 inv_zero:(0:F)⁻¹=0
 az:F->Int
 e8:∀ x:F,az x=0↔x=0
 iy:∀ x:F,az x=-1\/az x=0\/az x=1
 pd:∀ x:F,az (-x)=- az x
 mh:∀ x y:F,az (x*y)=az x*az y
 CX:∀ x y:F,az x=1->az y=1->az (x+y)=1
 Hn:az (1:F)=1
namespace OF
variable{F:Type}[OF F]
instance:LT F:=⟨λa b=>az (b-a)=1⟩
instance:LE F:=⟨λa b=>az (b-a)≠-1⟩
theorem lt_def(a b:F):(a<b)=(az (b-a)=1):=rfl
theorem le_def(a b:F):(a<=b)=(az (b-a)≠-1):=rfl
instance(a b:F):Decidable (a<b):=inferInstanceAs (Decidable (az (b-a)=1))
instance(a b:F):Decidable (a<=b):=inferInstanceAs (Decidable (az (b-a)≠-1))
theorem Ho(a:F)(l r:E->E)(h:E.peq (l (.var 0)).norm (r (.var 0)).norm=true):(l (.var 0)).den (rU [a])=(r (.var 0)).den (rU [a]):=E.prove _ _ _ h
theorem km(a b:F)(l r:E->E->E)(h:E.peq (l (.var 0) (.var 1)).norm (r (.var 0) (.var 1)).norm=true):
  (l (.var 0) (.var 1)).den (rU [a,b])=(r (.var 0) (.var 1)).den (rU [a,b]):=E.prove _ _ _ h
theorem kZ(a b c:F)(l r:E->E->E->E)(h:E.peq (l (.var 0) (.var 1) (.var 2)).norm (r (.var 0) (.var 1) (.var 2)).norm=true):
  (l (.var 0) (.var 1) (.var 2)).den (rU [a,b,c])=(r (.var 0) (.var 1) (.var 2)).den (rU [a,b,c]):=E.prove _ _ _ h
theorem E3(a b c d:F)(l r:E->E->E->E->E)(h:E.peq (l (.var 0) (.var 1) (.var 2) (.var 3)).norm (r (.var 0) (.var 1) (.var 2) (.var 3)).norm=true):
  (l (.var 0) (.var 1) (.var 2) (.var 3)).den (rU [a,b,c,d])=(r (.var 0) (.var 1) (.var 2) (.var 3)).den (rU [a,b,c,d]):=E.prove _ _ _ h
theorem Ka(a b c d e:F)(l r:E->E->E->E->E->E)
  (h:E.peq (l (.var 0) (.var 1) (.var 2) (.var 3) (.var 4)).norm (r (.var 0) (.var 1) (.var 2) (.var 3) (.var 4)).norm=true) :
  (l (.var 0) (.var 1) (.var 2) (.var 3) (.var 4)).den (rU [a,b,c,d,e])=(r (.var 0) (.var 1) (.var 2) (.var 3) (.var 4)).den (rU [a,b,c,d,e]):=E.prove _ _ _ h
theorem aJz(a b c d e f:F)(l r:E->E->E->E->E->E->E)
  (h:E.peq (l (.var 0) (.var 1) (.var 2) (.var 3) (.var 4) (.var 5)).norm (r (.var 0) (.var 1) (.var 2) (.var 3) (.var 4) (.var 5)).norm=true) :
  (l (.var 0) (.var 1) (.var 2) (.var 3) (.var 4) (.var 5)).den (rU [a,b,c,d,e,f])=(r (.var 0) (.var 1) (.var 2) (.var 3) (.var 4) (.var 5)).den (rU [a,b,c,d,e,f]):=E.prove _ _ _ h
theorem sub_zero(a:F):a-0=a:=Ho a (λa=>a-0) (λa=>a) d_
theorem sub_self(a:F):a-a=0:=Ho a (λa=>a-a) (λ_=>0) d_
theorem sub_eq_zero{a b:F}:a-b=0↔a=b:=by
 constructor
 ·intro h;have:a=(a-b)+b:=km a b (λa _=>a) (λa b=>(a-b)+b) d_;rw[this,h,CR.zero_add]
 ·rintro rfl;exact sub_self a
theorem iz{a:F}:0<a↔az a=1:=by rw[lt_def,sub_zero]
theorem Hp{a:F}:a<0↔az a=-1:=by rw[lt_def,show(0:F)-a=-a from Ho a (λa=>0-a) (λa=>-a) d_,pd];omega
theorem NK{a:F}:a=0↔az a=0:=(e8 a).symm
theorem Kb{a:F}:0<=a↔az a≠-1:=by rw[le_def,sub_zero]
theorem Th{a:F}:a<=0↔az a≠1:=by rw[le_def,show(0:F)-a=-a from Ho a (λa=>0-a) (λa=>-a) d_,pd];omega
theorem neg_sub(a b:F):-(a-b)=b-a:=km a b (λa b=>-(a-b)) (λa b=>b-a) d_
theorem CY(a b:F):az (a-b)=- az (b-a):=by rw[<-neg_sub,pd]
theorem lt_irrefl(a:F):¬a<a:=by rw[lt_def,sub_self,(e8 (0:F)).2 rfl];decide
theorem not_lt{a b:F}:¬a<b↔b<=a:=by rw[lt_def,le_def,CY a b];omega
theorem not_le{a b:F}:¬a<=b↔b<a:=by rw[lt_def,le_def,CY a b];rcases iy (b-a)with h|h|h<;>rw[h]<;>decide
theorem lt_trans{a b c:F}(h:a<b)(k:b<c):a<c:=by rw[lt_def]at *;rw[show c-a=(c-b)+(b-a)from kZ a b c (λa _ c=>c-a) (λa b c=>(c-b)+(b-a)) d_];exact CX _ _ k h
theorem le_of_lt{a b:F}(h:a<b):a<=b:=by rw[lt_def]at h;rw[le_def,h];decide
theorem le_refl(a:F):a<=a:=by rw[le_def,sub_self,(e8 (0:F)).2 rfl];decide
theorem le_of_eq{a b:F}(h:a=b):a<=b:=h▸le_refl a
theorem pf{a b:F}(h:a<=b):a<b\/a=b:=by
 rw[le_def]at h;rw[lt_def];rcases iy (b-a)with k|k|k
 ·exact absurd k h
 ·exact .inr (sub_eq_zero.1 ((e8 _).1 k)).symm
 ·exact .inl k
theorem lt_of_lt_of_le{a b c:F}(h:a<b)(k:b<=c):a<c:=by
 rcases pf k with k|rfl
 ·exact lt_trans h k
 ·exact h
theorem lt_of_le_of_lt{a b c:F}(h:a<=b)(k:b<c):a<c:=by
 rcases pf h with h|rfl
 ·exact lt_trans h k
 ·exact k
theorem le_trans{a b c:F}(h:a<=b)(k:b<=c):a<=c:=by
 rcases pf h with h|rfl
 ·exact le_of_lt (lt_of_lt_of_le h k)
 ·exact k
theorem le_antisymm{a b:F}(h:a<=b)(k:b<=a):a=b:=by
 rcases pf h with h|h
 ·exact absurd (lt_of_lt_of_le h k) (lt_irrefl a)
 ·exact h
theorem lt_trichotomy(a b:F):a<b\/a=b\/b<a:=by
 by_cases h:a<b
 ·exact .inl h
 ·rcases pf (not_lt.1 h)with h|h
  ·exact .inr (.inr h)
  ·exact .inr (.inl h.symm)
theorem le_total(a b:F):a<=b\/b<=a:=by
 by_cases h:a<b
 ·exact .inl (le_of_lt h)
 ·exact .inr (not_lt.1 h)
theorem ne_of_lt{a b:F}(h:a<b):a≠b:=λe=>lt_irrefl b (e▸h)
theorem ne_of_gt{a b:F}(h:a<b):b≠a:=λe=>lt_irrefl b (e▸h)
theorem sub_pos{a b:F}:0<b-a↔a<b:=by rw[iz,lt_def]
theorem sub_nonneg{a b:F}:0<=b-a↔a<=b:=by rw[Kb,le_def]
theorem add_pos{a b:F}(h:0<a)(k:0<b):0<a+b:=by rw[iz]at *;exact CX _ _ h k
theorem add_nonneg{a b:F}(h:0<=a)(k:0<=b):0<=a+b:=by
 rcases pf h with h|h
 ·rcases pf k with k|k
  ·exact le_of_lt (add_pos h k)
  ·rw[<-k,CR.add_zero];exact le_of_lt h
 ·rw[<-h,CR.zero_add];exact k
theorem Hq{a b:F}(h:0<a)(k:0<=b):0<a+b:=by
 rcases pf k with k|k
 ·exact add_pos h k
 ·rw[<-k,CR.add_zero];exact h
theorem aAt{a b:F}(h:0<=a)(k:0<b):0<a+b:=by rw[CR.add_comm];exact Hq k h
theorem mul_pos{a b:F}(h:0<a)(k:0<b):0<a*b:=by rw[iz]at *;rw[mh,h,k];rfl
theorem mul_nonneg{a b:F}(h:0<=a)(k:0<=b):0<=a*b:=by
 rcases pf h with h|h
 ·rcases pf k with k|k
  ·exact le_of_lt (mul_pos h k)
  ·rw[<-k,CR.mul_zero];exact le_refl _
 ·rw[<-h,CR.zero_mul];exact le_refl _
theorem neg_pos{a:F}:0 < -a↔a<0:=by rw[iz,Hp,pd];omega
theorem neg_nonneg{a:F}:0<=-a↔a<=0:=by rw[Kb,Th,pd];omega
theorem Kc{a:F}:-a<0↔0<a:=by rw[iz,Hp,pd];omega
theorem Kd{a:F}:-a<=0↔0<=a:=by rw[Kb,Th,pd];omega
theorem zero_lt_one:(0:F)<1:=by rw[iz];exact Hn
theorem mO(a:F):0<=a*a:=by rw[Kb,mh];rcases iy a with h|h|h<;>rw[h]<;>decide
theorem Ti{a:F}(h:a≠0):0<a*a:=by
 rw[iz,mh];rcases iy a with k|k|k
 ·rw[k];decide
 ·exact absurd ((e8 a).1 k) h
 ·rw[k];decide
theorem mul_eq_zero{a b:F}:a*b=0↔a=0\/b=0:=by rw[<-e8,mh,<-e8,<-e8,Int.mul_eq_zero]
theorem mul_ne_zero{a b:F}(h:a≠0)(k:b≠0):a*b≠0:=λe=>by
 rcases mul_eq_zero.1 e with e|e
 ·exact h e
 ·exact k e
theorem mul_lt_mul_left{a b c:F}(hc:0<c):c*a<c*b↔a<b:=by rw[lt_def,lt_def,show c*b-c*a=c*(b-a)from kZ a b c (λa b c=>c*b-c*a) (λa b c=>c*(b-a)) d_,mh,iz.1 hc,NG]
theorem mul_le_mul_left{a b c:F}(hc:0<c):c*a<=c*b↔a<=b:=by rw[le_def,le_def,show c*b-c*a=c*(b-a)from kZ a b c (λa b c=>c*b-c*a) (λa b c=>c*(b-a)) d_,mh,iz.1 hc,NG]
theorem add_lt_add_left{a b:F}(c:F):c+a<c+b↔a<b:=by rw[lt_def,lt_def,show c+b-(c+a)=b-a from kZ a b c (λa b c=>c+b-(c+a)) (λa b _=>b-a) d_]
theorem add_le_add_left{a b:F}(c:F):c+a<=c+b↔a<=b:=by rw[le_def,le_def,show c+b-(c+a)=b-a from kZ a b c (λa b c=>c+b-(c+a)) (λa b _=>b-a) d_]
theorem add_lt_add_right{a b:F}(c:F):a+c<b+c↔a<b:=by rw[CR.add_comm a,CR.add_comm b];exact add_lt_add_left c
theorem add_le_add_right{a b:F}(c:F):a+c<=b+c↔a<=b:=by rw[CR.add_comm a,CR.add_comm b];exact add_le_add_left c
theorem add_le_add{a b c d:F}(h:a<=b)(k:c<=d):a+c<=b+d:=le_trans ((add_le_add_right c).2 h) ((add_le_add_left b).2 k)
theorem add_lt_add_of_lt_of_le{a b c d:F}(h:a<b)(k:c<=d):a+c<b+d:=lt_of_lt_of_le ((add_lt_add_right c).2 h) ((add_le_add_left b).2 k)
theorem add_lt_add_of_le_of_lt{a b c d:F}(h:a<=b)(k:c<d):a+c<b+d:=lt_of_le_of_lt ((add_le_add_right c).2 h) ((add_lt_add_left b).2 k)
theorem inv_mul{a:F}(h:a≠0):a⁻¹*a=1:=by rw[CR.mul_comm,lJ a h]
theorem aJA(a:F):az a⁻¹=az a:=by
 by_cases h:a=0
 ·rw[h,inv_zero]
 ·have:=mh a a⁻¹;rw[lJ a h,Hn]at this;rcases iy a with k|k|k<;>rcases iy a⁻¹ with l|l|l<;>rw[k,l]at this ⊢<;>omega
theorem inv_pos{a:F}(h:0<a):0<a⁻¹:=by rw[iz]at *;rw[aJA,h]
theorem Ke{u v:F}(h:v*v<u*u):az (u+v)=az u:=by
 have e:(u+v)*(u-v)=u*u-v*v:=km u v (λu v=>(u+v)*(u-v)) (λu v=>u*u-v*v) d_;have s:az (u+v)*az (u-v)=1:=by rw[<-mh,e];exact h
 have t:(u+v)+(u-v)=u+u:=km u v (λu v=>(u+v)+(u-v)) (λu _=>u+u) d_;have two:∀ x y:F,az x=1->az y=1->x+y=u+u->az u=1:=by
  intro x y hx hy kj;have:=CX x y hx hy;rw[kj]at this;rcases iy u with k|k|k
  ·have h2:=CX (-u) (-u) (by rw[pd,k];rfl) (by rw[pd,k];rfl);rw[<-CR.CW,pd,this]at h2;exact absurd h2 d_
  ·rw[(e8 u).1 k,CR.add_zero,(e8 (0:F)).2 rfl]at this;exact absurd this d_
  ·exact k
 rcases iy (u+v)with k|k|k<;>rcases iy (u-v)with l|l|l<;>rw[k,l]at s<;>first|exact absurd s d_|skip
 ·have h1:=CX (-(u+v)) (-(u-v)) (by rw[pd,k];rfl) (by rw[pd,l];rfl);rw[<-CR.CW,t,CR.CW]at h1;rw[k];rcases iy u with m|m|m
  ·exact m.symm
  ·rw[(e8 u).1 m,CR.neg_zero,CR.add_zero,(e8 (0:F)).2 rfl]at h1;exact absurd h1 d_
  ·have h2:=CX u u m m;rw[<-CR.CW,pd,h2]at h1;exact absurd h1 d_
 ·rw[k,two _ _ k l t]
theorem aAu{a b:F}(h:0<a):az (a*b)=az b:=by rw[mh,iz.1 h,NG]
theorem mul_lt_mul''{a b c d:F}(ha:0<=a)(h:a<b)(hc:0<=c)(k:c<d):a*c<b*d:=by have hb:=lt_of_le_of_lt ha h;have hd:=lt_of_le_of_lt hc k;have e:b*d-a*c=(b-a)*d+a*(d-c):=E3 a b c d (λa b c d=>b*d-a*c) (λa b c d=>(b-a)*d+a*(d-c)) d_;rw[<-sub_pos,e];exact Hq (mul_pos (sub_pos.2 h) hd) (mul_nonneg ha (sub_nonneg.2 (le_of_lt k)))
end OF
end
section
open CR OF
class xi (F:Type) [OF F] (s:F):Prop where
 pos:0<s
 Tj:∀ x y:F,x*x=s*(y*y)->y=0
@[ext] structure bE (F:Type) (s:F) where
 re:F
 im:F
namespace bE
variable{F:Type}[OF F]{s:F}
instance:Add (bE F s):=⟨λx y=>⟨x.re+y.re,x.im+y.im⟩⟩
instance:Mul (bE F s):=⟨λx y=>⟨x.re*y.re+s*(x.im*y.im),x.re*y.im+x.im*y.re⟩⟩
instance:Neg (bE F s):=⟨λx=>⟨-x.re,-x.im⟩⟩
instance:Sub (bE F s):=⟨λx y=>⟨x.re-y.re,x.im-y.im⟩⟩
instance:Zero (bE F s):=⟨⟨0,0⟩⟩
instance:One (bE F s):=⟨⟨1,0⟩⟩
def nm(x:bE F s):F:=x.re*x.re-s*(x.im*x.im)
instance:Inv (bE F s):=⟨λx=>⟨x.re*(nm x)⁻¹,-(x.im*(nm x)⁻¹)⟩⟩
def sg(x:bE F s):Int:=if az (nm x)=1 then az x.re else az x.im
theorem Tk(x y:bE F s):(x+y).re=x.re+y.re:=rfl
theorem Tl(x y:bE F s):(x+y).im=x.im+y.im:=rfl
theorem Hr(x y:bE F s):(x*y).re=x.re*y.re+s*(x.im*y.im):=rfl
theorem Hs(x y:bE F s):(x*y).im=x.re*y.im+x.im*y.re:=rfl
theorem NL(x:bE F s):(-x).re=-x.re:=rfl
theorem NM(x:bE F s):(-x).im=-x.im:=rfl
theorem Ht:(0:bE F s).re=0:=rfl
theorem Hu:(0:bE F s).im=0:=rfl
theorem Tm:(1:bE F s).re=1:=rfl
theorem aAv:(1:bE F s).im=0:=rfl
theorem Tn(x:bE F s):(x⁻¹).re=x.re*(nm x)⁻¹:=rfl
theorem To(x:bE F s):(x⁻¹).im=-(x.im*(nm x)⁻¹):=rfl
theorem NN(x y:bE F s):nm (x*y)=nm x*nm y:=by
 unfold nm;rw[Hr,Hs]
 exact Ka x.re x.im y.re y.im s (λa b c d s=>(a*c+s*(b*d))*(a*c+s*(b*d))-s*((a*d+b*c)*(a*d+b*c)))
  (λa b c d s=>(a*a-s*(b*b))*(c*c-s*(d*d))) d_
theorem aAw(x:bE F s):nm (-x)=nm x:=by unfold nm;rw[NL,NM];exact kZ x.re x.im s (λa b s=>-a*-a-s*(-b*-b)) (λa b s=>a*a-s*(b*b)) d_
theorem rV{x:bE F s}(h:az (nm x)=1):sg x=az x.re:=by unfold sg;rw[aw h]
theorem tv{x:bE F s}(h:az (nm x)=-1):sg x=az x.im:=by unfold sg;rw[ao (by rw[h];decide)]
theorem Hv:sg (0:bE F s)=0:=by unfold sg;split<;>exact(e8 _).2 rfl
theorem Tp(x:bE F s):sg (-x)=- sg x:=by unfold sg;rw[aAw,NL,NM,OF.pd,OF.pd];split<;>rfl
theorem aJB(x:bE F s):sg x=-1\/sg x=0\/sg x=1:=by unfold sg;split<;>exact iy _
theorem NO(x:bE F s):(-x).re*(-x).re=x.re*x.re/\(-x).im*(-x).im=x.im*x.im:=by rw[NL,NM];exact⟨Ho x.re (λa=>-a*-a) (λa=>a*a) d_,Ho x.im (λa=>-a*-a) (λa=>a*a) d_⟩
theorem aJC(x y:bE F s):x+y=y+x:=bE.ext (CR.add_comm _ _) (CR.add_comm _ _)
theorem aJD:sg (1:bE F s)=1:=by
 have:nm (1:bE F s)=1:=by unfold nm;rw[Tm,aAv,CR.mul_zero,CR.mul_zero,OF.sub_zero,CR.one_mul]
 rw[rV (by rw[this];exact Hn),Tm];exact Hn
variable[hs:xi F s]
theorem NP{x:bE F s}(h:nm x=0):x=0:=by
 have h1:=OF.sub_eq_zero.1 h;have h2:=xi.Tj _ _ h1;have h3:x.re=0:=by rw[h2,CR.mul_zero,CR.mul_zero]at h1;rcases mul_eq_zero.1 h1 with h|h<;>exact h
 exact bE.ext h3 h2
theorem ways(x:bE F s):x=0\/(az (nm x)=1/\s*(x.im*x.im)<x.re*x.re)\/(az (nm x)=-1/\x.re*x.re<s*(x.im*x.im)):=by
 rcases OF.lt_trichotomy (x.re*x.re) (s*(x.im*x.im))with h|h|h
 ·refine .inr (.inr ⟨?_,h⟩);unfold nm;rw[CY,show az (s*(x.im*x.im)-x.re*x.re)=1 from h]
 ·exact .inl (NP (OF.sub_eq_zero.2 h))
 ·exact .inr (.inl ⟨h,h⟩)
theorem aJE:az s=1:=iz.1 (xi.pos (F:=F) (s:=s))
theorem aJF(x y:bE F s):sg (x*y)=sg x*sg y:=by
 have hz:∀ z:bE F s,(0:bE F s)*z=0:=λz=>by
  apply bE.ext
  ·rw[Hr,Ht,Hu,CR.zero_mul,CR.zero_mul,CR.mul_zero,CR.add_zero]
  ·rw[Hs,Ht,Hu,CR.zero_mul,CR.zero_mul,CR.add_zero]
 have nV:∀ z:bE F s,z*(0:bE F s)=0:=λz=>by
  apply bE.ext
  ·rw[Hr,Ht,Hu,CR.mul_zero,CR.mul_zero,CR.mul_zero,CR.add_zero]
  ·rw[Hs,Ht,Hu,CR.mul_zero,CR.mul_zero,CR.add_zero]
 have hp:=xi.pos (F:=F) (s:=s);rcases ways x with rfl|⟨hx,lx⟩|⟨hx,lx⟩
 ·rw[hz,Hv,Int.zero_mul]
 ·rcases ways y with rfl|⟨hy,ly⟩|⟨hy,ly⟩
  ·rw[nV,Hv,Int.mul_zero]
  ·have hn:az (nm (x*y))=1:=by rw[NN,mh,hx,hy];rfl
   rw[rV hx,rV hy,rV hn,<-mh,Hr];apply Ke;have:=mul_lt_mul'' (mul_nonneg (le_of_lt hp) (mO _)) lx (mul_nonneg (le_of_lt hp) (mO _)) ly;rw[show s*(x.im*y.im)*(s*(x.im*y.im))=s*(x.im*x.im)*(s*(y.im*y.im))from kZ x.im y.im s (λb d s=>s*(b*d)*(s*(b*d))) (λb d s=>s*(b*b)*(s*(d*d))) d_];rw[show x.re*y.re*(x.re*y.re)=x.re*x.re*(y.re*y.re)from km x.re y.re (λa c=>a*c*(a*c)) (λa c=>a*a*(c*c)) d_];exact this
  ·have hn:az (nm (x*y))=-1:=by rw[NN,mh,hx,hy];rfl
   rw[rV hx,tv hy,tv hn,<-mh,Hs];apply Ke;have:=mul_lt_mul'' (mul_nonneg (le_of_lt hp) (mO _)) lx (mO _) ly;rw[<-mul_lt_mul_left hp];rw[show s*(x.im*y.re*(x.im*y.re))=s*(x.im*x.im)*(y.re*y.re)from kZ x.im y.re s (λb c s=>s*(b*c*(b*c))) (λb c s=>s*(b*b)*(c*c)) d_];rw[show s*(x.re*y.im*(x.re*y.im))=x.re*x.re*(s*(y.im*y.im))from kZ x.re y.im s (λa d s=>s*(a*d*(a*d))) (λa d s=>a*a*(s*(d*d))) d_];exact this
 ·rcases ways y with rfl|⟨hy,ly⟩|⟨hy,ly⟩
  ·rw[nV,Hv,Int.mul_zero]
  ·have hn:az (nm (x*y))=-1:=by rw[NN,mh,hx,hy];rfl
   rw[tv hx,rV hy,tv hn,<-mh,Hs,CR.add_comm];apply Ke;have:=mul_lt_mul'' (mO _) lx (mul_nonneg (le_of_lt hp) (mO _)) ly;rw[<-mul_lt_mul_left hp];rw[show s*(x.im*y.re*(x.im*y.re))=s*(x.im*x.im)*(y.re*y.re)from kZ x.im y.re s (λb c s=>s*(b*c*(b*c))) (λb c s=>s*(b*b)*(c*c)) d_];rw[show s*(x.re*y.im*(x.re*y.im))=x.re*x.re*(s*(y.im*y.im))from kZ x.re y.im s (λa d s=>s*(a*d*(a*d))) (λa d s=>a*a*(s*(d*d))) d_];exact this
  ·have hn:az (nm (x*y))=1:=by rw[NN,mh,hx,hy];rfl
   rw[tv hx,tv hy,rV hn,<-mh,Hr,CR.add_comm];rw[show az (x.im*y.im)=az (s*(x.im*y.im))by rw[aAu hp]];apply Ke;have:=mul_lt_mul'' (mO _) lx (mO _) ly;rw[show s*(x.im*y.im)*(s*(x.im*y.im))=s*(x.im*x.im)*(s*(y.im*y.im))from kZ x.im y.im s (λb d s=>s*(b*d)*(s*(b*d))) (λb d s=>s*(b*b)*(s*(d*d))) d_];rw[show x.re*y.re*(x.re*y.re)=x.re*x.re*(y.re*y.re)from km x.re y.re (λa c=>a*c*(a*c)) (λa c=>a*a*(c*c)) d_];exact this
theorem aJG(x:bE F s):sg x=0↔x=0:=by
 constructor
 ·intro h;rcases ways x with rfl|⟨hx,lx⟩|⟨hx,lx⟩
  ·rfl
  ·rw[rV hx]at h;rw[(e8 _).1 h,CR.mul_zero]at lx;exact absurd (lt_of_le_of_lt (mul_nonneg (le_of_lt (xi.pos (F:=F) (s:=s))) (mO _)) lx) (OF.lt_irrefl _)
  ·rw[tv hx]at h;rw[(e8 _).1 h,CR.mul_zero,CR.mul_zero]at lx;exact absurd (lt_of_le_of_lt (mO _) lx) (OF.lt_irrefl _)
 ·rintro rfl;exact Hv
theorem aAx{u v:F}(hu:0<u)(h:v*v<u*u):0<u+v:=by rw[iz,Ke h];exact iz.1 hu
theorem add_one{x y:bE F s}(hx:s*(x.im*x.im)<x.re*x.re)(hy:s*(y.im*y.im)<y.re*y.re)(px:0<x.re)(py:0<y.re):sg (x+y)=1:=by
 have hp:=xi.pos (F:=F) (s:=s);have:=mul_lt_mul'' (mul_nonneg (le_of_lt hp) (mO _)) hx (mul_nonneg (le_of_lt hp) (mO _)) hy;have h1:0<x.re*y.re+-(s*(x.im*y.im)):=by apply aAx (mul_pos px py);rw[show -(s*(x.im*y.im))*-(s*(x.im*y.im))=s*(x.im*x.im)*(s*(y.im*y.im))from kZ x.im y.im s (λb d s=>-(s*(b*d))*-(s*(b*d))) (λb d s=>s*(b*b)*(s*(d*d))) d_];rw[show x.re*y.re*(x.re*y.re)=x.re*x.re*(y.re*y.re)from km x.re y.re (λa c=>a*c*(a*c)) (λa c=>a*a*(c*c)) d_];exact this
 have hn:az (nm (x+y))=1:=by
  rw[<-iz];unfold nm;rw[Tk,Tl];rw[show(x.re+y.re)*(x.re+y.re)-s*((x.im+y.im)*(x.im+y.im))=(x.re*x.re-s*(x.im*x.im))+(y.re*y.re-s*(y.im*y.im))+((x.re*y.re+-(s*(x.im*y.im)))+(x.re*y.re+-(s*(x.im*y.im))))from
   Ka x.re x.im y.re y.im s (λa b c d s=>(a+c)*(a+c)-s*((b+d)*(b+d))) (λa b c d s=>(a*a-s*(b*b))+(c*c-s*(d*d))+((a*c+-(s*(b*d)))+(a*c+-(s*(b*d))))) d_]
  exact add_pos (add_pos (sub_pos.2 hx) (sub_pos.2 hy)) (add_pos h1 h1)
 rw[rV hn,Tk];exact iz.1 (add_pos px py)
theorem aAy{x y:bE F s}(hx:x.re*x.re<s*(x.im*x.im))(hy:y.re*y.re<s*(y.im*y.im))(px:0<x.im)(py:0<y.im):sg (x+y)=1:=by
 have hp:=xi.pos (F:=F) (s:=s);have:=mul_lt_mul'' (mO _) hx (mO _) hy;have h1:0<s*(x.im*y.im)+-(x.re*y.re):=by apply aAx (mul_pos hp (mul_pos px py));rw[show s*(x.im*y.im)*(s*(x.im*y.im))=s*(x.im*x.im)*(s*(y.im*y.im))from kZ x.im y.im s (λb d s=>s*(b*d)*(s*(b*d))) (λb d s=>s*(b*b)*(s*(d*d))) d_];rw[show -(x.re*y.re)*-(x.re*y.re)=x.re*x.re*(y.re*y.re)from km x.re y.re (λa c=>-(a*c)*-(a*c)) (λa c=>a*a*(c*c)) d_];exact this
 have hn:az (nm (x+y))=-1:=by
  rw[<-Hp,<-neg_pos];unfold nm;rw[Tk,Tl];rw[show -((x.re+y.re)*(x.re+y.re)-s*((x.im+y.im)*(x.im+y.im)))=(s*(x.im*x.im)-x.re*x.re)+(s*(y.im*y.im)-y.re*y.re)+((s*(x.im*y.im)+-(x.re*y.re))+(s*(x.im*y.im)+-(x.re*y.re)))from
   Ka x.re x.im y.re y.im s (λa b c d s=>-((a+c)*(a+c)-s*((b+d)*(b+d)))) (λa b c d s=>(s*(b*b)-a*a)+(s*(d*d)-c*c)+((s*(b*d)+-(a*c))+(s*(b*d)+-(a*c)))) d_]
  exact add_pos (add_pos (sub_pos.2 hx) (sub_pos.2 hy)) (add_pos h1 h1)
 rw[tv hn,Tl];exact iz.1 (add_pos px py)
theorem aJH(x y:bE F s)(hx:sg x=1)(hy:sg y=1):sg (x+y)=1:=by
 have ne:∀ z:bE F s,sg z=1->z≠0:=λz h e=>by rw[e,Hv]at h;exact absurd h d_
 -- the first part of x aUD,the second one of y
 have mixed:∀ x y:bE F s,sg x=1->sg y=1->az (nm x)=1->s*(x.im*x.im)<x.re*x.re->az (nm y)=-1->y.re*y.re<s*(y.im*y.im)->sg (x+y)=1:=by
  intro x y hx hy nx lx ny ly;rw[rV nx]at hx;rw[tv ny]at hy;rcases ways (x+y)with h|⟨hn,ln⟩|⟨hn,ln⟩
  ·have:y=-x:=by have h1:x.re+y.re=0:=cI bE.re h;have h2:x.im+y.im=0:=cI bE.im h;exact bE.ext (CR.Hl h1) (CR.Hl h2)
   rw[this,aAw,nx]at ny;exact absurd ny d_
  ·rw[rV hn];rcases iy (x+y).re with k|k|k
   ·-- then -(x+y) and x add up to -y
    have h3:=add_one (x:=-(x+y)) (y:=x) (by rw[(NO _).1,(NO _).2];exact ln) lx (by rw[NL];exact neg_pos.2 (Hp.2 k)) (iz.2 hx);have h4:-(x+y)+x=-y:=bE.ext (km x.re y.re (λa c=>-(a+c)+a) (λ_ c=>-c) d_) (km x.im y.im (λa c=>-(a+c)+a) (λ_ c=>-c) d_);rw[h4,Tp,tv ny,hy]at h3;exact absurd h3 d_
   ·have k0:=(e8 _).1 k;rw[k0,CR.mul_zero]at ln;exact absurd (lt_of_le_of_lt (mul_nonneg (le_of_lt (xi.pos (F:=F) (s:=s))) (mO _)) ln) (OF.lt_irrefl _)
   ·exact k
  ·rw[tv hn];rcases iy (x+y).im with k|k|k
   ·have h3:=aAy (x:=-(x+y)) (y:=y) (by rw[(NO _).1,(NO _).2];exact ln) ly (by rw[NM];exact neg_pos.2 (Hp.2 k)) (iz.2 hy);have h4:-(x+y)+y=-x:=bE.ext (km x.re y.re (λa c=>-(a+c)+c) (λa _=>-a) d_) (km x.im y.im (λa c=>-(a+c)+c) (λa _=>-a) d_);rw[h4,Tp,rV nx,hx]at h3;exact absurd h3 d_
   ·have k0:=(e8 _).1 k;rw[k0,CR.mul_zero,CR.mul_zero]at ln;exact absurd (lt_of_le_of_lt (mO _) ln) (OF.lt_irrefl _)
   ·exact k
 rcases ways x with h|⟨nx,lx⟩|⟨nx,lx⟩
 ·exact absurd h (ne x hx)
 ·rcases ways y with h|⟨ny,ly⟩|⟨ny,ly⟩
  ·exact absurd h (ne y hy)
  ·rw[rV nx]at hx;rw[rV ny]at hy;exact add_one lx ly (iz.2 hx) (iz.2 hy)
  ·exact mixed x y hx hy nx lx ny ly
 ·rcases ways y with h|⟨ny,ly⟩|⟨ny,ly⟩
  ·exact absurd h (ne y hy)
  ·rw[aJC];exact mixed y x hy hx ny ly nx lx
  ·rw[tv nx]at hx;rw[tv ny]at hy;exact aAy lx ly (iz.2 hx) (iz.2 hy)
instance:OF (bE F s) where
 add_assoc a b c:=bE.ext (CR.add_assoc _ _ _) (CR.add_assoc _ _ _)
 add_comm a b:=bE.ext (CR.add_comm _ _) (CR.add_comm _ _)
 zero_add a:=bE.ext (CR.zero_add _) (CR.zero_add _)
 neg_add a:=bE.ext (CR.neg_add _) (CR.neg_add _)
 mul_assoc x y z:=bE.ext
  (E.prove (rU [x.re,x.im,y.re,y.im,z.re,z.im,s]) ((E.var 0*E.var 2+E.var 6*(E.var 1*E.var 3))*E.var 4+E.var 6*((E.var 0*E.var 3+E.var 1*E.var 2)*E.var 5))
   (E.var 0*(E.var 2*E.var 4+E.var 6*(E.var 3*E.var 5))+E.var 6*(E.var 1*(E.var 2*E.var 5+E.var 3*E.var 4))) d_)
  (E.prove (rU [x.re,x.im,y.re,y.im,z.re,z.im,s]) ((E.var 0*E.var 2+E.var 6*(E.var 1*E.var 3))*E.var 5+(E.var 0*E.var 3+E.var 1*E.var 2)*E.var 4)
   (E.var 0*(E.var 2*E.var 5+E.var 3*E.var 4)+E.var 1*(E.var 2*E.var 4+E.var 6*(E.var 3*E.var 5))) d_)
 mul_comm x y:=bE.ext
  (Ka x.re x.im y.re y.im s (λa b c d s=>a*c+s*(b*d)) (λa b c d s=>c*a+s*(d*b)) d_)
  (E3 x.re x.im y.re y.im (λa b c d=>a*d+b*c) (λa b c d=>c*b+d*a) d_)
 one_mul x:=bE.ext
  (kZ x.re x.im s (λa b s=>1*a+s*(0*b)) (λa _ _=>a) d_)
  (km x.re x.im (λa b=>1*b+0*a) (λ_ b=>b) d_)
 mul_add x y z:=bE.ext
  (E.prove (rU [x.re,x.im,y.re,y.im,z.re,z.im,s]) (E.var 0*(E.var 2+E.var 4)+E.var 6*(E.var 1*(E.var 3+E.var 5)))
   ((E.var 0*E.var 2+E.var 6*(E.var 1*E.var 3))+(E.var 0*E.var 4+E.var 6*(E.var 1*E.var 5))) d_)
  (aJz x.re x.im y.re y.im z.re z.im (λa b c d e f=>a*(d+f)+b*(c+e)) (λa b c d e f=>(a*d+b*c)+(a*f+b*e)) d_)
 sub_def a b:=bE.ext (CR.sub_def _ _) (CR.sub_def _ _)
 lJ x h:=by
  have hn:nm x≠0:=λe=>h (NP e);have h1:=lJ (nm x) hn;apply bE.ext
  ·rw[Hr,Tn,To,Tm,<-h1];exact E3 x.re x.im s (nm x)⁻¹ (λa b s n=>a*(a*n)+s*(b*-(b*n))) (λa b s n=>(a*a-s*(b*b))*n) d_
  ·rw[Hs,Tn,To,aAv];exact kZ x.re x.im (nm x)⁻¹ (λa b n=>a*-(b*n)+b*(a*n)) (λ_ _ _=>0) d_
 inv_zero:=by
  apply bE.ext
  ·rw[Tn,Ht,CR.zero_mul]
  ·rw[To,Hu,CR.zero_mul,CR.neg_zero]
 az:=sg
 e8:=aJG
 iy:=aJB
 pd:=Tp
 mh:=aJF
 CX:=aJH
 Hn:=aJD
end bE
theorem Bl(q:Rat):q.num.sign=1↔0<q:=by rw[Int.sign_eq_one_iff_pos,Rat.lt_iff];simp
theorem Hw(q:Rat):q.num.sign=-1↔q<0:=by rw[aJI,Rat.lt_iff];simp
theorem Hx(q:Rat):q.num.sign=0↔q=0:=by rw[aJJ];exact Rat.num_eq_zero
theorem Tq(q:Rat):q.num.sign=-1\/q.num.sign=0\/q.num.sign=1:=by
 rcases NQ q.num 0 with h|h|h
 ·exact .inl (aJI.2 h)
 ·exact .inr (.inl (aJJ.2 h))
 ·exact .inr (.inr (Int.sign_eq_one_iff_pos.2 h))
instance:OF Rat where
 add_assoc:=Rat.add_assoc
 add_comm:=Rat.add_comm
 zero_add:=Rat.zero_add
 neg_add:=Rat.neg_add_cancel
 mul_assoc:=Rat.mul_assoc
 mul_comm:=Rat.mul_comm
 one_mul:=Rat.one_mul
 mul_add:=Rat.mul_add
 sub_def:=Rat.sub_eq_add_neg
 lJ:=λx h=>Hy x h
 inv_zero:=Rat.inv_zero
 az q:=q.num.sign
 e8:=Hx
 iy:=Tq
 pd q:=by rw[Rat.neg_num,Int.sign_neg]
 mh x y:=by
  rcases Tq x with h|h|h<;>rcases Tq y with k|k|k<;>rw[h,k]
  ·exact(Bl _).2 (by have:=(Hw _).1 h;have:=(Hw _).1 k;have h2:=Tr (a:=-x) (b:=-y) (by grind) (by grind);grind)
  ·rw[(Hx y).1 k,Rat.mul_zero];rfl
  ·exact(Hw _).2 (by have:=(Hw _).1 h;have:=(Bl _).1 k;have h2:=Tr (a:=-x) (b:=y) (by grind) (by grind);grind)
  ·rw[(Hx x).1 h,Rat.zero_mul];rfl
  ·rw[(Hx x).1 h,Rat.zero_mul];rfl
  ·rw[(Hx x).1 h,Rat.zero_mul];rfl
  ·exact(Hw _).2 (by have:=(Bl _).1 h;have:=(Hw _).1 k;have h2:=Tr (a:=x) (b:=-y) (by grind) (by grind);grind)
  ·rw[(Hx y).1 k,Rat.mul_zero];rfl
  ·exact(Bl _).2 (Tr ((Bl _).1 h) ((Bl _).1 k))
 CX x y h k:=(Bl _).2 (by have:=(Bl _).1 h;have:=(Bl _).1 k;grind)
 Hn:=rfl
theorem aJK(n:Nat)(hn:n=2\/n=3\/n=6)(p q:Nat)(h:p*p=n*(q*q))(hc:Nat.gcd p q=1):False:=by
 rcases hn with rfl|rfl|rfl
 ·have h1:p%2=0:=by
   have:(p*p)%2=0:=by rw[h];omega
   rcases Ts p with k|k
   ·exact k
   ·rw[Kf,k]at this;exact absurd this d_
  obtain⟨r,rfl⟩:∃ r,p=2*r:=⟨p/2,by omega⟩;have h2:q*q=2*(r*r):=by
   have:2*r*(2*r)=2*(2*(r*r)):=by simp only[fF,mJ]
   omega
  have h3:q%2=0:=by
   have:(q*q)%2=0:=by rw[h2];omega
   rcases Ts q with k|k
   ·exact k
   ·rw[Kf,k]at this;exact absurd this d_
  have:=Hz (Kg h1) (Kg h3);rw[hc]at this;exact absurd this d_
 ·have m3:∀ k:Nat,(k*k)%3=0->k%3=0:=by
   intro k hk;have:k%3=0\/k%3=1\/k%3=2:=by omega
   rcases this with e|e|e
   ·exact e
   ·rw[Kf,e]at hk;exact absurd hk d_
   ·rw[Kf,e]at hk;exact absurd hk d_
  have h1:p%3=0:=m3 p (by rw[h];omega);obtain⟨r,rfl⟩:∃ r,p=3*r:=⟨p/3,by omega⟩;have h2:q*q=3*(r*r):=by
   have:3*r*(3*r)=3*(3*(r*r)):=by simp only[fF,mJ]
   omega
  have h3:q%3=0:=m3 q (by rw[h2];omega);have:=Hz (Kg h1) (Kg h3);rw[hc]at this;exact absurd this d_
 ·have h1:p%2=0:=by
   have:(p*p)%2=0:=by rw[h];omega
   rcases Ts p with k|k
   ·exact k
   ·rw[Kf,k]at this;exact absurd this d_
  obtain⟨r,rfl⟩:∃ r,p=2*r:=⟨p/2,by omega⟩;have h2:3*(q*q)=2*(r*r):=by
   have:2*r*(2*r)=2*(2*(r*r)):=by simp only[fF,mJ]
   omega
  have h3:q%2=0:=by
   have:(q*q)%2=0:=by omega
   rcases Ts q with k|k
   ·exact k
   ·rw[Kf,k]at this;exact absurd this d_
  have:=Hz (Kg h1) (Kg h3);rw[hc]at this;exact absurd this d_
theorem Tt(n:Nat)(hn:n=2\/n=3\/n=6)(x:Rat)(h:x*x=(n:Rat)):False:=by
 have hd:(x.den:Rat)≠0:=by have:=x.den_nz;simpa[Rat.natCast_eq_zero_iff]using this
 have e:(x.num:Rat)*x.num=n*(x.den*x.den):=by
  have h3:x*(x.den:Rat)=x.num:=by have h4:(x.num:Rat)/x.den*x.den=x.num:=aAz hd;rw[<-Rat.mkRat_eq_div,Rat.mkRat_self]at h4;exact h4
  rw[<-h3,<-h];grind
 have e':x.num*x.num=n*(x.den*x.den):=by
  have:((x.num*x.num:Int):Rat)=((n*(x.den*x.den):Int):Rat):=by simp only[CZ,Rat.intCast_natCast];exact e
  exact Rat.intCast_inj.1 this
 have e'':x.num.natAbs*x.num.natAbs=n*(x.den*x.den):=by have:=cI Int.natAbs e';rw[uK]at this;rw[this];simp[uK]
 exact aJK n hn _ _ e'' x.reduced
theorem aJL{x y c:Rat}(h:x*x=c*(y*y))(hy:y≠0):(x*y⁻¹)*(x*y⁻¹)=c:=by
 have:=Hy y hy;have e:(x*y⁻¹)*(x*y⁻¹)=(x*x)*(y⁻¹*y⁻¹):=by grind
 rw[e,h];grind
instance aUE:xi Rat 2 where
 pos:=by rw[iz];rfl
 Tj x y h:=by
  by_cases hy:y=0
  ·exact hy
  ·exact(Tt 2 (.inl rfl) _ (aJL h hy)).elim
abbrev K2:=bE Rat 2
def xj:K2:=⟨3,0⟩
theorem aJM(x:K2)(h:x*x=xj):False:=by
 have h1:x.re*x.re+2*(x.im*x.im)=3:=cI bE.re h;have h2:x.re*x.im+x.im*x.re=0:=cI bE.im h;have h3:x.re=0\/x.im=0:=by
  have:x.re*x.im=0:=by grind
  exact Rat.mul_eq_zero.1 this
 rcases h3 with h3|h3
 ·have:(2*x.im)*(2*x.im)=((6:Nat):Rat):=by rw[h3]at h1;have:((6:Nat):Rat)=6:=rfl;grind
  exact Tt 6 (.inr (.inr rfl)) _ this
 ·have:x.re*x.re=((3:Nat):Rat):=by rw[h3]at h1;have:((3:Nat):Rat)=3:=rfl;grind
  exact Tt 3 (.inr (.inl rfl)) _ this
instance aUF:xi K2 xj where
 pos:=by rw[iz];decide +kernel
 Tj x y h:=by
  by_cases hy:y=0
  ·exact hy
  ·refine(aJM (x*y⁻¹) ?_).elim;have h1:=OF.lJ y hy;rw[show x*y⁻¹*(x*y⁻¹)=x*x*(y⁻¹*y⁻¹)from km x y⁻¹ (λx i=>x*i*(x*i)) (λx i=>x*x*(i*i)) d_,h];rw[show xj*(y*y)*(y⁻¹*y⁻¹)=xj*((y*y⁻¹)*(y*y⁻¹))from kZ y y⁻¹ xj (λy i t=>t*(y*y)*(i*i)) (λy i t=>t*((y*i)*(y*i))) d_,h1,CR.mul_one,CR.mul_one]
abbrev K:=bE K2 xj
instance:OF K:=inferInstance
instance:DecidableEq K2:=λx y=>decidable_of_iff (x.re=y.re/\x.im=y.im) ⟨λh=>bE.ext h.1 h.2,λh=>by subst h;exact⟨rfl,rfl⟩⟩
instance:DecidableEq K:=λx y=>decidable_of_iff (x.re=y.re/\x.im=y.im) ⟨λh=>bE.ext h.1 h.2,λh=>by subst h;exact⟨rfl,rfl⟩⟩
structure Fr where
 a:Int
 b:Int
 c:Int
 e:Int
 d:Int
theorem Fr.ext'{x y:Fr}(h1:x.a=y.a)(h2:x.b=y.b)(h3:x.c=y.c)(h4:x.e=y.e)(h5:x.d=y.d):x=y:=by cases x;cases y;simp at *;exact⟨h1,h2,h3,h4,h5⟩
def Fr.val(x:Fr):K:=⟨⟨Rat.divInt x.a x.d,Rat.divInt x.b x.d⟩,⟨Rat.divInt x.c x.d,Rat.divInt x.e x.d⟩⟩
def Fr.g(x:Fr):Nat:=Nat.gcd (Nat.gcd (Nat.gcd (Nat.gcd x.d.natAbs x.a.natAbs) x.b.natAbs) x.c.natAbs) x.e.natAbs
structure Fr.pg(x:Fr):Prop where
 pos:0<x.d
 one:x.g=1
theorem aJN{x:Fr}{k:Nat}(hd:k ∣ x.d.natAbs)(ha:k ∣ x.a.natAbs)(hb:k ∣ x.b.natAbs)(hc:k ∣ x.c.natAbs)(he:k ∣ x.e.natAbs):k ∣ x.g:=
 Hz (Hz (Hz (Hz hd ha) hb) hc) he
theorem E4(x:Fr):x.g ∣ x.d.natAbs:=C0 (C0 (C0 (Bm _ _) (Bm _ _)) (Bm _ _)) (Bm _ _)
theorem NR(x:Fr):x.g ∣ x.a.natAbs:=C0 (C0 (C0 (Bm _ _) (Bm _ _)) (Bm _ _)) (Tu _ _)
theorem NS(x:Fr):x.g ∣ x.b.natAbs:=C0 (C0 (Bm _ _) (Bm _ _)) (Tu _ _)
theorem NT(x:Fr):x.g ∣ x.c.natAbs:=C0 (Bm _ _) (Tu _ _)
theorem NU(x:Fr):x.g ∣ x.e.natAbs:=Tu _ _
theorem aAA(x:Fr)(k:Nat):(Fr.mk (x.a*k) (x.b*k) (x.c*k) (x.e*k) (x.d*k)).g=x.g*k:=by unfold Fr.g;simp only[uK,Bn,Nat.gcd_mul_right]
theorem aAB{x y:Fr}(hx:x.pg)(hy:y.pg)(h:x.val=y.val):x.d.natAbs ∣ y.d.natAbs:=by
 have xk:x.d≠0:=by have:=hx.pos;omega
 have vF:y.d≠0:=by have:=hy.pos;omega
 have hr:=cI bE.re h;have hi:=cI bE.im h;have h1:Rat.divInt x.a x.d=Rat.divInt y.a y.d:=cI bE.re hr;have h2:Rat.divInt x.b x.d=Rat.divInt y.b y.d:=cI bE.im hr;have h3:Rat.divInt x.c x.d=Rat.divInt y.c y.d:=cI bE.re hi;have h4:Rat.divInt x.e x.d=Rat.divInt y.e y.d:=cI bE.im hi;rw[Rat.divInt_eq_divInt_iff xk vF]at h1 h2 h3 h4;have key:∀ u v:Int,u*y.d=v*x.d->x.d.natAbs ∣ (u*(y.d.natAbs:Int)).natAbs:=by
  intro u v e;have e2:(u*(y.d.natAbs:Int)).natAbs=(u*y.d).natAbs:=by simp[uK]
  rw[e2,e,uK];exact Nat.dvd_mul_left _ _
 have:=aJN (x:=Fr.mk (x.a*(y.d.natAbs:Int)) (x.b*(y.d.natAbs:Int)) (x.c*(y.d.natAbs:Int)) (x.e*(y.d.natAbs:Int)) (x.d*(y.d.natAbs:Int))) (k:=x.d.natAbs)
  (by rw[uK];exact Nat.dvd_mul_right _ _) (key _ _ h1) (key _ _ h2) (key _ _ h3) (key _ _ h4)
 rw[aAA,hx.one,pO]at this;exact this
theorem aAC{x y:Fr}(hx:x.pg)(hy:y.pg)(h:x.val=y.val):x=y:=by
 have hxp:=hx.pos;have hyp:=hy.pos;have hd:x.d=y.d:=by have:=Nat.dvd_antisymm (aAB hx hy h) (aAB hy hx h.symm);omega
 have xk:x.d≠0:=by omega
 have vF:y.d≠0:=by omega
 have hr:=cI bE.re h;have hi:=cI bE.im h;have h1:Rat.divInt x.a x.d=Rat.divInt y.a y.d:=cI bE.re hr;have h2:Rat.divInt x.b x.d=Rat.divInt y.b y.d:=cI bE.im hr;have h3:Rat.divInt x.c x.d=Rat.divInt y.c y.d:=cI bE.re hi;have h4:Rat.divInt x.e x.d=Rat.divInt y.e y.d:=cI bE.im hi;rw[Rat.divInt_eq_divInt_iff xk vF,hd]at h1 h2 h3 h4;exact Fr.ext' (Tv vF h1) (Tv vF h2) (Tv vF h3) (Tv vF h4) hd
def Fr.s(x:Fr):Int:=if x.d<0 then -(x.g:Int)else x.g
def Fr.low(x:Fr):Fr:=⟨x.a/x.s,x.b/x.s,x.c/x.s,x.e/x.s,x.d/x.s⟩
theorem Tw{x:Fr}(hd:x.d≠0):0<x.g:=Nat.pos_of_dvd_of_pos (E4 x) o_
theorem Tx{x:Fr}(hd:x.d≠0):x.s≠0:=by have:=Tw hd;unfold Fr.s;split<;>omega
theorem NV(x:Fr):x.s.natAbs=x.g:=by unfold Fr.s;split<;>simp
theorem C1{x:Fr}{u:Int}(h:x.g ∣ u.natAbs):x.s ∣ u:=by rw[<-Int.natAbs_dvd_natAbs,NV];exact h
theorem aAD{x:Fr}:x.a=x.low.a*x.s/\x.b=x.low.b*x.s/\x.c=x.low.c*x.s/\x.e=x.low.e*x.s/\x.d=x.low.d*x.s:=
 ⟨(NW (C1 (NR x))).symm,(NW (C1 (NS x))).symm,(NW (C1 (NT x))).symm,(NW (C1 (NU x))).symm,(NW (C1 (E4 x))).symm⟩
theorem aAE{x:Fr}(hd:x.d≠0):x.low.val=x.val:=by obtain⟨h1,h2,h3,h4,h5⟩:=aAD (x:=x);have hs:=Tx hd;have key:∀ u v:Int,Rat.divInt u x.low.d=Rat.divInt (u*x.s) (x.low.d*x.s):=λu _=>(Rat.divInt_mul_right hs).symm;unfold Fr.val;rw[key _ 0,key _ 0,key _ 0,key _ 0,<-h1,<-h2,<-h3,<-h4,<-h5]
theorem aAF{x:Fr}(hd:x.d≠0):x.low.pg:=by
 obtain⟨h1,h2,h3,h4,h5⟩:=aAD (x:=x);have hg:=Tw hd;constructor
 ·have:x.d=x.low.d*x.s:=h5;rcases Int.lt_or_gt_of_ne hd with h|h
  ·have hs:x.s<0:=by unfold Fr.s;rw[aw h];omega
   rcases NQ x.low.d 0 with k|k|k
   ·have:=Int.mul_pos_of_neg_of_neg k hs;omega
   ·rw[k,Int.zero_mul]at this;omega
   ·exact k
  ·have hs:0<x.s:=by unfold Fr.s;rw[ao o_];omega
   rcases NQ x.low.d 0 with k|k|k
   ·have:=Int.mul_neg_of_neg_of_pos k hs;omega
   ·rw[k,Int.zero_mul]at this;omega
   ·exact k
 ·have e:x.g=x.low.g*x.g:=by
   obtain⟨G,hG⟩:∃ G,G=x.g:=⟨_,rfl⟩;have ab:∀ u v:Int,u=v*x.s->u.natAbs=(v*(G:Int)).natAbs:=λu v h=>by rw[h,uK,uK,NV,Bn,hG]
   have h:=aAA x.low G;have e2:x.g=(Fr.mk (x.low.a*G) (x.low.b*G) (x.low.c*G) (x.low.e*G) (x.low.d*G)).g:=by unfold Fr.g;dsimp only;rw[<-ab _ _ h1,<-ab _ _ h2,<-ab _ _ h3,<-ab _ _ h4,<-ab _ _ h5]
   have:=e2.trans h;rw[hG]at this;exact this
  have:=aJO hg (show 1*x.g=x.low.g*x.g by rw[pO];exact e);exact this.symm
theorem Kh{x:Fr}{u:Int}(hd:x.d≠0):(u/x.s).natAbs<=u.natAbs:=aJP u x.s
def bJ(k:K):Fr:=(Fr.mk (k.re.re.num*(k.re.im.den*(k.im.re.den*k.im.im.den):Nat)) (k.re.im.num*(k.re.re.den*(k.im.re.den*k.im.im.den):Nat))
 (k.im.re.num*(k.re.re.den*(k.re.im.den*k.im.im.den):Nat)) (k.im.im.num*(k.re.re.den*(k.re.im.den*k.im.re.den):Nat)) ((k.re.re.den*(k.re.im.den*(k.im.re.den*k.im.im.den)):Nat):Int)).low
theorem ko(k:K):(bJ k).pg:=aAF (by have h1:=k.re.re.den_pos;have h2:=k.re.im.den_pos;have h3:=k.im.re.den_pos;have h4:=k.im.im.den_pos;have:=qA h1 (qA h2 (qA h3 h4));show((k.re.re.den*(k.re.im.den*(k.im.re.den*k.im.im.den)):Nat):Int)≠0;omega)
theorem NX(q:Rat){m n:Nat}(hm:0<m)(e:n=q.den*m):Rat.divInt (q.num*(m:Nat)) ((n:Nat):Int)=q:=by have h:Rat.divInt (q.num*(m:Int)) ((q.den:Int)*(m:Int))=Rat.divInt q.num q.den:=Rat.divInt_mul_right o_;rw[e,nW,h];exact aAG q
theorem oL(k:K):(bJ k).val=k:=by have h1:=k.re.re.den_pos;have h2:=k.re.im.den_pos;have h3:=k.im.re.den_pos;have h4:=k.im.im.den_pos;have hp:=qA h1 (qA h2 (qA h3 h4));unfold bJ;rw[aAE (by show((k.re.re.den*(k.re.im.den*(k.im.re.den*k.im.im.den)):Nat):Int)≠0;omega)];unfold Fr.val;dsimp only;rw[NX k.re.re (qA h2 (qA h3 h4)) rfl,NX k.re.im (qA h1 (qA h3 h4)) (by simp only[mJ]),NX k.im.re (qA h1 (qA h2 h4)) (by simp only[mJ]),NX k.im.im (qA h1 (qA h2 h3)) (by simp only[cP,mJ])]
theorem E5{x:Fr}(h:x.pg):bJ x.val=x:=aAC (ko _) h (oL _)
theorem E6{x:Fr}(hd:x.d≠0):bJ x.val=x.low:=aAC (ko _) (aAF hd) ((oL _).trans (aAE hd).symm)
theorem aJQ{x y:K}(h:bJ x=bJ y):x=y:=by rw[<-oL x,<-oL y,h]
def uL(x y:Fr):Fr:=⟨x.a*y.d+y.a*x.d,x.b*y.d+y.b*x.d,x.c*y.d+y.c*x.d,x.e*y.d+y.e*x.d,x.d*y.d⟩
def e9(x y:Fr):Fr:=
 ⟨x.a*y.a+2*(x.b*y.b)+3*(x.c*y.c)+6*(x.e*y.e),x.a*y.b+x.b*y.a+3*(x.c*y.e)+3*(x.e*y.c),x.a*y.c+2*(x.b*y.e)+x.c*y.a+2*(x.e*y.b),x.a*y.e+x.b*y.c+x.c*y.b+x.e*y.a,x.d*y.d⟩
def y7(x:Fr):Fr:=⟨-x.a,-x.b,-x.c,-x.e,x.d⟩
theorem aJR{x y:Fr}(hx:x.d≠0)(hy:y.d≠0):(uL x y).val=x.val+y.val:=by
 apply bE.ext
 ·exact bE.ext (Ty _ _ hx hy).symm (Ty _ _ hx hy).symm
 ·exact bE.ext (Ty _ _ hx hy).symm (Ty _ _ hx hy).symm
theorem aJS(x:Fr):(y7 x).val=-x.val:=by have h:∀ u:Int,Rat.divInt (-u) x.d=-Rat.divInt u x.d:=λu=>(Rat.neg_divInt u x.d).symm;exact bE.ext (bE.ext (h _) (h _)) (bE.ext (h _) (h _))
theorem E7{p:Int}{x y:Fr}(hx:x.d≠0)(hy:y.d≠0){r:Rat}(h:r*((x.d:Rat)*(y.d:Rat))=(p:Rat)):Rat.divInt p (x.d*y.d)=r:=by
 have rP:(x.d:Rat)≠0:=by simpa using hx
 have NY:(y.d:Rat)≠0:=by simpa using hy
 rw[Bo,CZ,<-h,E8,Rat.mul_assoc,Hy _ (by
  intro e;rcases Rat.mul_eq_zero.1 e with e|e
  ·exact rP e
  ·exact NY e),Rat.mul_one]
theorem oM{u d:Int}(hd:d≠0):Rat.divInt u d*(d:Rat)=(u:Rat):=by
 have NZ:(d:Rat)≠0:=by simpa using hd
 rw[Bo,aAz NZ]
theorem Ki{x y:Fr}(hx:x.d≠0)(hy:y.d≠0):(e9 x y).val=x.val*y.val:=by
 have a1:=oM (u:=x.a) hx;have b1:=oM (u:=x.b) hx;have c1:=oM (u:=x.c) hx;have e1:=oM (u:=x.e) hx;have a2:=oM (u:=y.a) hy;have b2:=oM (u:=y.b) hy;have c2:=oM (u:=y.c) hy;have e2:=oM (u:=y.e) hy;apply bE.ext
 ·apply bE.ext
  ·refine E7 hx hy ?_;show((Rat.divInt x.a x.d*Rat.divInt y.a y.d+2*(Rat.divInt x.b x.d*Rat.divInt y.b y.d))+(3*(Rat.divInt x.c x.d*Rat.divInt y.c y.d+2*(Rat.divInt x.e x.d*Rat.divInt y.e y.d))+2*(0*(Rat.divInt x.c x.d*Rat.divInt y.e y.d+Rat.divInt x.e x.d*Rat.divInt y.c y.d))))*((x.d:Rat)*(y.d:Rat))=_;unfold e9;simp only[N0,CZ,<-a1,<-b1,<-c1,<-e1,<-a2,<-b2,<-c2,<-e2];have t2:((2:Int):Rat)=2:=rfl;have t3:((3:Int):Rat)=3:=rfl;have t6:((6:Int):Rat)=6:=rfl;rw[t2,t3,t6];grind
  ·refine E7 hx hy ?_;show((Rat.divInt x.a x.d*Rat.divInt y.b y.d+Rat.divInt x.b x.d*Rat.divInt y.a y.d)+(3*(Rat.divInt x.c x.d*Rat.divInt y.e y.d+Rat.divInt x.e x.d*Rat.divInt y.c y.d)+0*(Rat.divInt x.c x.d*Rat.divInt y.c y.d+2*(Rat.divInt x.e x.d*Rat.divInt y.e y.d))))*((x.d:Rat)*(y.d:Rat))=_;unfold e9;simp only[N0,CZ,<-a1,<-b1,<-c1,<-e1,<-a2,<-b2,<-c2,<-e2];have t3:((3:Int):Rat)=3:=rfl;rw[t3];grind
 ·apply bE.ext
  ·refine E7 hx hy ?_;show((Rat.divInt x.a x.d*Rat.divInt y.c y.d+2*(Rat.divInt x.b x.d*Rat.divInt y.e y.d))+(Rat.divInt x.c x.d*Rat.divInt y.a y.d+2*(Rat.divInt x.e x.d*Rat.divInt y.b y.d)))*((x.d:Rat)*(y.d:Rat))=_;unfold e9;simp only[N0,CZ,<-a1,<-b1,<-c1,<-e1,<-a2,<-b2,<-c2,<-e2];have t2:((2:Int):Rat)=2:=rfl;rw[t2];grind
  ·refine E7 hx hy ?_;show((Rat.divInt x.a x.d*Rat.divInt y.e y.d+Rat.divInt x.b x.d*Rat.divInt y.c y.d)+(Rat.divInt x.c x.d*Rat.divInt y.b y.d+Rat.divInt x.e x.d*Rat.divInt y.a y.d))*((x.d:Rat)*(y.d:Rat))=_;unfold e9;simp only[N0,CZ,<-a1,<-b1,<-c1,<-e1,<-a2,<-b2,<-c2,<-e2]
   grind
theorem Tz(x y:K):bJ (x+y)=(uL (bJ x) (bJ y)).low:=by have hx:=(ko x).pos;have hy:=(ko y).pos;have:=E6 (x:=uL (bJ x) (bJ y)) (C2 o_ o_);rw[aJR o_ o_,oL,oL]at this;exact this
theorem TA(x y:K):bJ (x*y)=(e9 (bJ x) (bJ y)).low:=by have hx:=(ko x).pos;have hy:=(ko y).pos;have:=E6 (x:=e9 (bJ x) (bJ y)) (C2 o_ o_);rw[Ki o_ o_,oL,oL]at this;exact this
theorem aJT{x:Fr}(h:x.pg):(y7 x).pg:=⟨h.pos,by have:=h.one;unfold Fr.g at this ⊢;simpa[y7]using this⟩
theorem TB(x:K):bJ (-x)=y7 (bJ x):=by have:=E5 (aJT (ko x));rw[aJS,oL]at this;exact this
def dD(n:Nat)(x:Fr):Prop:=x.a.natAbs<2^n/\x.b.natAbs<2^n/\x.c.natAbs<2^n/\x.e.natAbs<2^n/\x.d.natAbs<2^n
def Sz(n:Nat)(x:K):Prop:=dD n (bJ x)
theorem dD.mono{m n:Nat}(h:m<=n){x:Fr}(hx:dD m x):dD n x:=by have:=cZ (show 0<2 by decide) h;obtain⟨h1,h2,h3,h4,h5⟩:=hx;exact⟨by omega,by omega,by omega,by omega,by omega⟩
theorem Sz.mono{m n:Nat}(h:m<=n){x:K}(hx:Sz m x):Sz n x:=dD.mono h hx
theorem dD.low{n:Nat}{x:Fr}(h:dD n x)(hd:x.d≠0):dD n x.low:=by obtain⟨h1,h2,h3,h4,h5⟩:=h;exact⟨eL (Kh hd) h1,eL (Kh hd) h2,eL (Kh hd) h3,eL (Kh hd) h4,eL (Kh hd) h5⟩
theorem eA{m n:Nat}{u v:Int}(hu:u.natAbs<2^m)(hv:v.natAbs<2^n):(u*v).natAbs<2^(m+n):=by
 rw[uK,ev];rcases ob v.natAbs with h|h
 ·rw[h,Nat.mul_zero];exact qA (cG d_) (cG d_)
 ·exact cv (A8 hu h) (jc _ (iR hv))
theorem dD.add{m n:Nat}{x y:Fr}(hx:dD m x)(hy:dD n y):dD (m+n+1) (uL x y):=by
 obtain⟨x1,x2,x3,x4,x5⟩:=hx;obtain⟨y1,y2,y3,y4,y5⟩:=hy;have e:2^(m+n+1)=2^(m+n)*2:=dx ..;have e':2^(n+m)=2^(m+n):=by rw[mI]
 have key:∀{u v:Int},u.natAbs<2^m->v.natAbs<2^n->(u*y.d+v*x.d).natAbs<2^(m+n+1):=λ{u v} hu hv=>by have h1:=eA hu y5;have h2:=eA hv x5;rw[e']at h2;have:=aAH (u*y.d) (v*x.d);omega
 refine⟨key x1 y1,key x2 y2,key x3 y3,key x4 y4,?_⟩;have:=eA x5 y5;show(x.d*y.d).natAbs<_;omega
theorem dD.mul{m n:Nat}{x y:Fr}(hx:dD m x)(hy:dD n y):dD (m+n+4) (e9 x y):=by
 obtain⟨x1,x2,x3,x4,x5⟩:=hx;obtain⟨y1,y2,y3,y4,y5⟩:=hy;have e:2^(m+n+4)=2^(m+n)*16:=by rw[ev]
 have t:∀{u v:Int} (k:Nat),u.natAbs<2^m->v.natAbs<2^n->((k:Int)*(u*v)).natAbs<=k*2^(m+n):=λ{u v} k hu hv=>by have h1:=eA hu hv;rw[uK,Bn];exact jc _ (iR h1)
 have four:∀ p q r s:Int,(p+q+r+s).natAbs<=p.natAbs+q.natAbs+r.natAbs+s.natAbs:=λp q r s=>by omega
 have hp:0<2^(m+n):=cG d_;refine⟨?_,?_,?_,?_,?_⟩
 ·have:=four (x.a*y.a) (2*(x.b*y.b)) (3*(x.c*y.c)) (6*(x.e*y.e));have h1:=eA x1 y1;have h2:=t 2 x2 y2;have h3:=t 3 x3 y3;have h4:=t 6 x4 y4;show(x.a*y.a+2*(x.b*y.b)+3*(x.c*y.c)+6*(x.e*y.e)).natAbs<_;omega
 ·have:=four (x.a*y.b) (x.b*y.a) (3*(x.c*y.e)) (3*(x.e*y.c));have h1:=eA x1 y2;have h2:=eA x2 y1;have h3:=t 3 x3 y4;have h4:=t 3 x4 y3;show(x.a*y.b+x.b*y.a+3*(x.c*y.e)+3*(x.e*y.c)).natAbs<_;omega
 ·have:=four (x.a*y.c) (2*(x.b*y.e)) (x.c*y.a) (2*(x.e*y.b));have h1:=eA x1 y3;have h2:=t 2 x2 y4;have h3:=eA x3 y1;have h4:=t 2 x4 y2;show(x.a*y.c+2*(x.b*y.e)+x.c*y.a+2*(x.e*y.b)).natAbs<_;omega
 ·have:=four (x.a*y.e) (x.b*y.c) (x.c*y.b) (x.e*y.a);have h1:=eA x1 y4;have h2:=eA x2 y3;have h3:=eA x3 y2;have h4:=eA x4 y1;show(x.a*y.e+x.b*y.c+x.c*y.b+x.e*y.a).natAbs<_;omega
 ·have:=eA x5 y5;show(x.d*y.d).natAbs<_;omega
theorem Sz.add{m n:Nat}{x y:K}(hx:Sz m x)(hy:Sz n y):Sz (m+n+1) (x+y):=by unfold Sz;rw[Tz];exact(dD.add hx hy).low (C2 (by have:=(ko x).pos;omega) (by have:=(ko y).pos;omega))
theorem Sz.mul{m n:Nat}{x y:K}(hx:Sz m x)(hy:Sz n y):Sz (m+n+4) (x*y):=by unfold Sz;rw[TA];exact(dD.mul hx hy).low (C2 (by have:=(ko x).pos;omega) (by have:=(ko y).pos;omega))
theorem Sz.neg{n:Nat}{x:K}(hx:Sz n x):Sz n (-x):=by unfold Sz at *;rw[TB];obtain⟨h1,h2,h3,h4,h5⟩:=hx;exact⟨by simpa[y7]using h1,by simpa[y7]using h2,by simpa[y7]using h3,by simpa[y7]using h4,h5⟩
theorem Sz.sub{m n:Nat}{x y:K}(hx:Sz m x)(hy:Sz n y):Sz (m+n+1) (x-y):=by rw[CR.sub_def];exact hx.add hy.neg
def tw(a b s:Int):Int:=if a=b\/b=0 then a else if a=0 then b else a*s
namespace bE
variable{F:Type}[OF F]{s:F}[hs:xi F s]
theorem aAI(x:bE F s):sg x=tw (az x.re) (az x.im) (az (nm x)):=by
 unfold tw;rcases ways x with h|⟨h,h2⟩|⟨h,h2⟩
 ·subst h;have e:az (0:F)=0:=(e8 (0:F)).2 rfl;rw[Hv,Ht,Hu,e,aw (.inl rfl)]
 ·rw[rV h,h,Int.mul_one];by_cases h3:az x.re=az x.im\/az x.im=0
  ·rw[aw h3]
  ·rw[ao h3];by_cases h4:az x.re=0
   ·exfalso;rw[(e8 _).1 h4,CR.zero_mul]at h2;have h5:az (s*(x.im*x.im))=1:=by
     have h6:az x.im≠0:=λe=>h3 (.inr e);rw[mh,mh,aJE];rcases iy x.im with e|e|e
     ·rw[e];rfl
     ·exact absurd e h6
     ·rw[e];rfl
    have h7:(0:F)<s*(x.im*x.im):=iz.2 h5;exact OF.lt_irrefl _ (OF.lt_trans h7 h2)
   ·rw[ao h4]
 ·rw[tv h,h];by_cases h3:az x.re=az x.im\/az x.im=0
  ·rw[aw h3];rcases h3 with h3|h3
   ·exact h3.symm
   ·exfalso;rw[(e8 _).1 h3,CR.zero_mul,CR.mul_zero]at h2;have h5:az (x.re*x.re)≠-1:=by rw[mh];rcases iy x.re with e|e|e<;>rw[e]<;>decide
    exact h5 (Hp.1 h2)
  ·rw[ao h3];by_cases h4:az x.re=0
   ·rw[aw h4]
   ·rw[ao h4];have h5:az x.im≠0:=λe=>h3 (.inr e);have h6:az x.re≠az x.im:=λe=>h3 (.inl e);rcases iy x.re with e|e|e<;>rcases iy x.im with k|k|k<;>first|exact absurd e h4|exact absurd k h5|exact absurd (e.trans k.symm) h6|(rw[e,k];rfl)
end bE
theorem aAJ(u:Int):az (u:Rat)=u.sign:=by show(u:Rat).num.sign=u.sign;rw[Rat.num_intCast]
theorem TC{u d:Int}(hd:0<d):az (Rat.divInt u d)=u.sign:=by have h1:=oM (u:=u) (d:=d) o_;have h2:=cI az h1;rw[mh,aAJ,aAJ,Bi hd,Int.mul_one]at h2;exact h2
def ph(a b:Int):Int:=tw a.sign b.sign (a*a-2*(b*b)).sign
theorem TD{a b d:Int}(hd:0<d):az (⟨Rat.divInt a d,Rat.divInt b d⟩:K2)=ph a b:=by
 have h:=bE.aAI (⟨Rat.divInt a d,Rat.divInt b d⟩:K2);have a1:=oM (u:=a) (d:=d) o_;have b1:=oM (u:=b) (d:=d) o_;have hn:bE.nm (⟨Rat.divInt a d,Rat.divInt b d⟩:K2)=Rat.divInt (a*a-2*(b*b)) (d*d):=by refine(E7 (x:=⟨0,0,0,0,d⟩) (y:=⟨0,0,0,0,d⟩) (by show d≠0;omega) (by show d≠0;omega) ?_).symm;show(Rat.divInt a d*Rat.divInt a d-2*(Rat.divInt b d*Rat.divInt b d))*((d:Rat)*(d:Rat))=_;simp only[aAK,CZ,<-a1,<-b1];have t2:((2:Int):Rat)=2:=rfl;rw[t2];grind
 rw[hn]at h;show bE.sg _=_;rw[h];show tw (az (Rat.divInt a d)) (az (Rat.divInt b d)) _=_;rw[TC hd,TC hd,TC (TE hd hd)];rfl
def N1(a b c e:Int):Int:=tw (ph a b) (ph c e) (ph ((a*a+2*(b*b))-(3*(c*c)+6*(e*e))) (2*(a*b)-6*(c*e)))
theorem aJU{x:Fr}(hd:0<x.d):az x.val=N1 x.a x.b x.c x.e:=by
 have h:=bE.aAI x.val;have a1:=oM (u:=x.a) (d:=x.d) o_;have b1:=oM (u:=x.b) (d:=x.d) o_;have c1:=oM (u:=x.c) (d:=x.d) o_;have e1:=oM (u:=x.e) (d:=x.d) o_;have hn:bE.nm x.val=(⟨Rat.divInt ((x.a*x.a+2*(x.b*x.b))-(3*(x.c*x.c)+6*(x.e*x.e))) (x.d*x.d),Rat.divInt (2*(x.a*x.b)-6*(x.c*x.e)) (x.d*x.d)⟩:K2):=by
  apply bE.ext
  ·refine(E7 (x:=x) (y:=x) o_ o_ ?_).symm;show((Rat.divInt x.a x.d*Rat.divInt x.a x.d+2*(Rat.divInt x.b x.d*Rat.divInt x.b x.d))-(3*(Rat.divInt x.c x.d*Rat.divInt x.c x.d+2*(Rat.divInt x.e x.d*Rat.divInt x.e x.d))+2*(0*(Rat.divInt x.c x.d*Rat.divInt x.e x.d+Rat.divInt x.e x.d*Rat.divInt x.c x.d))))*((x.d:Rat)*(x.d:Rat))=_;simp only[aAK,N0,CZ,<-a1,<-b1,<-c1,<-e1];have t2:((2:Int):Rat)=2:=rfl;have t3:((3:Int):Rat)=3:=rfl;have t6:((6:Int):Rat)=6:=rfl;rw[t2,t3,t6];grind
  ·refine(E7 (x:=x) (y:=x) o_ o_ ?_).symm;show((Rat.divInt x.a x.d*Rat.divInt x.b x.d+Rat.divInt x.b x.d*Rat.divInt x.a x.d)-(3*(Rat.divInt x.c x.d*Rat.divInt x.e x.d+Rat.divInt x.e x.d*Rat.divInt x.c x.d)+0*(Rat.divInt x.c x.d*Rat.divInt x.c x.d+2*(Rat.divInt x.e x.d*Rat.divInt x.e x.d))))*((x.d:Rat)*(x.d:Rat))=_;simp only[aAK,CZ,<-a1,<-b1,<-c1,<-e1];have t2:((2:Int):Rat)=2:=rfl;have t6:((6:Int):Rat)=6:=rfl;rw[t2,t6];grind
 rw[hn]at h;show bE.sg _=_;rw[h];have TF:=TE hd hd;show tw (az (⟨Rat.divInt x.a x.d,Rat.divInt x.b x.d⟩:K2)) (az (⟨Rat.divInt x.c x.d,Rat.divInt x.e x.d⟩:K2)) _=_;rw[TD hd,TD hd,TD TF];rfl
theorem aAL(k:K):az k=N1 (bJ k).a (bJ k).b (bJ k).c (bJ k).e:=by have:=aJU (ko k).pos;rw[oL]at this;exact this
end
structure RI where
 neg:Bool
 aZ:List UInt8
structure RN where
 a:RI
 b:RI
 c:RI
 e:RI
 d:RI
structure RV where
 x:RN
 y:RN
 z:RN
structure RP where
 n:RV
 d:RN
def RI.cs(r:RI):aj:=[.bool r.neg,.string (BA r.aZ)]
def RN.cs(r:RN):aj:=[.bool r.a.neg,.string (BA r.a.aZ),.bool r.b.neg,.string (BA r.b.aZ),.bool r.c.neg,.string (BA r.c.aZ),.bool r.e.neg,.string (BA r.e.aZ),.bool r.d.neg,.string (BA r.d.aZ)]
def RV.cs(r:RV):aj:=r.x.cs++(r.y.cs++r.z.cs)
def RP.cs(r:RP):aj:=r.n.cs++r.d.cs
def RI.v(r:RI):Value:=.agg r.cs.toArray
def RN.v(r:RN):Value:=.agg r.cs.toArray
def RV.v(r:RV):Value:=.agg r.cs.toArray
def RP.v(r:RP):Value:=.agg r.cs.toArray
def RI.Sm(r:RI):Prop:=r.aZ.length<=maxLen
def RN.Sm(r:RN):Prop:=r.a.Sm/\r.b.Sm/\r.c.Sm/\r.e.Sm/\r.d.Sm
def RV.Sm(r:RV):Prop:=r.x.Sm/\r.y.Sm/\r.z.Sm
def RP.Sm(r:RP):Prop:=r.n.Sm/\r.d.Sm
def RI.ls(r:RI):List Lit:=[.bool r.neg,.string r.aZ]
def RN.ls(r:RN):List Lit:=r.a.ls++(r.b.ls++(r.c.ls++(r.e.ls++r.d.ls)))
def RV.ls(r:RV):List Lit:=r.x.ls++(r.y.ls++r.z.ls)
def RP.ls(r:RP):List Lit:=r.n.ls++r.d.ls
theorem RI.vG{r s:RI}:r.ls=s.ls↔r=s:=by cases r;cases s;simp[RI.ls]
theorem RN.vG{r s:RN}:r.ls=s.ls↔r=s:=by obtain⟨⟨_,_⟩,⟨_,_⟩,⟨_,_⟩,⟨_,_⟩,⟨_,_⟩⟩:=r;obtain⟨⟨_,_⟩,⟨_,_⟩,⟨_,_⟩,⟨_,_⟩,⟨_,_⟩⟩:=s;simp[RN.ls,RI.ls,and_assoc]
theorem RN.HA(r:RN):r.ls.length=10:=rfl
theorem RV.vG{r s:RV}:r.ls=s.ls↔r=s:=by
 obtain⟨x,y,z⟩:=r;obtain⟨x',y',z'⟩:=s;unfold RV.ls;constructor
 ·intro h;obtain⟨h1,h2⟩:=List.append_inj h (by rw[RN.HA,RN.HA]);obtain⟨h2,h3⟩:=List.append_inj h2 (by rw[RN.HA,RN.HA]);have a1:x=x':=RN.vG.1 h1;have a2:y=y':=RN.vG.1 h2;have a3:z=z':=RN.vG.1 h3;rw[a1,a2,a3]
 ·intro h;rw[h]
theorem RP.vG{r s:RP}:r.ls=s.ls↔r=s:=by
 obtain⟨x,y⟩:=r;obtain⟨x',y'⟩:=s;unfold RP.ls;constructor
 ·intro h;obtain⟨h1,h2⟩:=List.append_inj' h (by rw[RN.HA,RN.HA]);have a1:x=x':=RV.vG.1 h1;have a2:y=y':=RN.vG.1 h2;rw[a1,a2]
 ·intro h;rw[h]
theorem RN.nH(r:RN):∀ u∈r.cs,flat u=true:=λu hu=>by simp[RN.cs]at hu;rcases hu with h|h|h|h|h|h|h|h|h|h<;>subst h<;>rfl
theorem RV.nH(r:RV):∀ u∈r.cs,flat u=true:=λu hu=>by
 simp only[RV.cs,ee]at hu;rcases hu with h|h|h
 ·exact r.x.nH u h
 ·exact r.y.nH u h
 ·exact r.z.nH u h
def N2(P:Program)(t:TypeId):Array Field:=match P.underlying t with|some (.struct fs)=>fs|_=>#[]
theorem E9(r:RI)(h:r.Sm)(d:Nat):prog.keyLits (d+2) 28 r.cs=some r.ls:=by
 obtain ⟨fs, h1, h2, h3⟩ : ∃ fs, prog.underlying 28 = some (.struct fs) ∧ fs.toList.map (fun g => (g.type, g.offset)) = [(4, 0), (9, 1)] ∧ fs.all (fun g => g.name != "_") = true := ⟨N2 prog 28, (by kernel_rfl), (by kernel_rfl), (by kernel_rfl)⟩;rw[NI h1 h2 h3 k_];have e1:prog.keyLits (d+1) 4 ((r.cs.drop 0).take (prog.cellsOf 4))=some [.bool r.neg]:=by
  have e:(r.cs.drop 0).take (prog.cellsOf 4)=[.bool r.neg]:=k_;rw[e];exact aJs k_ _ d
 have e2:prog.keyLits (d+1) 9 ((r.cs.drop 1).take (prog.cellsOf 9))=some [.string r.aZ]:=by have e:(r.cs.drop 1).take (prog.cellsOf 9)=[.string (BA r.aZ)]:=k_;rw[e];exact aJt k_ _ (by rw[oG];exact h) d
 simp only[Jr,TG,e1,e2];simp[RI.ls]
theorem aJV(r:RN)(h:r.Sm)(d:Nat):prog.keyLits (d+3) 29 (r.a.cs++(r.b.cs++(r.c.cs++r.e.cs)))=some (r.a.ls++(r.b.ls++(r.c.ls++r.e.ls))):=by rw[aJr (n:=4) (e:=28) k_ k_];obtain⟨h0,h1,h2,h3,_⟩:=h;have c:prog.cellsOf 28=2:=k_;have e0:=E9 r.a h0 d;have e1:=E9 r.b h1 d;have e2:=E9 r.c h2 d;have e3:=E9 r.e h3 d;rw[c];simp[HB,RI.cs]at e0 e1 e2 e3 ⊢;simp[e0,e1,e2,e3]
theorem N3(r:RN)(h:r.Sm)(d:Nat):prog.keyLits (d+4) 31 r.cs=some r.ls:=by
 obtain ⟨fs, h1, h2, h3⟩ : ∃ fs, prog.underlying 31 = some (.struct fs) ∧ fs.toList.map (fun g => (g.type, g.offset)) = [(29, 0), (28, 8)] ∧ fs.all (fun g => g.name != "_") = true := ⟨N2 prog 31, (by kernel_rfl), (by kernel_rfl), (by kernel_rfl)⟩;rw[NI h1 h2 h3 k_];have e1:prog.keyLits (d+3) 29 ((r.cs.drop 0).take (prog.cellsOf 29))=some (r.a.ls++(r.b.ls++(r.c.ls++r.e.ls))):=by
  have e:(r.cs.drop 0).take (prog.cellsOf 29)=r.a.cs++(r.b.cs++(r.c.cs++r.e.cs)):=k_;rw[e];exact aJV r h d
 have e2:prog.keyLits (d+3) 28 ((r.cs.drop 8).take (prog.cellsOf 28))=some r.d.ls:=by have e:(r.cs.drop 8).take (prog.cellsOf 28)=r.d.cs:=k_;rw[e];exact E9 r.d h.2.2.2.2 (d+1)
 simp only[Jr,TG,e1,e2];simp[RN.ls]
theorem TH(r:RV)(h:r.Sm)(d:Nat):prog.keyLits (d+5) 33 r.cs=some r.ls:=by
 obtain ⟨fs, h1, h2, h3⟩ : ∃ fs, prog.underlying 33 = some (.struct fs) ∧ fs.toList.map (fun g => (g.type, g.offset)) = [(31, 0), (31, 10), (31, 20)] ∧ fs.all (fun g => g.name != "_") = true := ⟨N2 prog 33, (by kernel_rfl), (by kernel_rfl), (by kernel_rfl)⟩;rw[NI h1 h2 h3 k_];have e:∀(k:Nat) (s:RN),(r.cs.drop k).take (prog.cellsOf 31)=s.cs->s.Sm->prog.keyLits (d+4) 31 ((r.cs.drop k).take (prog.cellsOf 31))=some s.ls:=λk s e hs=>by rw[e];exact N3 s hs d
 simp only[Jr,TG,e 0 r.x k_ h.1,e 10 r.y k_ h.2.1,e 20 r.z k_ h.2.2];simp[RV.ls]
theorem aAM(r:RP)(h:r.Sm)(d:Nat):prog.keyLits (d+6) 35 r.cs=some r.ls:=by
 obtain ⟨fs, h1, h2, h3⟩ : ∃ fs, prog.underlying 35 = some (.struct fs) ∧ fs.toList.map (fun g => (g.type, g.offset)) = [(33, 0), (31, 30)] ∧ fs.all (fun g => g.name != "_") = true := ⟨N2 prog 35, (by kernel_rfl), (by kernel_rfl), (by kernel_rfl)⟩;rw[NI h1 h2 h3 k_];have e1:prog.keyLits (d+5) 33 ((r.cs.drop 0).take (prog.cellsOf 33))=some r.n.ls:=by
  have e:(r.cs.drop 0).take (prog.cellsOf 33)=r.n.cs:=k_;rw[e];exact TH r.n h.1 d
 have e2:prog.keyLits (d+5) 31 ((r.cs.drop 30).take (prog.cellsOf 31))=some r.d.ls:=by have e:(r.cs.drop 30).take (prog.cellsOf 31)=r.d.cs:=k_;rw[e];exact N3 r.d h.2 (d+1)
 simp only[Jr,TG,e1,e2];simp[RP.ls]
section
variable{Bs:aa}{N:Nat}
theorem C3{o:Oper}{neg:Bool}(ho:Hk o=some (neg,28))(r s:RI)(hr:r.Sm)(hs:s.Sm){b:Bool}(hb:(if neg then b else !b)=true↔r=s):cB prog Bs o [r.v,s.v] [] (.bool b) []:=
 NH (m:=2) ho o_ k_ k_ k_ k_ (E9 r hr 0) (E9 s hs 0) rfl rfl (by rw[hb];exact RI.vG.symm)
theorem aAN{o:Oper}{neg:Bool}(ho:Hk o=some (neg,31))(r s:RN)(hr:r.Sm)(hs:s.Sm){b:Bool}(hb:(if neg then b else !b)=true↔r=s):cB prog Bs o [r.v,s.v] [] (.bool b) []:=
 NH (m:=4) ho o_ k_ k_ k_ k_ (N3 r hr 0) (N3 s hs 0) rfl rfl (by rw[hb];exact RN.vG.symm)
theorem Fb{o:Oper}{neg:Bool}(ho:Hk o=some (neg,33))(r s:RV)(hr:r.Sm)(hs:s.Sm){b:Bool}(hb:(if neg then b else !b)=true↔r=s):cB prog Bs o [r.v,s.v] [] (.bool b) []:=
 NH (m:=5) ho o_ k_ k_ k_ k_ (TH r hr 0) (TH s hs 0) rfl rfl (by rw[hb];exact RV.vG.symm)
theorem TI{o:Oper}{neg:Bool}(ho:Hk o=some (neg,35))(r s:RP)(hr:r.Sm)(hs:s.Sm){b:Bool}(hb:(if neg then b else !b)=true↔r=s):cB prog Bs o [r.v,s.v] [] (.bool b) []:=
 NH (m:=6) ho o_ k_ k_ k_ k_ (aAM r hr 0) (aAM s hs 0) rfl rfl (by rw[hb];exact RP.vG.symm)
end
def bw(z:Int):RI:=⟨decide (z<0),cg z.natAbs⟩
theorem aAO(z:Int):bM z=(bw z).v:=rfl
theorem y8{x y:Int}(h:bw x=bw y):x=y:=by have h1:decide (x<0)=decide (y<0):=cI RI.neg h;have h2:x.natAbs=y.natAbs:=aIs (cI RI.aZ h);rw[rI]at h1;omega
def rW(f:Fr):RN:=⟨bw f.a,bw f.b,bw f.c,bw f.e,bw f.d⟩
def gG(f:Fr):Value:=(rW f).v
theorem aJW{f g:Fr}(h:rW f=rW g):f=g:=Fr.ext' (y8 (cI RN.a h)) (y8 (cI RN.b h)) (y8 (cI RN.c h)) (y8 (cI RN.e h)) (y8 (cI RN.d h))
def dU(x:K):RN:=rW (bJ x)
def bZ(x:K):Value:=(dU x).v
theorem Kj{x y:K}(h:dU x=dU y):x=y:=aJQ (aJW h)
abbrev aB:Nat:=1099511627774
theorem vH{z:Int}{n:Nat}(h:z.natAbs<2^n)(hn:n<=aB):(bw z).Sm:=by show(cg z.natAbs).length<=maxLen;rw[tn];have:=vD h;unfold aB at hn;simp[maxLen];omega
theorem aJX{f:Fr}{n:Nat}(h:dD n f)(hn:n<=aB):(rW f).Sm:=⟨vH h.1 hn,vH h.2.1 hn,vH h.2.2.1 hn,vH h.2.2.2.1 hn,vH h.2.2.2.2 hn⟩
theorem C4{x:K}{n:Nat}(h:Sz n x)(hn:n<=aB):(dU x).Sm:=aJX h hn
def ic(c:Nat->Int):aj:=[.bool (bw (c 0)).neg,.string (BA (bw (c 0)).aZ),.bool (bw (c 1)).neg,.string (BA (bw (c 1)).aZ),.bool (bw (c 2)).neg,.string (BA (bw (c 2)).aZ),.bool (bw (c 3)).neg,.string (BA (bw (c 3)).aZ)]
def oh(c:Nat->Int):Value:=.agg (ic c).toArray
def co(f:Fr):Nat->Int
 |0=>f.a
 |1=>f.b
 |2=>f.c
 |_=>f.e
def nI(c:Nat->Int)(d:Int):Fr:=⟨c 0,c 1,c 2,c 3,d⟩
theorem C5{g:Nat}{x:Int}{p q:Nat}(h1:g<2^p)(h2:x.natAbs<2^q)(hp:p<=1099511627776)(hq:q<=1099511627776):aE prog 147 [bM g,bM x] (bM (Nat.gcd g x.natAbs:Nat)):=by have:=J2 (x:=(g:Int)) (y:=x) (by rw[Bn];exact h1) h2 hp hq;rw[Bn]at this;exact this
theorem aJY{g m p:Nat}(h:g<2^p):Nat.gcd g m<2^p\/g=0:=by
 by_cases hg:g=0
 ·exact .inr hg
 ·exact .inl (eL (aAP m (te hg)) h)
theorem y9{g m p:Nat}(h:g<2^p)(h2:m<2^p):Nat.gcd g m<2^p:=by
 rcases aJY (m:=m) h with h3|h3
 ·exact h3
 ·rw[h3,TJ];exact h2
theorem aAQ{c:Nat->Int}{d:Int}{n:Nat}(h:dD n (nI c d))(hn:n<=aB):aE prog 109 [oh c,bM d] (bM ((nI c d).g:Nat)):=by
 obtain⟨h0,h1,h2,h3,h4⟩:=h;have l4:n<=1099511627776:=by unfold aB at hn;omega
 have g1:=J2 h4 h0 l4 l4;have s1:=y9 h4 h0;have g2:=C5 s1 h1 l4 l4;have s2:=y9 s1 h1;have g3:=C5 s2 h2 l4 l4;have s3:=y9 s2 h2;have g4:=C5 s3 h3 l4 l4;exact aP func109 (λ_=>[g1.at 15,g2.at 15,g3.at 15,g4.at 15])
theorem TK{x y:Int}{n:Nat}(hy:y≠0)(h1:x.natAbs<2^n)(h2:y.natAbs<2^n)(hn:n<=aB):aE prog 211 [bM x,bM y] (bM (x.fdiv y)):=
 aP func211 (λ_=>[(Ta hy h1 h2 hn hn).at 11])
theorem Bp{c:Nat->Int}{d:Int}{n:Nat}(hd:d≠0)(h:dD n (nI c d))(hn:n<=aB):aE prog 184 [oh c,bM d] (gG (nI c d).low):=by
 have hc:=aAQ h hn;have l4:n<=1099511627776:=by unfold aB at hn;omega
 obtain⟨f,hf⟩:∃ f,f=nI c d:=⟨_,rfl⟩;have vk:f.d≠0:=by rw[hf];exact hd
 have pV:=Tx vk;have TL:=NV f;have hg:f.g<2^n:=by
  have h5:f.d.natAbs<2^n:=by rw[hf];exact h.2.2.2.2
  exact eL (Nat.le_of_dvd o_ (E4 f)) h5
 have bH:f.s.natAbs<2^n:=by rw[TL];exact hg
 have ov:∀ u:Int,f.g ∣ u.natAbs->u.natAbs<2^n->aE prog 211 [bM u,bM f.s] (bM (u/f.s)):=λu hu uN=>by have:=TK pV uN bH hn;rw[Int.fdiv_eq_ediv_of_dvd (C1 hu)]at this;exact this
 have o0:=ov f.a (NR f) (by rw[hf];exact h.1);have o1:=ov f.b (NS f) (by rw[hf];exact h.2.1);have o2:=ov f.c (NT f) (by rw[hf];exact h.2.2.1);have o3:=ov f.e (NU f) (by rw[hf];exact h.2.2.2.1);have o4:=ov f.d (E4 f) (by rw[hf];exact h.2.2.2.2);have Bq:=j4 (z:=1) d_;have az:=qD d;rw[<-hf]at hc ⊢;have e0:f.a=c 0:=by rw[hf];rfl
 have e1:f.b=c 1:=by rw[hf];rfl
 have e2:f.c=c 2:=by rw[hf];rfl
 have e3:f.e=c 3:=by rw[hf];rfl
 have e4:f.d=d:=by rw[hf];rfl
 have one:(bw 1).Sm:=vH (n:=1) d_ d_;have sm:(bw f.s).Sm:=vH bH hn;by_cases Fc:d<0
 ·have hs:f.s=-(f.g:Int):=by unfold Fr.s;rw[e4,aw Fc]
  have aU:bw f.s≠bw 1:=λe=>by have:=y8 e;omega
  have ng:=oe (f.g:Int);rw[<-hs]at ng;rw[e0]at o0;rw[e1]at o1;rw[e2]at o2;rw[e3]at o3;rw[e4]at o4;have dp:f.low=⟨c 0/f.s,c 1/f.s,c 2/f.s,c 3/f.s,d/f.s⟩:=by unfold Fr.low;rw[e0,e1,e2,e3,e4]
  rw[dp];have Br:decide (d.sign<0)=true:=aC (by rw[EZ Fc];decide);generalize f.s=s at *;exact aP func184 (λ_=>[hc.at 9,az.at 11,.rw 12 (.bool (decide (d.sign<0))) (.bool true) (by rw[Br]),ng.at 14,Bq.at 16,.step 17 (av f184 17) _ _ _ _ (C3 (neg:=true) k_ (bw s) (bw 1) sm one (b:=false) (by simp;exact aU)),o0.at 29,o1.at 29,o2.at 29,o3.at 29,o4.at 35])
 ·have hs:f.s=(f.g:Int):=by unfold Fr.s;rw[e4,ao Fc]
  have Br:decide (d.sign<0)=false:=aN (by rw[Bi o_];decide);by_cases tx:f.g=1
  ·have dp:f.low=f:=by unfold Fr.low;rw[hs,tx];simp
   rw[dp,hf];rw[tx]at hc;exact aP func184 (λ_=>[hc.at 9,az.at 11,.rw 12 (.bool (decide (d.sign<0))) (.bool false) (by rw[Br]),Bq.at 16,.step 17 (av f184 17) _ _ _ _ (C3 (neg:=true) k_ (bw 1) (bw 1) one one (b:=true) s_)])
  ·have aU:bw f.s≠bw 1:=λe=>by have:=y8 e;omega
   rw[e0]at o0;rw[e1]at o1;rw[e2]at o2;rw[e3]at o3;rw[e4]at o4;have dp:f.low=⟨c 0/f.s,c 1/f.s,c 2/f.s,c 3/f.s,d/f.s⟩:=by unfold Fr.low;rw[e0,e1,e2,e3,e4]
   rw[dp];rw[<-hs]at hc;generalize f.s=s at *;exact aP func184 (λ_=>[hc.at 9,az.at 11,.rw 12 (.bool (decide (d.sign<0))) (.bool false) (by rw[Br]),Bq.at 16,.step 17 (av f184 17) _ _ _ _ (C3 (neg:=true) k_ (bw s) (bw 1) sm one (b:=false) (by simp;exact aU)),o0.at 29,o1.at 29,o2.at 29,o3.at 29,o4.at 35])
theorem TM{f:Fr}{n:Nat}(hf:f.pg)(h:dD n f)(hn:n<=aB):aE prog 69 [gG f] (.bool true):=by have hc:=aAQ (c:=co f) (d:=f.d) h hn;have e:nI (co f) f.d=f:=rfl;rw[e,hf.one]at hc;have hp:=hf.pos;have hs:decide (f.d.sign>0)=true:=aC (by rw[Bi hp];decide);have one:(bw 1).Sm:=vH (n:=1) d_ d_;exact aP func69 (λ_=>[(lI f.a).at 11,(lI f.b).at 11,(lI f.c).at 11,(lI f.e).at 11,(lI f.d).at 16,(qD f.d).at 20,.rw 21 (.bool (decide (f.d.sign>0))) (.bool true) (by rw[hs]),hc.at 28,(j4 (z:=1) d_).at 29,.step 30 (av f69 30) _ _ _ _ (C3 (neg:=true) k_ (bw 1) (bw 1) one one (b:=true) s_)])
theorem kJ{x:K}{n:Nat}(h:Sz n x)(hn:n<=aB):aE prog 69 [bZ x] (.bool true):=TM (ko x) h hn
theorem TN(z:Int):bJ (⟨⟨z,0⟩,⟨0,0⟩⟩:K)=⟨z,0,0,0,1⟩:=by
 have hl:Fr.pg ⟨z,0,0,0,1⟩:=⟨Int.zero_lt_one,by simp[Fr.g]⟩;have hv:Fr.val ⟨z,0,0,0,1⟩=⟨⟨z,0⟩,⟨0,0⟩⟩:=by
  unfold Fr.val;dsimp only;have e:∀ u:Int,Rat.divInt u 1=(u:Rat):=λu=>by rw[Bo,E8];grind
  rw[e,e];rfl
 rw[<-hv];exact E5 hl
def kI(z:Int):K:=⟨⟨z,0⟩,⟨0,0⟩⟩
theorem aAR(z:Int):bZ (kI z)=gG ⟨z,0,0,0,1⟩:=by unfold bZ dU kI;rw[TN];rfl
theorem qE{z:Int}{n:Nat}(h:z.natAbs<2^n)(hn:0<n):Sz n (kI z):=by unfold Sz kI;rw[TN];have:2^1<=2^n:=cZ d_ hn;exact⟨h,by simp;omega,by simp;omega,by simp;omega,by simp;omega⟩
theorem Bt:bw 0=⟨false,[]⟩:=by unfold bw;simp[CJ]
theorem rX{z:Int}(h:z.natAbs<9223372036854775808):aE prog 146 [.int .i64 z] (bZ (kI z)):=by
 rw[aAR];have e:gG ⟨z,0,0,0,1⟩=(RN.mk (bw z) ⟨false,[]⟩ ⟨false,[]⟩ ⟨false,[]⟩ (bw 1)).v:=by unfold gG rW;rw[Bt]
 rw[e];exact aP func146 (λ_=>[(j4 h).at 4,(j4 (z:=1) d_).at 6])
theorem TO{c:Nat->Int}{d:Int}{n:Nat}(hd:d≠0)(h:dD n (nI c d))(hn:n<=aB):aE prog 162 [oh c,bM d] (.tuple #[gG (nI c d).low,.int .i64 0]):=by
 have hl:=Bp hd h hn;have hs:(d.sign==0)=false:=by simp;exact hd
 exact aP func162 (λ_=>[(lI (c 0)).at 13,(lI (c 1)).at 13,(lI (c 2)).at 13,(lI (c 3)).at 13,(lI d).at 19,(qD d).at 24,.rw 25 (.bool (d.sign==0)) (.bool false) (by rw[hs]),hl.at 29])
theorem N4{p q:Int}{n:Nat}(hq:q≠0)(h1:p.natAbs<2^n)(h2:q.natAbs<2^n)(hn:n<=63):aE prog 120 [.int .i64 p,.int .i64 q] (.tuple #[gG (Fr.mk p 0 0 0 q).low,.int .i64 0]):=by
 have h63:2^n<=9223372036854775808:=de (cZ d_ hn) d_;have hp:0<2^n:=cG d_;have hm:=TO (c:=λi=>match i with|0=>p|_=>0) (d:=q) (n:=n) hq ⟨h1,hp,hp,hp,h2⟩ (by unfold aB;omega);have e:oh (λi=>match i with|0=>p|_=>0)=.agg #[.bool (bw p).neg,.string (BA (bw p).aZ),.bool false,.string ⟨#[]⟩,.bool false,.string ⟨#[]⟩,.bool false,.string ⟨#[]⟩]:=by show Value.agg #[.bool (bw p).neg,.string (BA (bw p).aZ),.bool (bw 0).neg,.string (BA (bw 0).aZ),.bool (bw 0).neg,.string (BA (bw 0).aZ),.bool (bw 0).neg,.string (BA (bw 0).aZ)]=_;rw[Bt];rfl
 rw[e]at hm;exact aP func120 (λ_=>[(j4 (z:=p) o_).at 7,(j4 (z:=q) o_).at 10,hm.at 11])
theorem zf{x:K}{n:Nat}(h:Sz n x)(hn:n<=aB):aE prog 199 [bZ x] (bZ (-x)):=by
 have hv:=kJ h hn;have e:bZ (-x)=gG (y7 (bJ x)):=by unfold bZ dU;rw[TB];rfl
 rw[e];exact aP func199 (λ_=>[hv.at 5,(oe (bJ x).a).at 16,(oe (bJ x).b).at 16,(oe (bJ x).c).at 16,(oe (bJ x).e).at 16])
theorem uO{x y:K}{m n:Nat}(hx:Sz m x)(hy:Sz n y)(cS:m+n<aB):aE prog 160 [bZ x,bZ y] (bZ (x+y)):=by
 have v1:=kJ hx o_;have v2:=kJ hy o_;have pj:aB<=1099511627776:=by decide
 have xk:=(ko x).pos;have vF:=(ko y).pos;have hl:=Bp (c:=co (uL (bJ x) (bJ y))) (d:=(uL (bJ x) (bJ y)).d) (n:=m+n+1) (C2 o_ o_) (dD.add hx hy) o_;have e:bZ (x+y)=gG (uL (bJ x) (bJ y)).low:=by unfold bZ dU;rw[Tz];rfl
 rw[e];obtain⟨x1,x2,x3,x4,x5⟩:=hx;obtain⟨y1,y2,y3,y4,y5⟩:=hy;have mu:∀{u v:Int} {p q:Nat},u.natAbs<2^p->v.natAbs<2^q->p+q<=aB->aE prog 195 [bM u,bM v] (bM (u*v)):=λh1 h2 h3=>mN h1 h2 o_ o_;have ad:∀{u v:Int},u.natAbs<2^m->v.natAbs<2^n->aE prog 180 [bM (u*(bJ y).d),bM (v*(bJ x).d)] (bM (u*(bJ y).d+v*(bJ x).d)):=λh1 h2=>
  yX (eA h1 y5) (eA h2 x5) o_ o_
 exact aP func160 (λ_=>[v1.at 8,v2.at 12,(mu x1 y5 o_).at 26,(mu y1 x5 o_).at 33,(ad x1 y1).at 34,(mu x2 y5 o_).at 26,(mu y2 x5 o_).at 33,(ad x2 y2).at 34,(mu x3 y5 o_).at 26,(mu y3 x5 o_).at 33,(ad x3 y3).at 34,(mu x4 y5 o_).at 26,(mu y4 x5 o_).at 33,(ad x4 y4).at 34,(mu x5 y5 o_).at 42,hl.at 43])
theorem Bu{x y:K}{m n:Nat}(hx:Sz m x)(hy:Sz n y)(cS:m+n<aB):aE prog 168 [bZ x,bZ y] (bZ (x-y)):=by rw[CR.sub_def];exact aP func168 (λ_=>[(zf hy o_).at 7,(uO hx hy.neg cS).at 8])
section
open CR OF
def mP(x:K):K:=⟨x.re,-x.im⟩
def lK(x:K):K:=⟨⟨x.re.re,-x.re.im⟩,⟨x.im.re,-x.im.im⟩⟩
def xl(f:Fr):Fr:=⟨f.a,f.b,-f.c,-f.e,f.d⟩
def xm(f:Fr):Fr:=⟨f.a,-f.b,f.c,-f.e,f.d⟩
theorem N5(u d:Int):Rat.divInt (-u) d=-Rat.divInt u d:=(Rat.neg_divInt u d).symm
theorem aAS(f:Fr):(xl f).val=mP f.val:=bE.ext rfl (bE.ext (N5 _ _) (N5 _ _))
theorem TP(f:Fr):(xm f).val=lK f.val:=bE.ext (bE.ext rfl (N5 _ _)) (bE.ext rfl (N5 _ _))
theorem aJZ{f:Fr}(h:f.pg):(xl f).pg:=⟨h.pos,by have:=h.one;unfold Fr.g at this ⊢;simpa[xl]using this⟩
theorem aJ0{f:Fr}(h:f.pg):(xm f).pg:=⟨h.pos,by have:=h.one;unfold Fr.g at this ⊢;simpa[xm]using this⟩
theorem aAT(x:K):bJ (mP x)=xl (bJ x):=by have:=E5 (aJZ (ko x));rw[aAS,oL]at this;exact this
theorem aAU(x:K):bJ (lK x)=xm (bJ x):=by have:=E5 (aJ0 (ko x));rw[TP,oL]at this;exact this
theorem Sz.mP{n:Nat}{x:K}(h:Sz n x):Sz n (mP x):=by unfold Sz at *;rw[aAT];obtain⟨h1,h2,h3,h4,h5⟩:=h;exact⟨h1,h2,by simpa[xl]using h3,by simpa[xl]using h4,h5⟩
theorem Sz.lK{n:Nat}{x:K}(h:Sz n x):Sz n (lK x):=by unfold Sz at *;rw[aAU];obtain⟨h1,h2,h3,h4,h5⟩:=h;exact⟨h1,by simpa[xm]using h2,h3,by simpa[xm]using h4,h5⟩
def two(y:K):K:=y*mP y
def qF(y:K):K:=two y*lK (two y)
theorem aJ1(y:K):two y=⟨bE.nm y,0⟩:=by
 unfold two mP;apply bE.ext
 ·show y.re*y.re+xj*(y.im*-y.im)=y.re*y.re-xj*(y.im*y.im);exact kZ y.re y.im xj (λa b s=>a*a+s*(b*-b)) (λa b s=>a*a-s*(b*b)) d_
 ·show y.re*-y.im+y.im*y.re=0;exact km y.re y.im (λa b=>a*-b+b*a) (λ_ _=>0) d_
theorem N6(y:K):qF y=⟨⟨bE.nm (bE.nm y),0⟩,⟨0,0⟩⟩:=by
 unfold qF;rw[aJ1];obtain⟨p,q⟩:=bE.nm y;have e:lK (⟨⟨p,q⟩,0⟩:K)=⟨⟨p,-q⟩,0⟩:=by unfold lK;show(⟨⟨p,-q⟩,⟨0,-0⟩⟩:K)=_;rw[CR.neg_zero];rfl
 rw[e];apply bE.ext
 ·show(⟨p,q⟩:K2)*⟨p,-q⟩+xj*(0*0)=_;rw[CR.zero_mul,CR.mul_zero,CR.add_zero];apply bE.ext
  ·show p*p+2*(q*-q)=p*p-2*(q*q)
   grind
  ·show p*-q+q*p=0
   grind
 ·show(⟨p,q⟩:K2)*0+0*⟨p,-q⟩=0;rw[CR.mul_zero,CR.zero_mul,CR.add_zero]
theorem TQ{y:K}(h:y≠0):bE.nm (bE.nm y)≠0:=λe=>h (bE.NP (bE.NP e))
theorem aAV(q:Rat):bJ (⟨⟨q,0⟩,⟨0,0⟩⟩:K)=⟨q.num,0,0,0,q.den⟩:=by
 have hl:Fr.pg ⟨q.num,0,0,0,q.den⟩:=⟨by show(0:Int)<(q.den:Int);have:=q.den_pos;omega,by have:=q.reduced;unfold Nat.Coprime at this;simp[Fr.g];rw[Hg];exact this⟩
 have hv:Fr.val ⟨q.num,0,0,0,q.den⟩=⟨⟨q,0⟩,⟨0,0⟩⟩:=by
  unfold Fr.val;have e:∀ d:Int,Rat.divInt 0 d=0:=λd=>by simp
  dsimp only;rw[e,aAG]
 rw[<-hv];exact E5 hl
def oj(y:K):Fr:=⟨(bJ (qF y)).d,0,0,0,(bJ (qF y)).a⟩
theorem N7{y:K}(h:y≠0):(oj y).d≠0:=by unfold oj;dsimp only;rw[N6,aAV];exact λe=>TQ h (Rat.num_eq_zero.1 e)
theorem aJ2{y:K}(h:y≠0):qF y*(oj y).val=1:=by
 have hq:=TQ h;have e1:(oj y).val=⟨⟨(bE.nm (bE.nm y))⁻¹,0⟩,⟨0,0⟩⟩:=by
  unfold oj Fr.val;rw[N6,aAV];have e:∀ d:Int,Rat.divInt 0 d=0:=λd=>by simp
  dsimp only;rw[e,Bo];generalize bE.nm (bE.nm y)=q at *;have h2:((q.den:Int):Rat)/(q.num:Rat)=q⁻¹:=by
   have h3:(q.num:Rat)≠0:=by simpa using hq
   have h4:((q.den:Int):Rat)*q=q.num:=by
    have h5:(q.num:Rat)/((q.den:Int):Rat)=q:=by rw[<-Bo];exact aAG q
    have h6:((q.den:Int):Rat)≠0:=by have:=q.den_nz;simpa using this
    have h7:=aAz (a:=(q.num:Rat)) h6;rw[h5,Rat.mul_comm]at h7;exact h7
   have h8:=Hy q hq;have h9:=Hy (q.num:Rat) h3;rw[E8]
   grind
  rw[h2]
 rw[e1,N6];generalize bE.nm (bE.nm y)=q at *;have h8:=Hy q hq;apply bE.ext
 ·apply bE.ext
  ·show(q*q⁻¹+2*(0*0))+(3*(0*0+2*(0*0))+2*(0*(0*0+0*0)))=1
   grind
  ·show(q*0+0*q⁻¹)+(3*(0*0+0*0)+0*(0*0+2*(0*0)))=0
   grind
 ·apply bE.ext
  ·show(q*0+2*(0*0))+(0*q⁻¹+2*(0*0))=0
   grind
  ·show(q*0+0*0)+(0*0+0*q⁻¹)=0
   grind
theorem aAW{x y:K}(h:y≠0):(x*mP y)*(lK (two y)*(oj y).val)=x*y⁻¹:=by
 have h1:=aJ2 h;have h2:=OF.lJ y h;have e1:y*(mP y*(lK (two y)*(oj y).val))=1:=by rw[<-h1];unfold qF two;exact E3 y (mP y) (lK (y*mP y)) (oj y).val (λy c b i=>y*(c*(b*i))) (λy c b i=>y*c*b*i) d_
 have e2:mP y*(lK (two y)*(oj y).val)=y⁻¹:=by have h3:=cI (λt=>y⁻¹*t) e1;rw[CR.mul_one,<-CR.mul_assoc,CR.mul_comm y⁻¹ y,h2,CR.one_mul]at h3;exact h3
 rw[<-e2,CR.mul_assoc]
theorem Sz.inv{n:Nat}{y:K}(h:y≠0)(hy:Sz n y):Sz (4*n+12) (oj y).val:=by have h1:Sz (n+n+4) (two y):=hy.mul hy.mP;have h2:Sz (n+n+4+(n+n+4)+4) (qF y):=h1.mul h1.lK;have h3:Sz (4*n+12) (qF y):=h2.mono o_;unfold Sz;rw[E6 (N7 h)];obtain⟨a1,a2,a3,a4,a5⟩:=h3;have hp:0<2^(4*n+12):=cG d_;exact dD.low ⟨a5,hp,hp,hp,a1⟩ (N7 h)
theorem Sz.div{m n:Nat}{x y:K}(h:y≠0)(hx:Sz m x)(hy:Sz n y):Sz (m+7*n+28) (x*y⁻¹):=by rw[<-aAW h];have h1:Sz (n+n+4) (two y):=hy.mul hy.mP;exact((hx.mul hy.mP).mul (h1.lK.mul (Sz.inv h hy))).mono o_
end
def sq(n:Nat):Int:=match n with|0=>1|1=>2|2=>3|_=>6
def xn(n:Nat)(a b c:Nat->Int):Nat->Int:=λk=>if Nat.beq k ((n/4) ^^^ (n%4))then c k+sq ((n/4)&&& (n%4))*(a (n/4)*b (n%4))else c k
def jF(a b:Nat->Int):Nat->Nat->Int
 |0=>λ_=>0
 |n+1=>xn n a b (jF a b n)
def m7(n:Nat):Nat:=4+9*(n/4)
def nx(n:Nat):Nat:=m7 n+1+2*(n%4)
def ptr(k:Nat):Value:=.pointer (some ⟨k,0,some 7⟩)
section
variable{Bs:aa}{a b:Nat->Int}
def TR(n:Nat)(b:Nat->Int):aW:=[(18,oh b),(19,vI (n%4)),(6,vI (n/4)),(7,ptr (m7 n)),(5,ptr 3)]
def HC(n:Nat)(a c:Nat->Int):aH:=[(3,.aI (ic c) 29),(m7 n,.aI (bw (a (n/4))).cs 28)]
theorem N8{n:Nat}{c:Nat->Int}(h:a (n/4)=0\/b (n%4)=0):xn n a b c=c:=by
 funext k
 unfold xn;split
 ·rcases h with h|h<;>rw[h]<;>simp
 ·rfl
theorem Kk{z:Int}:((BA (cg z.natAbs)).toList==(ByteArray.mk #[]).toList)=decide (z=0):=by rw[qB,rI];omega
theorem aJ3(n:Nat)(hn:n<16){c:Nat->Int}{p q r:Nat}(ha:∀ i,(a i).natAbs<2^p)(hb:∀ i,(b i).natAbs<2^q)(hc:∀ i,(c i).natAbs<2^r)(N9:p+q+3<=aB)(hr:r<=aB):
  ag prog Bs 62 (.block 3 (af f183 3)) (TR n b) (HC n a c) (nx n) ⟨.normal,[],HC n a (xn n a b c),nx n+2⟩:=by
 have pj:aB<=1099511627776:=by decide
 have qG:∀ m,(sq m).natAbs<2^3:=λm=>by unfold sq;split<;>decide
 have m1:=mN (ha (n/4)) (hb (n%4)) o_ o_;have m2:=mN (qG ((n/4)&&& (n%4))) (eA (ha (n/4)) (hb (n%4))) o_ o_;have ad:=yX (hc ((n/4) ^^^ (n%4))) (eA (qG ((n/4)&&& (n%4))) (eA (ha (n/4)) (hb (n%4)))) o_ o_;have so:=j4 (z:=sq ((n/4)&&& (n%4))) (mf (qG _) d_);by_cases h1:a (n/4)=0
 ·rw[N8 (.inl h1)];have e:((BA (cg (a (n/4)).natAbs)).toList==(ByteArray.mk #[]).toList)=true:=by rw[Kk];exact aC h1
  rcases n with _|_|_|_|_|_|_|_|_|_|_|_|_|_|_|_|n
  all_goals first|omega|exact aA [.rw 25 _ (.bool true) (cI Value.bool e)]
 ·by_cases h2:b (n%4)=0
  ·rw[N8 (.inr h2)];have e:((BA (cg (a (n/4)).natAbs)).toList==(ByteArray.mk #[]).toList)=false:=by rw[Kk];exact aN h1
   have e':((BA (cg (b (n%4)).natAbs)).toList==(ByteArray.mk #[]).toList)=true:=by rw[Kk];exact aC h2
   rcases n with _|_|_|_|_|_|_|_|_|_|_|_|_|_|_|_|n
   all_goals first|omega|exact aA [.rw 25 _ (.bool false) (cI Value.bool e),.rw 29 _ (.bool true) (cI Value.bool e')]
  ·have e:((BA (cg (a (n/4)).natAbs)).toList==(ByteArray.mk #[]).toList)=false:=by rw[Kk];exact aN h1
   have e':((BA (cg (b (n%4)).natAbs)).toList==(ByteArray.mk #[]).toList)=false:=by rw[Kk];exact aN h2
   rcases n with _|_|_|_|_|_|_|_|_|_|_|_|_|_|_|_|n
   all_goals first|omega|exact aA [.rw 25 _ (.bool false) (cI Value.bool e),.rw 29 _ (.bool false) (cI Value.bool e'),so.at 37,m1.at 49,m2.at 50,ad.at 51]
theorem TS{p q:Nat}(ha:∀ i,(a i).natAbs<2^p)(hb:∀ i,(b i).natAbs<2^q):∀ n,n<=16->∀ k,(jF a b n k).natAbs<=n*2^(p+q+3)
 |0,_,k=>by show(0:Int).natAbs<=_;simp
 |n+1,hn,k=>by
  have ih:=TS ha hb n o_ k;show(xn n a b (jF a b n) k).natAbs<=_;unfold xn;rw[fA,pO];split
  ·have qG:∀ m,(sq m).natAbs<2^3:=λm=>by unfold sq;split<;>decide
   have h1:=eA (qG ((n/4)&&& (n%4))) (eA (ha (n/4)) (hb (n%4)));rw[show 3+(p+q)=p+q+3 by omega]at h1;have:=aAH (jF a b n k) (sq ((n/4)&&& (n%4))*(a (n/4)*b (n%4)));exact de this (Kl ih (iR h1))
  ·exact de ih (JI _ _)
end
theorem Km(f g:Fr):nI (jF (co f) (co g) 16) (f.d*g.d)=e9 f g:=by
 apply Fr.ext'
 ·show jF (co f) (co g) 16 0=_;simp[jF,xn,sq,co,e9]
 ·show jF (co f) (co g) 16 1=_;simp[jF,xn,sq,co,e9]
 ·show jF (co f) (co g) 16 2=_;simp[jF,xn,sq,co,e9]
 ·show jF (co f) (co g) 16 3=_;simp[jF,xn,sq,co,e9]
 ·rfl
theorem HD{f:Fr}{n:Nat}(h:dD n f):∀ i,(co f i).natAbs<2^n
 |0=>h.1
 |1=>h.2.1
 |2=>h.2.2.1
 |_+3=>h.2.2.2.1
theorem aAX:ic (λ_=>0)=[.bool false,.string ⟨#[]⟩,.bool false,.string ⟨#[]⟩,.bool false,.string ⟨#[]⟩,.bool false,.string ⟨#[]⟩]:=by unfold ic;rw[Bt];rfl
theorem aJ4{f g:Fr}{m n:Nat}(hf:dD m f)(hg:dD n g)(vk:f.d≠0)(n9:g.d≠0)(cS:m+n+8<=aB):aE prog 183 [gG f,gG g] (gG (e9 f g).low):=by
 have pj:aB<=1099511627776:=by decide
 have ca:=HD hf;have cb:=HD hg;have hl:=Bp (c:=jF (co f) (co g) 16) (d:=f.d*g.d) (n:=m+n+4) (C2 vk n9) (by rw[Km];exact hf.mul hg) o_;rw[Km]at hl;have md:=mN hf.2.2.2.2 hg.2.2.2.2 o_ o_;have hs:∀ i,i<=16->∀ k,(jF (co f) (co g) i k).natAbs<2^(m+n+8):=λi hi k=>by
  have h1:=TS ca cb i hi k;have h2:i*2^(m+n+3)<=16*2^(m+n+3):=e6 _ hi;have h3:2^(m+n+8)=32*2^(m+n+3):=by rw[show m+n+8=5+(m+n+3)by omega,ev]
  have h4:0<2^(m+n+3):=cG d_;omega
 have go:∀(w:World) (i:Nat),i<16->ag prog (aa.at w) 62 (.block 3 (af f183 3)) (TR i (co g)) (HC i (co f) (jF (co f) (co g) i)) (nx i) ⟨.normal,[],HC i (co f) (jF (co f) (co g) (i+1)),nx i+2⟩:=λw i hi=>
  aJ3 i hi ca cb (hs i o_) o_ o_
 have TT:∀(w:World),ag prog (aa.at w) 62 (.block 3 (af f183 3)) (TR 0 (co g)) [(3,.aI [.bool false,.string ⟨#[]⟩,.bool false,.string ⟨#[]⟩,.bool false,.string ⟨#[]⟩,.bool false,.string ⟨#[]⟩] 29),(m7 0,.aI (bw (co f 0)).cs 28)] (nx 0)
   ⟨.normal,[],HC 0 (co f) (jF (co f) (co g) 1),nx 0+2⟩:=λw=>by
  have h:=go w 0 o_;have e:HC 0 (co f) (jF (co f) (co g) 0)=[(3,.aI [.bool false,.string ⟨#[]⟩,.bool false,.string ⟨#[]⟩,.bool false,.string ⟨#[]⟩,.bool false,.string ⟨#[]⟩] 29),(m7 0,.aI (bw (co f 0)).cs 28)]:=by show[(3,Obj.aI (ic (λ_=>0)) 29),(m7 0,.aI (bw (co f 0)).cs 28)]=_;rw[aAX]
  rw[e]at h;exact h
 generalize jF (co f) (co g)=c at *;exact gu mixed func183 200 (λw=>[.code 3 _ _ _ _ _ (TT w),.code 3 _ _ _ _ _ (go w 1 o_),.code 3 _ _ _ _ _ (go w 2 o_),.code 3 _ _ _ _ _ (go w 3 o_),.code 3 _ _ _ _ _ (go w 4 o_),.code 3 _ _ _ _ _ (go w 5 o_),.code 3 _ _ _ _ _ (go w 6 o_),.code 3 _ _ _ _ _ (go w 7 o_),.code 3 _ _ _ _ _ (go w 8 o_),.code 3 _ _ _ _ _ (go w 9 o_),.code 3 _ _ _ _ _ (go w 10 o_),.code 3 _ _ _ _ _ (go w 11 o_),.code 3 _ _ _ _ _ (go w 12 o_),.code 3 _ _ _ _ _ (go w 13 o_),.code 3 _ _ _ _ _ (go w 14 o_),.code 3 _ _ _ _ _ (go w 15 o_),md.at 60,hl.at 61]) (λ_=>k_) k_ k_
theorem HE{x y:K}{m n:Nat}(hx:Sz m x)(hy:Sz n y)(cS:m+n+8<=aB):aE prog 183 [bZ x,bZ y] (bZ (x*y)):=by
 have e:bZ (x*y)=gG (e9 (bJ x) (bJ y)).low:=by unfold bZ dU;rw[TA];rfl
 rw[e];exact aJ4 hx hy (by have:=(ko x).pos;omega) (by have:=(ko y).pos;omega) cS
theorem oN{x y:K}{m n:Nat}(hx:Sz m x)(hy:Sz n y)(cS:m+n+8<=aB):aE prog 163 [bZ x,bZ y] (bZ (x*y)):=
 aP func163 (λ_=>[(kJ hx o_).at 6,(kJ hy o_).at 10,(HE hx hy cS).at 16])
theorem aJ5{x:K}:aE prog 182 [bZ x,vI 2] (bZ (mP x)):=by
 have e:bZ (mP x)=gG (xl (bJ x)):=by unfold bZ dU;rw[aAT];rfl
 rw[e];exact aP func182 (λ_=>[(oe (bJ x).c).at 18,(oe (bJ x).e).at 18])
theorem aJ6{x:K}:aE prog 182 [bZ x,vI 1] (bZ (lK x)):=by
 have e:bZ (lK x)=gG (xm (bJ x)):=by unfold bZ dU;rw[aAU];rfl
 rw[e];exact aP func182 (λ_=>[(oe (bJ x).b).at 18,(oe (bJ x).e).at 18])
theorem aJ7:kI 0=0:=rfl
theorem HF{x y:K}{m n:Nat}(h:y≠0)(hx:Sz m x)(hy:Sz n y)(cS:m+7*n+40<=aB):aE prog 154 [bZ x,bZ y] (.tuple #[bZ (x*y⁻¹),.int .i64 0]):=by
 have h1:Sz (n+n+4) (two y):=hy.mul hy.mP;have h2:Sz (n+n+4+(n+n+4)+4) (qF y):=h1.mul h1.lK;have h3:=Sz.inv h hy;have d1:=HE hy hy.mP o_;have d2:=HE h1 h1.lK o_;have d3:=HE hx hy.mP o_;have d4:=HE h1.lK h3 o_;have d5:=HE (hx.mul hy.mP) (h1.lK.mul h3) o_;rw[aAW h]at d5;have hi:=Bp (c:=co (oj y)) (d:=(oj y).d) (n:=n+n+4+(n+n+4)+4) (N7 h) (by obtain⟨a1,a2,a3,a4,a5⟩:=h2;have hp:0<2^(n+n+4+(n+n+4)+4):=cG d_;exact⟨a5,hp,hp,hp,a1⟩) o_
 have e:nI (co (oj y)) (oj y).d=oj y:=rfl;have e2:gG (oj y).low=bZ (oj y).val:=by unfold bZ dU;rw[E6 (N7 h)];rfl
 rw[e,e2]at hi;have e3:oh (co (oj y))=.agg #[.bool (bw (bJ (qF y)).d).neg,.string (BA (bw (bJ (qF y)).d).aZ),.bool false,.string ⟨#[]⟩,.bool false,.string ⟨#[]⟩,.bool false,.string ⟨#[]⟩]:=by show Value.agg #[.bool (bw (bJ (qF y)).d).neg,.string (BA (bw (bJ (qF y)).d).aZ),.bool (bw 0).neg,.string (BA (bw 0).aZ),.bool (bw 0).neg,.string (BA (bw 0).aZ),.bool (bw 0).neg,.string (BA (bw 0).aZ)]=_;rw[Bt];rfl
 rw[e3]at hi;have e4:(oj y).d=(bJ (qF y)).a:=rfl;rw[e4]at hi;have z:=rX (z:=0) d_;have zs:Sz 1 (kI 0):=qE d_ o_;have ne:dU y≠dU (kI 0):=λe=>h (by rw[Kj e];rfl);generalize (oj y).val=v at *;exact aP func154 (λ_=>[(kJ hx o_).at 13,(kJ hy o_).at 17,z.at 23,.step 24 (av f154 24) _ _ _ _ (aAN (neg:=true) k_ (dU y) (dU (kI 0)) (C4 hy o_) (C4 zs d_) (b:=false) (by simp;exact ne)),(aJ5 (x:=y)).at 27,d1.at 30,(aJ6 (x:=two y)).at 32,d2.at 35,hi.at 42,d3.at 45,d4.at 48,d5.at 49])
theorem aJ8{x:K}{m:Nat}(hx:Sz m x)(hm:m<=aB):aE prog 154 [bZ x,bZ 0] (.tuple #[.agg #[.bool false,.string ⟨#[]⟩,.bool false,.string ⟨#[]⟩,.bool false,.string ⟨#[]⟩,.bool false,.string ⟨#[]⟩,.bool false,.string ⟨#[]⟩],.int .i64 10]):=by have zs:Sz 1 (kI 0):=qE d_ o_;exact aP func154 (λ_=>[(kJ hx hm).at 13,(kJ (x:=0) zs d_).at 17,(rX (z:=0) d_).at 23,.step 24 (av f154 24) _ _ _ _ (aAN (neg:=true) k_ (dU 0) (dU (kI 0)) (C4 zs d_) (C4 zs d_) (b:=true) (by simp;rfl))])
theorem TU{a b s:Int}(ha:a.natAbs<=1)(hs:s.natAbs<=1):aE prog 178 [.int .i64 a,.int .i64 b,.int .i64 s] (.int .i64 (tw a b s)):=by
 have hw:IntKind.i64.wrap (a*s)=a*s:=by
  have h1:a=-1\/a=0\/a=1:=by omega
  rcases h1 with h1|h1|h1<;>rw[h1,c8]<;>omega
 unfold tw;by_cases h1:a=b
 ·rw[aw (.inl h1)];exact aP func178 (λ_=>[.rw 10 (.bool (a==b)) (.bool true) (by rw[h1];simp)])
 ·by_cases h2:b=0
  ·rw[aw (.inr h2)];exact aP func178 (λ_=>[.rw 10 (.bool (a==b)) (.bool false) (by congr 1;simpa using h1),.rw 13 (.bool (b==0)) (.bool true) (by rw[h2];rfl)])
  ·rw[ao (λh=>h.elim h1 h2)];by_cases h3:a=0
   ·rw[aw h3];exact aP func178 (λ_=>[.rw 10 (.bool (a==b)) (.bool false) (by congr 1;simpa using h1),.rw 13 (.bool (b==0)) (.bool false) (by congr 1;simpa using h2),.rw 18 (.bool (a==0)) (.bool true) (by rw[h3];rfl)])
   ·rw[ao h3];exact aP func178 (λ_=>[.rw 10 (.bool (a==b)) (.bool false) (by congr 1;simpa using h1),.rw 13 (.bool (b==0)) (.bool false) (by congr 1;simpa using h2),.rw 18 (.bool (a==0)) (.bool false) (by congr 1;simpa using h3),.wr 22 .i64 (a*s) (a*s) hw])
theorem Fe{k:Int}{x y:Int}{p q:Nat}(hk:k.natAbs<2^3)(h1:x.natAbs<2^p)(h2:y.natAbs<2^q)(N9:p+q+3<=aB):aE prog 181 [.int .i64 k,bM x,bM y] (bM (k*(x*y))):=by
 have pj:aB<=1099511627776:=by decide
 exact aP func181 (λ_=>[(j4 (z:=k) (mf hk d_)).at 8,(mN h1 h2 o_ o_).at 11,(mN hk (eA h1 h2) o_ o_).at 12])
theorem HG{k x y:Int}{p q:Nat}(hk:k.natAbs<2^3)(h1:x.natAbs<2^p)(h2:y.natAbs<2^q):(k*(x*y)).natAbs<2^(p+q+3):=by have:=eA hk (eA h1 h2);rwa[show 3+(p+q)=p+q+3 by omega]at this
theorem HH{x y:Int}{p:Nat}(h1:x.natAbs<2^p)(h2:y.natAbs<2^p):(x+y).natAbs<2^(p+1):=by have:=aAH x y;rw[dx];omega
theorem Oa{x y:Int}{p:Nat}(h1:x.natAbs<2^p)(h2:y.natAbs<2^p):(x-y).natAbs<2^(p+1):=by have:=Int.natAbs_sub_le x y;rw[dx];omega
theorem Ff(z:Int):z.sign.natAbs<=1:=by
 rcases NQ z 0 with h|h|h
 ·rw[EZ h];decide
 ·rw[h];decide
 ·rw[Bi h];decide
theorem TV{x y:Int}{p q:Nat}(h1:x.natAbs<2^p)(h2:y.natAbs<2^q)(hp:p+p+3<=aB)(hq:q+q+3<=aB):aE prog 177 [bM x,bM y] (.int .i64 (ph x y)):=by
 have pj:aB<=1099511627776:=by decide
 exact aP func177 (λ_=>[(qD x).at 6,(qD y).at 8,(mN h1 h1 o_ o_).at 11,(Fe (k:=2) d_ h2 h2 o_).at 14,(S2 (eA h1 h1) (HG (k:=2) d_ h2 h2) o_ o_).at 15,(TU (b:=y.sign) (s:=(x*x-2*(y*y)).sign) (Ff x) (Ff _)).at 16])
theorem Ob(x y:Int):(ph x y).natAbs<=1:=by
 unfold ph tw;have h1:=Ff x;have h2:=Ff y;have h3:=Ff (x*x-2*(y*y));split
 ·exact h1
 ·split
  ·exact h2
  ·rw[uK];exact de (wY h1 h3) d_
theorem nJ{x:K}{n:Nat}(hx:Sz n x)(hn:4*n+20<=aB):aE prog 152 [bZ x] (.int .i64 (OF.az x)):=by
 have pj:aB<=1099511627776:=by decide
 have hv:=kJ hx o_;rw[aAL];obtain⟨x1,x2,x3,x4,x5⟩:=hx;unfold bZ dU at *;generalize bJ x=f at *;have s1:=TV x1 x2 o_ o_;have s2:=TV x3 x4 o_ o_;have t1:=Fe (k:=1) d_ x1 x1 o_;rw[NG]at t1;have t2:=Fe (k:=2) d_ x2 x2 o_;have t3:=Fe (k:=3) d_ x3 x3 o_;have t6:=Fe (k:=6) d_ x4 x4 o_;have z1:(f.a*f.a).natAbs<2^(n+n+3):=cv (eA x1 x1) (cZ d_ o_);have z2:=HG (k:=2) d_ x2 x2;have z3:=HG (k:=3) d_ x3 x3;have z6:=HG (k:=6) d_ x4 x4;have a1:=yX z1 z2 o_ o_;have a2:=yX z3 z6 o_ o_;have b1:=E1 (HH z1 z2) (HH z3 z6) o_ o_;have u2:=Fe (k:=2) d_ x1 x2 o_;have u6:=Fe (k:=6) d_ x3 x4 o_;have y2:=HG (k:=2) d_ x1 x2;have y6:=HG (k:=6) d_ x3 x4;have b2:=E1 y2 y6 o_ o_;have s3:=TV (Oa (HH z1 z2) (HH z3 z6)) (Oa y2 y6) o_ o_;have xo:=Ob f.a f.b;have TW:=Ob ((f.a*f.a+2*(f.b*f.b))-(3*(f.c*f.c)+6*(f.e*f.e))) (2*(f.a*f.b)-6*(f.c*f.e));have mx:=TU (b:=ph f.c f.e) xo TW;have m0:=TU (a:=ph f.a f.b) (b:=ph f.c f.e) (s:=0) xo d_;unfold N1;generalize ph f.a f.b=p at *;generalize ph f.c f.e=q at *;by_cases h:p=q\/q=0\/p=0
 ·have e:tw p q (ph ((f.a*f.a+2*(f.b*f.b))-(3*(f.c*f.c)+6*(f.e*f.e))) (2*(f.a*f.b)-6*(f.c*f.e)))=tw p q 0:=by
   unfold tw;by_cases h1:p=q\/q=0
   ·rw[aw h1,aw h1]
   ·rw[ao h1,ao h1];have h2:p=0:=by
     rcases h with h|h|h
     ·exact absurd (.inl h) h1
     ·exact absurd (.inr h) h1
     ·exact h
    rw[aw h2,aw h2]
  rw[e];by_cases h1:p=q
  ·exact aP func152 (λ_=>[hv.at 12,s1.at 28,s2.at 31,.rw 34 (.bool (p==q)) (.bool true) (by rw[h1];simp),m0.at 45])
  ·by_cases h2:q=0
   ·exact aP func152 (λ_=>[hv.at 12,s1.at 28,s2.at 31,.rw 34 (.bool (p==q)) (.bool false) (by congr 1;simpa using h1),.rw 37 (.bool (q==0)) (.bool true) (by rw[h2];rfl),m0.at 45])
   ·have h3:p=0:=by
     rcases h with h|h|h
     ·exact absurd h h1
     ·exact absurd h h2
     ·exact h
    exact aP func152 (λ_=>[hv.at 12,s1.at 28,s2.at 31,.rw 34 (.bool (p==q)) (.bool false) (by congr 1;simpa using h1),.rw 37 (.bool (q==0)) (.bool false) (by congr 1;simpa using h2),.rw 41 (.bool (p==0)) (.bool true) (by rw[h3];rfl),m0.at 45])
 ·have h1:p≠q:=λe=>h (.inl e);have h2:q≠0:=λe=>h (.inr (.inl e));have h3:p≠0:=λe=>h (.inr (.inr e));exact aP func152 (λ_=>[hv.at 12,s1.at 28,s2.at 31,.rw 34 (.bool (p==q)) (.bool false) (by congr 1;simpa using h1),.rw 37 (.bool (q==0)) (.bool false) (by congr 1;simpa using h2),.rw 41 (.bool (p==0)) (.bool false) (by congr 1;simpa using h3),t1.at 48,t2.at 51,a1.at 52,t3.at 55,t6.at 58,a2.at 59,b1.at 60,u2.at 63,u6.at 66,b2.at 67,s3.at 72,mx.at 73])
theorem ml{x y:K}{m n:Nat}(hx:Sz m x)(hy:Sz n y)(cS:4*(m+n)+24<=aB):aE prog 126 [bZ x,bZ y] (.int .i64 (OF.az (x-y))):=
 aP func126 (λ_=>[(Bu hx hy o_).at 7,(nJ (hx.sub hy) o_).at 8])
def iK(x:K):K:=if OF.az x<0 then -x else x
theorem TX{x:K}{n:Nat}(hx:Sz n x)(hn:4*n+20<=aB):aE prog 198 [bZ x] (bZ (iK x)):=by
 unfold iK;have n1:=zf hx o_;have n2:=zf hx.neg o_;rw[CR.neg_neg]at n2;by_cases h:OF.az x<0
 ·rw[aw h];exact aP func198 (λ_=>[(nJ hx hn).at 4,.rw 5 (.bool (decide (OF.az x<0))) (.bool true) (by rw[aC h]),n1.at 7])
 ·rw[ao h];exact aP func198 (λ_=>[(nJ hx hn).at 4,.rw 5 (.bool (decide (OF.az x<0))) (.bool false) (by rw[aN h]),n1.at 9,n2.at 10])
theorem aAY{ι:Map}{w:World}{b o cap:Nat}{x:Obj}(h:ju ι w (.at b o cap) x)(hx:x.owns=true):∃ cs ty,w.heap[b]?=some (.cells cs ty (0,0)):=by
 cases x with
 |aI cells ty=>
  obtain⟨b',bC,e,_,h2⟩:=h;injection e with e _ _;subst e;exact⟨_,_,h2⟩
 |row cells ty size=>
  rcases h with ⟨h,_⟩|⟨b',aT,cur,e,h2,_⟩
  ·cases h
  ·injection e with e _ _;subst e;exact⟨_,_,h2⟩
 |_=>cases hx
def Else(w:World)(l:Nat):Prop:=∀ cs ty f,w.heap[l]?≠some (.cells cs ty f)
theorem Oc{w:World}{l:Nat}{r:Loop}(h:w.heap[l]?=some (.loop r)):Else w l:=λcs ty f e=>by rw[h]at e;cases e
theorem aJ9{w:World}{l:Nat}{r:Option (List Deferred)}(h:w.heap[l]?=some (.deferred r)):Else w l:=λcs ty f e=>by rw[h]at e;cases e
theorem Od{ι:Map}{w w':World}{loc:oY}{x:Obj}{l:Nat}(hl:Else w l)(h:ju ι w loc x)(hx:∀ F,x=.fact F->F.rc=false)(hz:w.heap.size<=w'.heap.size)
  (hs:∀ b o cap,x.owns=true\/x.gh=true->loc=.at b o cap->b=l\/w'.heap[b]?=w.heap[b]?) (hf:∀ F v b,x=.fact F->loc=.val v->F.cO v w b->b=l\/w'.heap[b]?=w.heap[b]?):ju ι w' loc x:=by
 cases x with
 |aI cells ty=>
  obtain⟨b,bC,e,h1,h2⟩:=h;rcases hs b 0 0 (.inl rfl) e with rfl|hb
  ·exact absurd h2 (hl _ _ _)
  ·exact⟨b,bC,e,h1,by rw[hb];exact h2⟩
 |row cells ty size=>
  rcases h with h|⟨b,cap,cur,e,h1,h2⟩
  ·exact .inl h
  ·rcases hs b 0 cap (.inl rfl) e with rfl|hb
   ·exact absurd h1 (hl _ _ _)
   ·exact .inr ⟨b,cap,cur,e,by rw[hb];exact h1,h2⟩
 |view cells=>
  rcases h with h|⟨b,o,cap,bC,e,h1,h2⟩
  ·exact .inl h
  ·rcases hs b o cap (.inr rfl) e with rfl|hb
   ·have:bC=[]:=by
     cases bC with
     |nil=>rfl
     |cons u t=>
      have:=h2 0 u rfl;unfold World.cell? at this;dsimp only at this;split at this
      ·rename_i h3;exact absurd h3 (hl _ _ _)
      ·cases this
    subst this;exact .inr ⟨b,o,cap,[],e,h1,λj u hj=>by cases hj⟩
   ·exact .inr ⟨b,o,cap,bC,e,h1,λj u hj=>by rw[World.cell?_of_block (w:=w) (w':=w') (a:=⟨b,o+j,none⟩) hb];exact h2 j u hj⟩
 |fact F=>
  obtain⟨v,e,h1⟩:=h;refine⟨v,e,(F.soft (hx F rfl) v w w' h1 hz λk hk cs ty f hc=>?_).1⟩;rcases hf F v k rfl e hk with rfl|hb
  ·exact absurd hc (hl _ _ _)
  ·rw[hb];exact hc
 |dead=>trivial
theorem Oe{B1 B2:aa}{ι κ:Map}{c c2:Nat->Option Obj}{w1 w2:World}{L:aH}(h:aQ B1 ι c w1)(hL:cT c L)(rE:∀ k x,ah L k=some x->κ k=ι k)
  (aKa:∀ k x l,ah L k=some x->ι k=some l->ju ι w1 l x->ju κ w2 l x) (aKb:B2.G w2) (I5:∀ k x b o cap,ah L k=some x->x.owns=true->ι k=some (.at b o cap)->¬B2.cO b)
  (yp:w1.heap.size<=w2.heap.size) (Sp:∀ k,c2 k=none->κ k=none) (di:∀ k x,c2 k=some x->ah L k=some x\/(x=.dead/\∃ l,κ k=some l)) (hfa:∀ k F,ah L k=some (.fact F)->F.rc=true->B2.Fa F) (hff:∀ k F v b,ah L k=some (.fact F)->ι k=some (.val v)->F.cO v w2 b->F.cO v w1 b)
  (hle:Map.le B2.mp κ):aQ B2 κ c2 w2:=by
 have src:∀{k x},c2 k=some x->x≠.dead->c k=some x/\κ k=ι k/\ah L k=some x:=λ{k x} hk hx=>by
  rcases di k x hk with h1|⟨h1,_⟩
  ·exact⟨hL k x h1,rE k x h1,h1⟩
  ·exact absurd h1 hx
 have nd:∀{x:Obj},x.owns=true->x≠.dead:=λh e=>by subst e;cases h
 have nv:∀{x:Obj},x.gh=true->x≠.dead:=λh e=>by subst e;cases h
 refine⟨aKb,Sp,?_,?_,?_,?_,?_,?_,?_,hle⟩
 ·intro k x hk;rcases di k x hk with h1|⟨rfl,l,hl⟩
  ·obtain⟨l,e1,e2⟩:=h.born k x (hL k x h1);exact⟨l,(rE k x h1).trans e1,aKa k x l h1 e1 e2⟩
  ·exact⟨l,hl,trivial⟩
 ·intro k x b o cap hk hx hl;obtain⟨q1,q2,q3⟩:=src hk (nd hx);rw[q2]at hl;exact⟨cv (h.own k x b o cap q1 hx hl).1 yp,I5 k x b o cap q3 hx hl⟩
 ·intro k j x y b o cap o' aT hk hx hj hy hl ch;obtain⟨q1,q2,_⟩:=src hk (nd hx);obtain⟨p1,p2,_⟩:=src hj (nd hy);exact h.inj k j x y b o cap o' aT q1 hx p1 hy (q2▸hl) (p2▸ch)
 ·intro k j x F b o cap v hk hx hl hj hv;obtain⟨q1,q2,_⟩:=src hk (nd hx);obtain⟨p1,p2,p3⟩:=src hj n_;intro hF;exact h.apart k j x F b o cap v q1 hx (q2▸hl) p1 (p2▸hv) (hff j F v b p3 (p2▸hv) hF)
 ·intro k x b o cap hk hx hl;obtain⟨q1,q2,_⟩:=src hk (nv hx);obtain⟨s1,s2⟩:=h.seen k x b o cap q1 hx (q2▸hl);refine⟨cv s1 yp,λj y o' aT hj hy hm=>?_⟩;obtain⟨p1,p2,_⟩:=src hj (nd hy);exact s2 j y o' aT p1 hy (p2▸hm)
 ·intro j F hj;exact hfa j F (src hj n_).2.2
 ·intro j k F F' hj hk;exact h.one j k F F' (src hj n_).1 (src hk n_).1
def fm(l:Nat)(r:Loop):Fact where
 G _ W:=W.heap[l]?=some (.loop r)
 cO _ _ k:=k=l
 lt _ w k h hk:=by subst hk;exact(yC.1 h).1
 dep _ w w' h _ hk:=⟨(hk l rfl).trans h,λk h=>h⟩
 rc:=true
 soft h:=by cases h
def pk(W1:World)(l:Nat)(S:Nat->Prop)(m:Map):aa where
 G W:=sT W1 W/\W.tape=W1.tape/\W.output=W1.output/\W1.heap.size<=W.heap.size/\∀ k,k<W1.heap.size->¬S k->k≠l->W.heap[k]?=W1.heap[k]?
 cO k:=k<W1.heap.size/\¬S k/\k≠l
 Fa F:=∃ r,F=fm l r
 mp:=m
 lt w k h hk:=cv hk.1 h.2.2.2.1
 dep w w' h h1 h2 h3 h4 h5:=⟨h1.trans h.1,h2.trans h.2.1,h3.trans h.2.2.1,de h.2.2.2.1 h4,λk hk hS hl=>(h5 k ⟨hk,hS,hl⟩).trans (h.2.2.2.2 k hk hS hl)⟩
section
variable{W1 W:World}{l g:Nat}{S:Nat->Prop}{m ι:Map}{c:Nat->Option Obj}{r r':Loop}
theorem Bv{B:aa}(h:aQ B ι c W)(hg:c g=some (.fact (fm l r))):W.heap[l]?=some (.loop r):=by obtain⟨lc,hl,v,_,hr⟩:=h.born g _ hg;exact hr
theorem aAZ(h:aQ (pk W1 l S m) ι c W)(hg:c g=some (.fact (fm l r))):aQ (pk W1 l S m) ι (ba c g (.fact (fm l r'))) (W.putObj l (.loop r')):=by
 have hr:=Bv h hg;have ak:=(yC.1 hr).1;have tz:=Oc hr;have ne:∀ b,b≠l->(W.putObj l (.loop r')).heap[b]?=W.heap[b]?:=λb hb=>aA0 hb;have cW:∀ j y,j≠g->ba c g (.fact (fm l r')) j=some y->c j=some y:=λj y hj e=>by unfold ba at e;rw[ao hj]at e;exact e
 have new:∀ y,ba c g (.fact (fm l r')) g=some y->y=.fact (fm l r'):=λy e=>by unfold ba at e;rw[aw rfl]at e;injection e with e;exact e.symm
 have nf:∀ j y,j≠g->c j=some y->∀ F,y=.fact F->F.rc=false:=λj y hj e F e2=>by
  subst e2;cases hr:F.rc with
  |false=>rfl
  |true=>exact absurd (h.one j g F _ e hg hr rfl) hj
 have og:∀ j y,ba c g (.fact (fm l r')) j=some y->y.owns=true\/y.gh=true->c j=some y:=λj y e hy=>by
  by_cases hj:j=g
  ·subst hj;rw[new y e]at hy;rcases hy with hy|hy<;>cases hy
  ·exact cW j y hj e
 refine⟨⟨h.base.1,h.base.2.1,h.base.2.2.1,by rw[vJ];exact h.base.2.2.2.1,λk hk hS hl=>(ne k hl).trans (h.base.2.2.2.2 k hk hS hl)⟩,?_,?_,?_,?_,?_,?_,?_,?_,h.oz⟩
 ·intro j hj;unfold ba at hj;by_cases k6:j=g
  ·rw[aw k6]at hj;cases hj
  ·rw[ao k6]at hj;exact h.dr j hj
 ·intro j y hj;by_cases k6:j=g
  ·subst k6;rw[new y hj];obtain⟨lc,hl,v,e,_⟩:=h.born j _ hg;exact⟨lc,hl,v,e,World.putObj_heap_same ak⟩
  ·have hc:=cW j y k6 hj;obtain⟨lc,hl,ho⟩:=h.born j y hc;exact⟨lc,hl,Od tz ho (nf j y k6 hc) (by rw[vJ];exact bj _) (λb o cap _ _=>(Nat.decEq b l).casesOn (λhb=>.inr (ne b hb)) λhb=>.inl hb) λF v b _ _ _=>(Nat.decEq b l).casesOn (λhb=>.inr (ne b hb)) λhb=>.inl hb⟩
 ·intro k x b o cap hk hx hl;rw[vJ];exact h.own k x b o cap (og k x hk (.inl hx)) hx hl
 ·intro k j x y b o cap o' aT hk hx hj hy;exact h.inj k j x y b o cap o' aT (og k x hk (.inl hx)) hx (og j y hj (.inl hy)) hy
 ·intro k j x F b o cap v hk hx hl hj hv hF;have gD:=og k x hk (.inl hx);by_cases k6:j=g
  ·subst k6;have e:=new _ hj;injection e with e;subst e;exact h.apart k j x _ b o cap v gD hx hl hg hv hF
  ·have il:=cW j _ k6 hj;obtain⟨lc,q1,v',q2,q3⟩:=h.born j _ il;rw[hv]at q1;injection q1 with q1;subst q1;injection q2 with q2;subst q2;refine h.apart k j x F b o cap v gD hx hl il hv ((F.soft (nf j _ k6 il F rfl) v W _ q3 (by rw[vJ];exact bj _) λk2 fE cs ty f hc=>?_).2 b hF);rw[ne k2 (λe=>by subst e;exact tz _ _ _ hc)];exact hc
 ·intro k x b o cap hk hx hl;rw[vJ];obtain⟨q1,q2⟩:=h.seen k x b o cap (og k x hk (.inr hx)) hx hl;exact⟨q1,λj y o' aT hj hy=>q2 j y o' aT (og j y hj (.inl hy)) hy⟩
 ·intro j F hj;by_cases k6:j=g
  ·subst k6;have e:=new _ hj;injection e with e;exact λ_=>⟨r',e⟩
  ·exact h.fa j F (cW j _ k6 hj)
 ·intro j k F F' hj hk hr sU;by_cases k6:j=g
  ·by_cases lL:k=g
   ·rw[k6,lL]
   ·have:=nf k _ lL (cW k _ lL hk) F' rfl;rw[sU]at this;cases this
  ·have:=nf j _ k6 (cW j _ k6 hj) F rfl;rw[hr]at this;cases this
end
section
variable{P:Program}{W1 W W4:World}{l g next:Nat}{S:Nat->Prop}{m ι:Map}{c:Nat->Option Obj}{r r2:Loop}
def vK(ι:Map)(next:Nat):Map:=λk=>if k<next then ι k else none
def oO(c:Nat->Option Obj)(next:Nat)(L:aH):Nat->Option Obj:=λk=>if k<next then(match ah L k with|some x=>some x|none=>(c k).map λ_=>.dead)else none
theorem xq{k:Nat}(h:k<next):vK ι next k=ι k:=by unfold vK;rw[aw h]
theorem aKc(h:aQ (pk W1 l S m) ι c W)(hg:c g=some (.fact (fm l r)))(TY:g<next){L:aH}(hL:cT c L)(Fg:ah L g=none)(dp:∀ k x,ah L k=some x->k<next/\fN next x)
  (nU:∀ k F,ah L k≠some (.fact F)) (hS:∀ k x b o cap,ah L k=some x->x.owns=true->ι k=some (.at b o cap)->S b) :
  aQ (pk W l S (vK ι next)) (vK ι next) (oO c next ((g,.fact (fm l r))::L)) W/\cT (oO c next ((g,.fact (fm l r))::L)) L/\oO c next ((g,.fact (fm l r))::L) g=some (.fact (fm l r))/\eG (oO c next ((g,.fact (fm l r))::L)) next:=by
 have hr:=Bv h hg;have TZ:∀ k,ah ((g,.fact (fm l r))::L) k=if g=k then some (.fact (fm l r))else ah L k:=λk=>by
  show(if Nat.beq g k then _ else _)=_;by_cases e:g=k
  ·subst e;simp
  ·rw[ao e,nY e];rfl
 have jv:∀ k x,ah ((g,.fact (fm l r))::L) k=some x->k<next/\c k=some x/\(x=.fact (fm l r)/\k=g\/ah L k=some x):=λk x e=>by
  rw[TZ]at e;by_cases hk:g=k
  ·subst hk;rw[aw rfl]at e;injection e with e;subst e;exact⟨TY,hg,.inl ⟨rfl,rfl⟩⟩
  ·rw[ao hk]at e;exact⟨(dp k x e).1,hL k x e,.inr e⟩
 refine⟨Oe (L:=(g,.fact (fm l r))::L) h (λk x e=>(jv k x e).2.1) (λk x e=>xq (jv k x e).1) (λk x lc e _ ho=>?_) ⟨.refl _,rfl,rfl,bj _,λ_ _ _ _=>rfl⟩ (λk x b o cap e hx hb hF=>?_) (bj _) (λk e=>?_) (λk x e=>?_) (λk F e=>?_) (λ_ _ _ _ _ _ h=>h) (Map.le.refl _),λk x e=>?_,?_,λk hk=>?_⟩
 ·rcases(jv k x e).2.2 with ⟨rfl,_⟩|e
  ·exact ho
  ·exact ho.below (λk hk l e=>by rw[xq hk];exact e) (dp k x e).2
 ·rcases(jv k x e).2.2 with ⟨rfl,_⟩|e
  ·cases hx
  ·exact hF.2.1 (hS k x b o cap e hx hb)
 ·unfold oO at e;unfold vK;split at e
  ·rename_i hk;rw[aw hk];split at e
   ·cases e
   ·cases hc:c k with
    |none=>exact h.dr k hc
    |some x=>rw[hc]at e;cases e
  ·rename_i hk;rw[ao hk]
 ·unfold oO at e;split at e
  ·rename_i hk;split at e
   ·rename_i y hy;injection e with e;subst e;exact .inl hy
   ·cases hc:c k with
    |none=>rw[hc]at e;cases e
    |some y=>
     rw[hc]at e;injection e with e;obtain⟨lc,q,_⟩:=h.born k y hc;exact .inr ⟨e.symm,lc,by rw[xq hk];exact q⟩
  ·cases e
 ·rcases(jv k _ e).2.2 with ⟨e,_⟩|e
  ·injection e with e;exact λ_=>⟨r,e⟩
  ·exact absurd e (nU k F)
 ·unfold oO;rw[aw (dp k x e).1,TZ,ao (λh=>by subst h;rw[Fg]at e;cases e),e]
 ·unfold oO;rw[aw TY,TZ,aw rfl]
 ·unfold oO;rw[ao o_]
theorem aKd(h:aQ (pk W1 l S m) ι c W)(hg:c g=some (.fact (fm l r))){Os cq:aH}(hO:cT c Os)(T0:ah Os g=none)(dL:∀ k x,ah Os k=some x->x.owns=true)(qH:∀ k x,ah cq k=some x->x.owns=true)
  (jO:∀ k,ah cq k=none↔ah Os k=none) (hS:∀ b,S b->∃ k x o cap,ah Os k=some x/\ι k=some (.at b o cap)) (jz:∀ k x,ah cq k=some x->fN next x)
  {au:Map} {c':Nat->Option Obj} {aKe:Map} (hm:aQ (pk W l S aKe) au c' W4) (Of:c' g=some (.fact (fm l r2))) (rY:cT c' cq) (dp:∀ k,k<next->∀ lc,au k=some lc->ι k=some lc)
  (TY:g<next) (mG:∀ k x,ah cq k=some x->k<next):aQ (pk W1 l S m) ι (lp c ((g,.fact (fm l r2))::cq)) W4:=by
 have hr:=Bv h hg;have hr4:=Bv hm Of;have tz:=Oc hr;have aKf:=Oc hr4;have bH:W.heap.size<=W4.heap.size:=hm.base.2.2.2.1;have aI:∀ b,b<W.heap.size->¬S b->b≠l->W4.heap[b]?=W.heap[b]?:=hm.base.2.2.2.2
 -- xj kinds of marks
 have kinds:∀ k x,lp c ((g,.fact (fm l r2))::cq) k=some x->(k=g/\x=.fact (fm l r2))\/(k≠g/\ah cq k=some x/\c' k=some x/\x.owns=true)\/(k≠g/\ah Os k=none/\c k=some x/\∀ F,x=.fact F->F.rc=false):=λk x e=>by
  rw[vn]at e;by_cases hk:k=g
  ·subst hk;have:ah ((k,Obj.fact (fm l r2))::cq) k=some (.fact (fm l r2)):=by show(if Nat.beq k k then _ else _)=_;simp
   rw[this]at e;injection e with e;exact .inl ⟨rfl,e.symm⟩
  ·have:ah ((g,Obj.fact (fm l r2))::cq) k=ah cq k:=by show(if Nat.beq g k then _ else _)=_;rw[nY (mD hk)];rfl
   rw[this]at e;cases ho:ah cq k with
   |some y=>rw[ho]at e;injection e with e;subst e;exact .inr (.inl ⟨hk,rfl,rY k y ho,qH k y ho⟩)
   |none=>
    rw[ho]at e;refine .inr (.inr ⟨hk,(jO k).1 ho,e,λF ef=>?_⟩);subst ef;cases hr:F.rc with
    |false=>rfl
    |true=>exact absurd (h.one k g F _ e hg hr rfl) hk
 -- the map is the same at the marks of the list
 have same:∀ k x,ah cq k=some x->au k=ι k:=λk x e=>by obtain⟨lc,q,_⟩:=hm.born k x (rY k x e);rw[q,dp k (mG k x e) lc q]
 have C6:∀ k x b o cap,ah Os k=none->c k=some x->x.owns=true->ι k=some (.at b o cap)->¬S b:=λk x b o cap hn hc hx hl hs=>by obtain⟨k',x',o',aT,e1,e2⟩:=hS b hs;have:=h.inj k k' x x' b o cap o' aT hc hx (hO k' x' e1) (dL k' x' e1) hl e2;subst this;rw[hn]at e1;cases e1
 have C7:∀ k x b o cap,c k=some x->x.gh=true->ι k=some (.at b o cap)->¬S b:=λk x b o cap hc hx hl hs=>by obtain⟨k',x',o',aT,e1,e2⟩:=hS b hs;exact(h.seen k x b o cap hc hx hl).2 k' x' o' aT (hO k' x' e1) (dL k' x' e1) e2
 have xt:∀ k F v b,c k=some (.fact F)->ι k=some (.val v)->F.cO v W b->¬S b:=λk F v b hc hl hF hs=>by obtain⟨k',x',o',aT,e1,e2⟩:=hS b hs;exact h.apart k' k x' F b o' aT v (hO k' x' e1) (dL k' x' e1) e2 hc hl hF
 have aA1:∀ k x b o cap,c k=some x->x.owns=true->ι k=some (.at b o cap)->b≠l:=λk x b o cap hc hx hl e=>by obtain⟨lc,q1,q2⟩:=h.born k x hc;rw[hl]at q1;injection q1 with q1;subst q1;obtain⟨cs,ty,q⟩:=aAY q2 hx;subst e;exact tz _ _ _ q
 have T1:∀ k x b o cap,c' k=some x->x.owns=true->au k=some (.at b o cap)->b≠l:=λk x b o cap hc hx hl e=>by obtain⟨lc,q1,q2⟩:=hm.born k x hc;rw[hl]at q1;injection q1 with q1;subst q1;obtain⟨cs,ty,q⟩:=aAY q2 hx;subst e;exact aKf _ _ _ q
 -- a block of the aUG is none of the aUH
 have part:∀ k x b o cap j y o' aT,ah cq k=some x->ι k=some (.at b o cap)->ah Os j=none->c j=some y->y.owns=true->ι j=some (.at b o' aT)->False:=λk x b o cap j y o' aT hk hl hj hc hy ch=>by
  rcases eF b W.heap.size with ak|dR
  ·have hx:=qH k x hk;have q:=(hm.own k x b o cap (rY k x hk) hx (by rw[same k x hk];exact hl)).2;have h1:=C6 j y b o' aT hj hc hy ch;have h2:=aA1 j y b o' aT hc hy ch;exact q ⟨ak,h1,h2⟩
  ·have:=(h.own j y b o' aT hc hy ch).1;omega
 refine⟨?_,?_,?_,?_,?_,?_,?_,?_,?_,h.oz⟩
 ·refine⟨hm.base.1.trans h.base.1,hm.base.2.1.trans h.base.2.1,hm.base.2.2.1.trans h.base.2.2.1,de h.base.2.2.2.1 bH,λk hk hs hl=>?_⟩;exact(aI k (cv hk h.base.2.2.2.1) hs hl).trans (h.base.2.2.2.2 k hk hs hl)
 ·intro k hk;rw[vn]at hk;cases ho:ah ((g,Obj.fact (fm l r2))::cq) k with
  |some y=>rw[ho]at hk;cases hk
  |none=>rw[ho]at hk;exact h.dr k hk
 ·intro k x hk;rcases kinds k x hk with ⟨rfl,rfl⟩|⟨lL,h1,h2,h3⟩|⟨lL,h1,h2,h3⟩
  ·obtain⟨lc,q1,v,q2,_⟩:=h.born k _ hg;exact⟨lc,q1,v,q2,hr4⟩
  ·obtain⟨lc,q1,q2⟩:=hm.born k x h2;exact⟨lc,by rw[<-same k x h1];exact q1,q2.below dp (jz k x h1)⟩
  ·obtain⟨lc,q1,q2⟩:=h.born k x h2;refine⟨lc,q1,Od tz q2 h3 bH (λb o cap hx e=>?_) λF v b e1 e2 hF=>?_⟩;rotate_left
   ·by_cases fJ:b=l
    ·exact .inl fJ
    ·subst e1;subst e2;exact .inr (aI b (q2.wD rfl hF) (xt k F v b h2 q1 hF) fJ)
   by_cases fJ:b=l
   ·exact .inl fJ
   ·right;subst e;rcases hx with hx|hx
    ·exact aI b (h.own k x b o cap h2 hx q1).1 (C6 k x b o cap h1 h2 hx q1) fJ
    ·exact aI b (h.seen k x b o cap h2 hx q1).1 (C7 k x b o cap h2 hx q1) fJ
 ·intro k x b o cap hk hx hl;rcases kinds k x hk with ⟨rfl,rfl⟩|⟨lL,h1,h2,h3⟩|⟨lL,h1,h2,h3⟩
  ·cases hx
  ·obtain⟨q1,q2⟩:=hm.own k x b o cap h2 hx (by rw[same k x h1];exact hl);exact⟨q1,λhF=>q2 ⟨cv hF.1 h.base.2.2.2.1,hF.2⟩⟩
  ·obtain⟨q1,q2⟩:=h.own k x b o cap h2 hx hl;exact⟨cv q1 bH,q2⟩
 ·intro k j x y b o cap o' aT hk hx hj hy hl ch;rcases kinds k x hk with ⟨rfl,rfl⟩|⟨lL,h1,h2,h3⟩|⟨lL,h1,h2,h3⟩
  ·cases hx
  ·rcases kinds j y hj with ⟨rfl,rfl⟩|⟨k6,p1,p2,p3⟩|⟨k6,p1,p2,p3⟩
   ·cases hy
   ·exact hm.inj k j x y b o cap o' aT h2 hx p2 hy (by rw[same k x h1];exact hl) (by rw[same j y p1];exact ch)
   ·exact(part k x b o cap j y o' aT h1 hl p1 p2 hy ch).elim
  ·rcases kinds j y hj with ⟨rfl,rfl⟩|⟨k6,p1,p2,p3⟩|⟨k6,p1,p2,p3⟩
   ·cases hy
   ·exact(part j y b o' aT k x o cap p1 ch h1 h2 hx hl).elim
   ·exact h.inj k j x y b o cap o' aT h2 hx p2 hy hl ch
 ·intro k j x F b o cap v hk hx hl hj hv hF;rcases kinds j _ hj with ⟨rfl,e⟩|⟨k6,p1,p2,p3⟩|⟨k6,p1,p2,p3⟩
  ·injection e with e;subst e;have vL:b=l:=hF;rcases kinds k x hk with ⟨rfl,rfl⟩|⟨lL,h1,h2,h3⟩|⟨lL,h1,h2,h3⟩
   ·cases hx
   ·exact T1 k x b o cap h2 hx (by rw[same k x h1];exact hl) vL
   ·exact aA1 k x b o cap h2 hx hl vL
  ·cases p3
  ·have hF:F.cO v W b:=by obtain⟨lc,q1,v',q2,q3⟩:=h.born j _ p2;rw[hv]at q1;injection q1 with q1;subst q1;injection q2 with q2;subst q2;refine(F.soft (p3 F rfl) v W W4 q3 bH λk2 fE cs ty f hc=>?_).2 b hF;rw[aI k2 (F.lt v W k2 q3 fE) (xt j F v k2 p2 hv fE) (λe=>by subst e;exact tz _ _ _ hc)];exact hc
   rcases kinds k x hk with ⟨rfl,rfl⟩|⟨lL,h1,h2,h3⟩|⟨lL,h1,h2,h3⟩
   ·cases hx
   ·have ch:au k=some (.at b o cap):=by rw[same k x h1];exact hl
    have hb:b<W.heap.size:=by obtain⟨lc,q1,q2⟩:=h.born j _ p2;rw[hv]at q1;injection q1 with q1;subst q1;exact q2.wD rfl hF
    exact(hm.own k x b o cap h2 hx ch).2 ⟨hb,xt j F v b p2 hv hF,T1 k x b o cap h2 hx ch⟩
   ·exact h.apart k j x F b o cap v h2 hx hl p2 hv hF
 ·intro k x b o cap hk hx hl;rcases kinds k x hk with ⟨rfl,rfl⟩|⟨lL,h1,h2,h3⟩|⟨lL,h1,h2,h3⟩
  ·cases hx
  ·cases x<;>simp[Obj.owns,Obj.gh]at h3 hx
  ·obtain⟨q1,q2⟩:=h.seen k x b o cap h2 hx hl;refine⟨cv q1 bH,λj y o' aT hj hy ch=>?_⟩;rcases kinds j y hj with ⟨rfl,rfl⟩|⟨k6,p1,p2,p3⟩|⟨k6,p1,p2,p3⟩
   ·cases hy
   ·have jv:au j=some (.at b o' aT):=by rw[same j y p1];exact ch
    exact(hm.own j y b o' aT p2 hy jv).2 ⟨q1,C7 k x b o cap h2 hx hl,T1 j y b o' aT p2 hy jv⟩
   ·exact q2 j y o' aT p2 hy ch
 ·intro j F hj;rcases kinds j _ hj with ⟨_,e⟩|⟨_,_,_,h3⟩|⟨_,_,_,h3⟩
  ·injection e with e;exact λ_=>⟨r2,e⟩
  ·cases h3
  ·exact λhr=>by rw[h3 F rfl]at hr;cases hr
 ·intro j k F F' hj hk hr sU;rcases kinds j _ hj with ⟨e1,_⟩|⟨_,_,_,h3⟩|⟨_,_,_,h3⟩
  ·rcases kinds k _ hk with ⟨e2,_⟩|⟨_,_,_,h3⟩|⟨_,_,_,h3⟩
   ·rw[e1,e2]
   ·cases h3
   ·rw[h3 F' rfl]at sU;cases sU
  ·cases h3
  ·rw[h3 F rfl]at hr;cases hr
end
def Og:aW->aW->aW
 |[],fr=>fr
 |p::l,fr=>Og l (p::fr)
theorem aA2{m:Map}{N:Nat}:∀(l:aW) {fr:aW} {T:Array Value},T.size=N->(∀ t,nq m (bI fr t) (T.getD t undef))->(∀ p∈l,p.1<N/\flat p.2=true)->
  (l.foldl (λt p=>t.setIfInBounds p.1 p.2) T).size=N/\∀ t,nq m (bI (Og l fr) t) ((l.foldl (λt p=>t.setIfInBounds p.1 p.2) T).getD t undef)
 |[],fr,T,hT,h,_=>⟨hT,h⟩
 |(p,v)::l,fr,T,hT,h,hl=>by
  obtain⟨h1,h2⟩:=hl (p,v) (aV ..);dsimp only at h1 h2;refine aA2 l (fr:=(p,v)::fr) (T:=T.setIfInBounds p v) (by simpa using hT) (λt=>?_) λq hq=>hl q (bF _ hq);by_cases e:p=t
  ·subst e;have e1:bI ((p,v)::fr) p=v:=by simp[bI]
   have e2:(T.setIfInBounds p v).getD p undef=v:=by rw[pK,Array.getElem?_setIfInBounds_self_of_lt o_];rfl
   rw[e1,e2];exact .inr (.same h2)
  ·have e1:bI ((p,v)::fr) t=bI fr t:=by show(if Nat.beq p t then _ else _)=_;rw[nY e];rfl
   have e2:(T.setIfInBounds p v).getD t undef=T.getD t undef:=by rw[pK,pK,Rp e]
   rw[e1,e2];exact h t
def exJ:Ex->Option Code
 |.normal=>none
 |.ret=>some .ret
 |.exit id=>some (.exit id)
def jS(fo:FuncId)(T:Array Value)(ps:Array Tmp)(iA eO:Code)(D:Nat):Loop:={ state:=.ready,pending:=none,fn:=fo,tmps:=T,params:=ps,assign:=iA,body:=eO,defers:=D }
def C8(r:Loop)(j:Option Code):Loop:={ r with state:=if j.isNone then .ready else .done,pending:=j }
section
variable{P:Program}{W1:World}{l g next N D:Nat}{S:Nat->Prop}{m:Map}
theorem Oh{c:Nat->Option Obj}{L:aH}(h:∀ p∈L.map (λp=>(p.1,some p.2)),c p.1=p.2):cT c L:=λk x e=>h (k,some x) (dj.2 ⟨(k,x),j0 e,rfl⟩)
structure Oi(P:Program)(next N:Nat)(ps:Array Tmp)(iA eO:Code)(fr:aW)(Os Vs cq:aH)(eB:aj)(j:Option Code):Prop where
 flat:∀ v∈eB,flat v=true
 len:eB.length=ps.size
 jA:∀ p∈ps,p<N
 low:∀ k x,ah (Os++Vs) k=some x->k<next/\fN (next+1) x
 aA3:∀ k x,ah cq k=some x->fN (next+1) x
 own:∀ k x,ah Os k=some x->x.owns=true
 aA4:∀ k x,ah cq k=some x->x.owns=true
 view:∀ k x,ah Vs k=some x->x.gh=true
 keys:∀ k,ah cq k=none↔ah Os k=none
 run:∃ rA rB:l5,(∀ B,ag P B N iA (Og (ps.toList.zip eB) fr) (Os++Vs) (next+1) rA)/\rA.ex=.normal/\next+1<=rA.next/\ah rA.M next=none/\
  (∀ B,ag P B N eO rA.fr rA.M rA.next rB)/\(∀ k x,ah cq k=some x->ah rB.M k=some x)/\exJ rB.ex=j
theorem Oj{ps:Array Tmp}{iA eO:Code}{fr:aW}{Os Vs cq:aH}{eB:aj}{j:Option Code}(ay:Oi P next N ps iA eO fr Os Vs cq eB j)
  {o:Oper} {x:Operand} (ho:dw o.op=some x) {T:Array Value} {fo:FuncId} (hT:T.size=N) (hTs:∀ t,nq m (bI fr t) (T.getD t undef)) (cS:∀ k lc,m k=some lc->k<next)
  (hS:∀ b,S b↔∃ k x o cap,ah Os k=some x/\m k=some (.at b o cap)) (hSm:∀ k x,ah Os k=some x->m k≠none) :
  cB P (pk W1 l S m) o (.func (.yield l) #[] #[]::eB) ((next,some (.fact (fm l (jS fo T ps iA eO D))))::(Os++Vs).map (λp=>(p.1,some p.2))) (.bool j.isNone)
   ((next,.fact (fm l (C8 (jS fo T ps iA eO D) j)))::cq):=by
 intro R ι c a w hv hm hn K Q hK;obtain⟨rA,rB,hA,T2,hAn,Ol,hB,T3,T4⟩:=ay.run;have hg:c next=some (.fact (fm l (jS fo T ps iA eO D))):=hn (next,_) (aV ..);have hL:cT c (Os++Vs):=Oh λp hp=>hn p (bF _ hp);have hO:cT c Os:=λk x e=>hL k x (by rw[gK,e]);have Fg:ah (Os++Vs) next=none:=by
  cases e:ah (Os++Vs) next with
  |none=>rfl
  |some x=>have:=(ay.low _ _ e).1;omega
 have T0:ah Os next=none:=by
  rw[gK]at Fg;cases e:ah Os next with
  |none=>rfl
  |some x=>rw[e]at Fg;cases Fg
 have aKg:ah cq next=none:=(ay.keys next).2 T0;have Om:∀ k x,ah (Os++Vs) k=some x->x.owns=true->ah Os k=some x:=λk x e hx=>by
  rw[gK]at e;cases e1:ah Os k with
  |some y=>rw[e1]at e;exact e
  |none=>
   rw[e1]at e;have:=ay.view k x e;cases x<;>simp[Obj.owns,Obj.gh]at hx this
 have hr:=Bv hm hg;obtain⟨dst,op,ty,pos,after,guard⟩:=o;dsimp only at ho hv;unfold dw at ho;split at ho
 ·rename_i x' kU wH;injection ho with ho;subst ho;have yt:(Op.operands (.call ⟨.value x',kU,wH⟩)).toList=x'::kU.toList:=by simp[Op.operands,Call.operands]
  rw[yt]at hv;cases hv with
  |cons hx rm=>
  obtain⟨j9,eZ,he,h1,h2⟩:=hx.B8;have ef:j9=#[]:=by
   cases j6:j9.toList with
   |nil=>exact HI.1 j6
   |cons _ _=>rw[j6]at h1;cases h1
  have ec:eZ=#[]:=by
   cases j6:eZ.toList with
   |nil=>exact HI.1 j6
   |cons _ _=>rw[j6]at h2;cases h2
  subst ef;subst ec;have aO:kU.toList.map a.eval=eB:=nr rm ay.flat;have e3:execOp a.eval ⟨dst,.call ⟨.value x',kU,wH⟩,ty,pos,after,guard⟩=Instr.yield l eB.toArray:=by
   have:execOp a.eval ⟨dst,.call ⟨.value x',kU,wH⟩,ty,pos,after,guard⟩=(do let d <-Deferred.ofValue (a.eval x') (kU.map a.eval);invoke d.target d.args):=rfl;rw[this,he,<-aO];have:kU.map a.eval=(kU.toList.map a.eval).toArray:=by apply Gv;simp
   rw[this];simp[Deferred.ofValue,invoke,go_sem]
  have hy:=run_yield (P:=P) (args:=eB.toArray) hr (by simpa[jS]using ay.len);have aKh:((jS fo T ps iA eO D).params.zip eB.toArray).foldl (λtmps (t,a)=>tmps.setIfInBounds t a) (jS fo T ps iA eO D).tmps=(ps.toList.zip eB).foldl (λt p=>t.setIfInBounds p.1 p.2) T:=by rw[<-aA5];simp[jS]
  rw[aKh]at hy;obtain⟨f1,f2⟩:=aA2 (ps.toList.zip eB) hT hTs λp hp=>by have:=List.of_mem_zip hp;exact⟨ay.jA _ (by simpa using this.1),ay.flat _ this.2⟩
  refine⟨λ_ _=>trivial,?_⟩;rw[L8 _ _ _ n_,e3,hy,Oper.uponIn_round];refine⟨λe=>(by cases e),roundIn_of_wpIn trivial ?_⟩
  -- the aUI own memory
  obtain⟨Kn,Ko,On,uN⟩:=aKc (next:=next+1) hm hg (A9 _) hL Fg (λk x e=>⟨aA6 (ay.low k x e).1,(ay.low k x e).2⟩)
   (λk F e=>by
    rw[gK]at e;cases e1:ah Os k with
    |some y=>rw[e1]at e;injection e with e;subst e;have:=ay.own k _ e1;cases this
    |none=>rw[e1]at e;have:=ay.view k _ e;cases this)
   (λk x b o cap e hx hb=>by
    have e1:=Om k x e hx;refine(hS b).2 ⟨k,x,o,cap,e1,?_⟩;cases e2:m k with
    |none=>exact absurd e2 (hSm k x e1)
    |some lc=>rw[hm.oz k lc e2]at hb;exact hb)
  refine hA _ (some l) _ _ _ _ _ ⟨rfl,f1,λt=>(f2 t).mono λk lc e=>by rw[xq (aA6 (cS k lc e))];exact hm.oz k lc e⟩ Kn Ko uN λbO gk a1 w1 jq iH cX eC dP hY _=>?_;rw[T2];have tx:gk next=some (.fact (fm l (jS fo T ps iA eO D))):=(hY next (A9 _) Fg).trans On;refine⟨_,run_beginRound (Bv cX tx) rfl,?_⟩;have dB:=aAZ (r':={ jS fo T ps iA eO D with state:=.busy }) cX tx;refine hB _ (some l) _ _ _ _ _ iH dB (λk x e=>?_) (λk hk=>?_) λdG ry a2 w2 kV _ yq Fh hu3 hk3 _=>?_
  ·unfold ba;by_cases lL:k=next
   ·subst lL;rw[Ol]at e;cases e
   ·rw[ao lL];exact eC k x e
  ·unfold ba;rw[ao o_];exact dP k hk
  ·have hg3:ry next=some (.fact (fm l { jS fo T ps iA eO D with state:=.busy })):=(hk3 next o_ Ol).trans (by unfold ba;rw[aw rfl]);have hm4:=aAZ (r':=C8 (jS fo T ps iA eO D) j) yq hg3;have uP:=run_endRound (P:=P) j (Bv yq hg3);have Fi:∀ k,k<next+1->∀ lc,dG k=some lc->ι k=some lc:=λk hk lc e=>by
    cases qk:ι k with
    |some zg=>
     have:=kV k zg (jq k zg (by rw[xq hk];exact qk));rw[e]at this;exact this.symm
    |none=>
     exfalso;have hc:c k=none:=by
      cases hc:c k with
      |none=>rfl
      |some y=>obtain⟨zg,q,_⟩:=hm.born k y hc;rw[qk]at q;cases q
     have lL:k≠next:=λe=>by subst e;rw[hg]at hc;cases hc
     have vt:ah (Os++Vs) k=none:=by
      cases e1:ah (Os++Vs) k with
      |none=>rfl
      |some y=>rw[hL k y e1]at hc;cases hc
     have q1:gk k=none:=by
      rw[hY k hk vt];unfold oO;rw[aw hk];have:ah ((next,Obj.fact (fm l (jS fo T ps iA eO D)))::(Os++Vs)) k=none:=by show(if Nat.beq next k then _ else _)=_;rw[nY (mD lL)];exact vt
      rw[this,hc];rfl
     have hAk:ah rA.M k=none:=by
      cases e1:ah rA.M k with
      |none=>rfl
      |some y=>rw[eC k y e1]at q1;cases q1
     have q2:ry k=none:=by rw[hk3 k o_ hAk];unfold ba;rw[ao lL];exact q1
     rw[yq.dr k q2]at e;cases e
   have hmm:=aKd (next:=next+1) (Os:=Os) (cq:=cq) hm hg hO T0 ay.own ay.aA4 ay.keys (λb hb=>by
     obtain⟨k,x,o,cap,e1,e2⟩:=(hS b).1 hb;exact⟨k,x,o,cap,e1,hm.oz k _ e2⟩) ay.aA3 hm4 (by unfold ba;rw[aw rfl])
    (λk x e=>by
     unfold ba;by_cases lL:k=next
     ·subst lL;rw[aKg]at e;cases e
     ·rw[ao lL];exact Fh k x (T3 k x e)) Fi (A9 _) (λk x e=>by
     cases e1:ah Os k with
     |none=>rw[(ay.keys k).2 e1]at e;cases e
     |some y=>exact aA6 (ay.low k y (by rw[gK,e1])).1)
   have fin:=hK ι (.bool j.isNone) _ (Map.le.refl _) (.same rfl) hmm;subst T4;cases hx:rB.ex with
   |normal=>rw[hx]at uP fin;exact⟨_,_,uP,fin⟩
   |ret=>rw[hx]at uP fin;exact⟨_,_,uP,fin⟩
   |exit id=>rw[hx]at uP fin;exact⟨_,_,uP,fin⟩
 ·cases ho
end
def Fj(D:Nat):Deferred:={ target:=.collected D,args:=#[]}
def aa.held(B:aa)(D:Nat):aa where
 G w:=B.G w/\w.heap[D]?=some (.deferred (some []))
 cO k:=B.cO k\/k=D
 ds:=Fj D::B.ds
 Fa:=B.Fa
 mp:=B.mp
 lt w k h hk:=by
  rcases hk with hk|rfl
  ·exact B.lt w k h.1 hk
  ·exact(yC.1 h.2).1
 dep w w' h h1 h2 h3 h4 h5:=⟨B.dep w w' h.1 h1 h2 h3 h4 λk hk=>h5 k (.inl hk),(h5 D (.inr rfl)).trans h.2⟩
section
variable{P:Program}{B:aa}{N next:Nat}
structure Oo(P:Program)(next N:Nat)(fr:aW)(Os:aH)(m:Map)(S:Nat->Prop)(T:Array Value):Prop where
 size:T.size=N
 jA:∀ t,nq m (bI fr t) (T.getD t undef)
 low:∀ k lc,m k=some lc->k<next
 set:∀ b,S b↔∃ k x o cap,ah Os k=some x/\m k=some (.at b o cap)
 born:∀ k x,ah Os k=some x->m k≠none
def aKi(P:Program)(Q:Exit->Act->World->Prop)(j:Option Code)(a:Act)(w:World):Prop:=
 match j with
 |none=>Q .normal a w
 |some c=>c.wpIn (FW none) 0 P Q a w
theorem aA7{fr:aW}{Os Vs cq:aH}{ι:Map}{cc:Nat->Option Obj}{a:Act}{w:World}{g:Operand}{gf:FuncId}{ca:aj}{ps:Array Tmp}{iA eO:Code}{j:Option Code}{Q:Exit->Act->World->Prop}
  (hf:fh B ι (bI fr) N a) (hm:aQ B ι cc w) (hL:cT cc (Os++Vs)) (hu:eG cc next) (dL:∀ k x,ah Os k=some x->x.owns=true) (oZ:∀ k x,ah Vs k=some x->x.gh=true)
  (hg:fW (bI fr) g=.func (.func gf) #[] ca.toArray) (aKj:Mi g=true) (eK:gi P gf=true)
  (jO:∀ k,ah cq k=none↔ah Os k=none) (qH:∀ k x,ah cq k=some x->x.owns=true) (dp:∀ k x,ah (cq++Vs) k=some x->fN next x)
  (yB:∀(fo l D:Nat) (W1:World) (S:Nat->Prop),Oo P next N fr Os ι S a.tmps->∀(κ:Map) (c:Nat->Option Obj) (W:World) (eZ:aj),aQ (pk W1 l S ι) κ c W->cT c ((next,.fact (fm l (jS fo a.tmps ps iA eO D)))::(Os++Vs))->eG c (next+1)->bK (aG κ) ca eZ->Calls P gf (.func (.yield l) #[] #[]::eZ).toArray W λe W'=>∃ v tA c',e=.returned v/\Map.le κ tA/\aQ (pk W1 l S ι) tA c' W'/\cT c' ((next,.fact (fm l (C8 (jS fo a.tmps ps iA eO D) j)))::(cq++Vs))/\∀ k,k<next->c k=none->c' k=none)
  (hQ:∀ D bY w',(∀ k,B.cO k->k≠D)->w.heap.size<=D->fh (B.held D) ι (bI fr) N { a with defers:=Fj D::a.defers }->aQ (B.held D) ι bY w'->cT bY (cq++Vs)->eG bY next->aKi P Q j { a with defers:=Fj D::a.defers } w'):(Code.rangeFunc g ps iA eO).wpIn (FW none) 0 P Q a w:=by
 have hO:cT cc Os:=λk x e=>hL k x (by rw[gK,e]);have Om:∀ k x,ah (Os++Vs) k=some x->x.owns=true->ah Os k=some x:=λk x e hx=>by
  rw[gK]at e;cases e1:ah Os k with
  |some y=>rw[e1]at e;exact e
  |none=>
   rw[e1]at e;have:=oZ k x e;cases x<;>simp[Obj.owns,Obj.gh]at hx this
 have aA8:∀ k F,ah (Os++Vs) k≠some (.fact F):=λk F e=>by
  rw[gK]at e;cases e1:ah Os k with
  |some y=>rw[e1]at e;injection e with e;subst e;have:=dL k _ e1;cases this
  |none=>rw[e1]at e;have:=oZ k _ e;cases this
 have aKk:∀ k lc,ι k=some lc->k<next:=λk lc e=>by
  rcases eF k next with h|h
  ·exact h
  ·rw[hm.dr k (hu k h)]at e;cases e
 have En:=X6 hf aKj (by rw[hg];rfl);rw[hg]at En;obtain⟨j9,eZ,he,h1,h2⟩:=En.B8;have ef:j9=#[]:=by
  cases j6:j9.toList with
  |nil=>exact HI.1 j6
  |cons _ _=>rw[j6]at h1;cases h1
 subst ef;refine wpIn_rangeFunc ?_;intro fo _;obtain⟨W1,Kp⟩:∃ W1,(w.alloc (.deferred (some []))).alloc (.loop (jS fo a.tmps ps iA eO w.heap.size))=W1:=⟨_,rfl⟩;have CD:=run_enterLoop_outer (P:=P) (w:=w) fo a.tmps ps iA eO;rw[show({ state:=.ready,pending:=none,fn:=fo,tmps:=a.tmps,params:=ps,assign:=iA,body:=eO,defers:=w.heap.size }:Loop)=jS fo a.tmps ps iA eO w.heap.size from rfl,Kp]at CD;have pL:Below w.heap.size w W1:=by rw[<-Kp];exact((Below.refl _ w).alloc (bj _) _).alloc s_ _
 have aA9:W1.heap.size=w.heap.size+2:=by rw[<-Kp];simp
 have hL1:W1.heap[w.heap.size+1]?=some (.loop (jS fo a.tmps ps iA eO w.heap.size)):=by rw[<-Kp];have:=World.alloc_heap_new (w.alloc (.deferred (some []))) (.loop (jS fo a.tmps ps iA eO w.heap.size));rwa[World.size_alloc]at this
 have hK1:W1.heap[w.heap.size]?=some (.deferred (some [])):=by rw[<-Kp];exact(Ra _ _ _ s_).trans (World.alloc_heap_new w _)
 obtain⟨S,hS⟩:∃ S:Nat->Prop,∀ b,S b↔∃ k x o cap,ah Os k=some x/\ι k=some (.at b o cap):=⟨_,λb=>Iff.rfl⟩;have T5:∀ b,S b->b<w.heap.size/\¬B.cO b:=λb hb=>by obtain⟨k,x,o,cap,e1,e2⟩:=(hS b).1 hb;exact hm.own k x b o cap (hO k x e1) (dL k x e1) e2
 have aBa:∀ k x,ah (Os++Vs) k=some x->∃ lc,ι k=some lc:=λk x e=>by obtain⟨lc,q,_⟩:=hm.born k x (hL k x e);exact⟨lc,q⟩
 refine⟨w.heap.size+1,[{ target:=.collected w.heap.size,args:=#[]}],W1,{ target:=.fn (.func gf) eZ,args:=#[.func (.yield (w.heap.size+1)) #[] #[]]},W1,gf,#[.func (.yield (w.heap.size+1)) #[] #[]]++eZ,W1,CD,?_,λ_ _=>trivial,?_,λe=>(by cases e),?_⟩
 ·simp only[resolve,he];simp[go_sem]
 ·have:=Mm (P:=P) eK (#[.func (.yield (w.heap.size+1)) #[] #[]]++eZ) W1;simpa[invoke,go_sem]using this
 ·have hmW:=hm.call pL
  -- the aUJ memory
  have cX:aQ (pk W1 (w.heap.size+1) S ι) ι (λk=>match ah (Os++Vs) k with|some x=>some x|none=>(cc k).map λ_=>.dead) W1:=by
   refine Oe (L:=Os++Vs) hmW hL (λ_ _ _=>rfl) (λk x lc _ _ h=>h) ⟨.refl _,rfl,rfl,bj _,λ_ _ _ _=>rfl⟩ (λk x b o cap e hx hl hF=>?_) (bj _) (λk e=>?_) (λk x e=>?_) (λk F e=>absurd e (aA8 k F)) (λ_ _ _ _ _ _ h=>h) (Map.le.refl _)
   ·exact hF.2.1 ((hS b).2 ⟨k,x,o,cap,Om k x e hx,hl⟩)
   ·split at e
    ·cases e
    ·cases hc:cc k with
     |none=>exact hm.dr k hc
     |some y=>rw[hc]at e;cases e
   ·split at e
    ·rename_i y hy;injection e with e;subst e;exact .inl hy
    ·cases hc:cc k with
     |none=>rw[hc]at e;cases e
     |some y=>
      rw[hc]at e;injection e with e;obtain⟨lc,q,_⟩:=hm.born k y hc;exact .inr ⟨e.symm,lc,q⟩
  generalize gj:(λk=>match ah (Os++Vs) k with|some x=>some x|none=>(cc k).map λ_=>Obj.dead:Nat->Option Obj)=c1 at cX;have Kq:ah (Os++Vs) next=none:=by
   cases e:ah (Os++Vs) next with
   |none=>rfl
   |some x=>have:=hL _ _ e;rw[hu next (bj _)]at this;cases this
  have aBb:∀ k,next<=k->c1 k=none:=λk hk=>by
   rw[<-gj];have:ah (Os++Vs) k=none:=by
    cases e:ah (Os++Vs) k with
    |none=>rfl
    |some x=>have:=hL _ _ e;rw[hu k hk]at this;cases this
   simp only[this,hu k hk,aBc]
  have aKl:∀ k x,ah (Os++Vs) k=some x->c1 k=some x:=λk x e=>by rw[<-gj];simp only[e]
  have aKm:∀ k F,c1 k≠some (.fact F):=λk F e=>by
   rw[<-gj]at e;dsimp only at e;split at e
   ·rename_i y hy;injection e with e;subst e;exact aA8 k F hy
   ·cases hc:cc k with
    |none=>rw[hc]at e;cases e
    |some y=>rw[hc]at e;cases e
  have dB:=cX.add (k:=next) (x:=.fact (fm (w.heap.size+1) (jS fo a.tmps ps iA eO w.heap.size))) (l:=.val undef) (aBb next (bj _)) ⟨undef,rfl,hL1⟩ n_
   (λF v b e _ hF jj y o' aT hj hy hl=>by
    injection e with e;subst e;have hF:b=w.heap.size+1:=hF;obtain⟨q1,q2⟩:=cX.own jj y b o' aT hj hy hl;have:∃ lc,ι jj=some lc:=⟨_,hl⟩;have fJ:b<w.heap.size:=by
     refine(T5 b ?_).1;have po:=hj;rw[<-gj]at po;dsimp only at po;split at po
     ·rename_i z hz;injection po with po;subst po;exact(hS b).2 ⟨jj,z,o',aT,Om jj z hz hy,hl⟩
     ·cases hc:cc jj with
      |none=>rw[hc]at po;cases po
      |some z=>rw[hc]at po;injection po with po;subst po;cases hy
    omega)
   n_ (λF e _=>⟨by injection e with e;exact⟨_,e.symm⟩,λjj F' hj=>absurd hj (aKm jj F')⟩)
  have kV:Map.le ι (dF ι next (.val undef)):=gC (hm.dr next (hu next (bj _)));have kp:Oo P next N fr Os ι S a.tmps:=⟨hf.size,hf.slot,aKk,hS,λk x e h=>by obtain⟨lc,q⟩:=aBa k x (by rw[gK,e]);rw[h]at q;cases q⟩
  have iF:=yB fo (w.heap.size+1) w.heap.size W1 S kp (dF ι next (.val undef)) (ba c1 next (.fact (fm (w.heap.size+1) (jS fo a.tmps ps iA eO w.heap.size)))) W1 eZ.toList dB
   (λk x e=>by
    unfold ba;by_cases hk:k=next
    ·subst hk;rw[aw rfl];have:ah ((k,Obj.fact (fm (w.heap.size+1) (jS fo a.tmps ps iA eO w.heap.size)))::(Os++Vs)) k=some (.fact (fm (w.heap.size+1) (jS fo a.tmps ps iA eO w.heap.size))):=by show(if Nat.beq k k then _ else _)=_;simp
     rw[this]at e;exact e
    ·rw[ao hk];have:ah ((next,Obj.fact (fm (w.heap.size+1) (jS fo a.tmps ps iA eO w.heap.size)))::(Os++Vs)) k=ah (Os++Vs) k:=by show(if Nat.beq next k then _ else _)=_;rw[nY (mD hk)];rfl
     rw[this]at e;exact aKl k x e)
   (λk hk=>by unfold ba;rw[ao o_];exact aBb k o_) (by
    have:bK (aG ι) ca eZ.toList:=by simpa using h2
    exact nT kV this)
  have aKn:(.func (.yield (w.heap.size+1)) #[] #[]::eZ.toList:aj).toArray=#[.func (.yield (w.heap.size+1)) #[] #[]]++eZ:=by apply Gv;simp
  rw[aKn]at iF;refine Mn.2 (iF.mono ?_)
  rintro e W2 ⟨v,tA,c',rfl,uj,bo,iQ,gD⟩
  have Of:c' next=some (.fact (fm (w.heap.size+1) (C8 (jS fo a.tmps ps iA eO w.heap.size) j))):=iQ next _ (by show(if Nat.beq next next then _ else _)=_;simp);have hO2:ah Os next=none:=by
   rw[gK]at Kq;cases e:ah Os next with
   |none=>rfl
   |some x=>rw[e]at Kq;cases Kq
  have hV2:ah Vs next=none:=by rw[gK,hO2]at Kq;exact Kq
  have aKo:ah (cq++Vs) next=none:=by rw[gK,(jO next).2 hO2];exact hV2
  have gZ:cT c' (cq++Vs):=λk x e=>iQ k x (by
   by_cases hk:k=next
   ·subst hk;rw[aKo]at e;cases e
   ·show(if Nat.beq next k then _ else _)=_;rw[nY (mD hk)];exact e)
  have uP:=run_endLoop (P:=P) (Bv bo Of) (by cases j<;>simp[C8]);refine⟨j,_,uP,?_⟩
  -- the marks of the list
  have T6:∀ k x,ah (cq++Vs) k=some x->∃ y,ah (Os++Vs) k=some y/\(x.owns=true->y.owns=true/\ah Os k=some y):=λk x e=>by
   rw[gK]at e;cases e1:ah cq k with
   |some z=>
    cases e2:ah Os k with
    |none=>rw[(jO k).2 e2]at e1;cases e1
    |some y=>exact⟨y,by rw[gK,e2],λ_=>⟨dL k y e2,rfl⟩⟩
   |none=>
    rw[e1]at e;have e2:=(jO k).1 e1;refine⟨x,by rw[gK,e2];exact e,λhx=>?_⟩;have:=oZ k x e;cases x<;>simp[Obj.owns,Obj.gh]at hx this
  have aBd:∀ k x,ah (cq++Vs) k=some x->ι k=tA k:=λk x e=>by obtain⟨y,e1,_⟩:=T6 k x e;obtain⟨lc,q⟩:=aBa k y e1;rw[q,uj k lc (kV k lc q)]
  have aKp:∀ k,k<next->∀ lc,tA k=some lc->ι k=some lc:=λk hk lc e=>by
   cases q:ι k with
   |some zg=>have:=uj k zg (kV k zg q);rw[e]at this;exact this.symm
   |none=>
    exfalso;have zi:cc k=none:=by
     cases hc:cc k with
     |none=>rfl
     |some y=>obtain⟨zg,q',_⟩:=hm.born k y hc;rw[q]at q';cases q'
    have vt:ah (Os++Vs) k=none:=by
     cases e1:ah (Os++Vs) k with
     |none=>rfl
     |some y=>rw[hL k y e1]at zi;cases zi
    have:c' k=none:=gD k hk (by unfold ba;rw[ao o_,<-gj];simp only[vt,zi,aBc])
    rw[bo.dr k this]at e;cases e
  have tz:=Oc (Bv bo Of);have hDS:¬S w.heap.size:=λh=>by have:=(T5 _ h).1;omega
  have aBe:∀ b,b<w.heap.size+2->¬S b->b≠w.heap.size+1->W2.heap[b]?=W1.heap[b]?:=λb hb hs hl=>bo.base.2.2.2.2 b (by rw[aA9];exact hb) hs hl;have aUK:w.heap.size+2<=W2.heap.size:=by rw[<-aA9];exact bo.base.2.2.2.1
  have T7:∀(o:Go.Obj) b,b≠w.heap.size+1->(W2.putObj (w.heap.size+1) o).heap[b]?=W2.heap[b]?:=λo b hb=>aA0 hb;have HJ:∀ k,B.cO k->k≠w.heap.size:=λk hk=>by have:=B.lt w k hm.base hk;omega
  have aBf:∀ k F,ah (cq++Vs) k≠some (.fact F):=λk F e=>by
   rw[gK]at e;cases e1:ah cq k with
   |some y=>rw[e1]at e;injection e with e;subst e;have:=qH k _ e1;cases this
   |none=>rw[e1]at e;have:=oZ k _ e;cases this
  have yq:∀ o:Go.Obj,aQ (B.held w.heap.size) ι (λk=>match ah (cq++Vs) k with|some x=>some x|none=>(cc k).map λ_=>.dead) (W2.putObj (w.heap.size+1) o):=λo=>by
   refine Oe (L:=cq++Vs) bo gZ aBd (λk x lc e q ho=>?_) ⟨?_,?_⟩ (λk x b oo cap e hx hl hF=>?_) (by rw[vJ];exact bj _) (λk e=>?_) (λk x e=>?_) (λk F e=>absurd e (aBf k F)) (λk F _ _ e=>absurd e (aBf k F)) hm.oz
   ·have nU:∀ F,x≠.fact F:=λF ex=>by
     subst ex;rw[gK]at e;cases e1:ah cq k with
     |some y=>rw[e1]at e;injection e with e;subst e;have:=qH k _ e1;cases this
     |none=>rw[e1]at e;have:=oZ k _ e;cases this
    exact Od tz (ho.below aKp (dp k x e)) (λF ef=>absurd ef (nU F)) (by rw[vJ];exact bj _) (λb _ _ _ _=>(Nat.decEq b (w.heap.size+1)).casesOn (λhb=>.inr (T7 o b hb)) λhb=>.inl hb) λF v b ef=>absurd ef (nU F)
   ·refine B.dep w _ hm.base ?_ ?_ ?_ ?_ λk hk=>?_
    ·exact bo.base.1.trans pL.os
    ·exact bo.base.2.1.trans pL.tape
    ·exact bo.base.2.2.1.trans pL.output
    ·rw[vJ];omega
    ·have hkl:=B.lt w k hm.base hk;rw[T7 o k o_,aBe k o_ (λhs=>(T5 k hs).2 hk) o_];exact pL.block k hkl
   ·rw[T7 o _ o_,aBe _ o_ hDS o_];exact hK1
   ·obtain⟨y,e1,e2⟩:=T6 k x e;obtain⟨hy,e3⟩:=e2 hx;have ch:ι k=some (.at b oo cap):=(aBd k x e).trans hl;have q:=hm.own k y b oo cap (hO k y e3) hy ch;rcases hF with hF|rfl
    ·exact q.2 hF
    ·omega
   ·split at e
    ·cases e
    ·cases hc:cc k with
     |none=>exact hm.dr k hc
     |some y=>rw[hc]at e;cases e
   ·split at e
    ·rename_i y hy;injection e with e;subst e;exact .inl hy
    ·cases hc:cc k with
     |none=>rw[hc]at e;cases e
     |some y=>
      rw[hc]at e;injection e with e;obtain⟨lc,q,_⟩:=hm.born k y hc;exact .inr ⟨e.symm,lc,q⟩
  have fin:=hQ w.heap.size _ _ HJ (bj _) ⟨by show Fj _::a.defers=Fj _::B.ds;rw[hf.defers],hf.size,hf.slot⟩ (yq (.loop { C8 (jS fo a.tmps ps iA eO w.heap.size) j with state:=.exhausted })) (λk x e=>by simp only[e]) (λk hk=>by
   have:ah (cq++Vs) k=none:=by
    cases e:ah (cq++Vs) k with
    |none=>rfl
    |some x=>obtain⟨y,e1,_⟩:=T6 k x e;have:=hL _ _ e1;rw[hu k hk]at this;cases this
   simp only[this,hu k hk,aBc])
  cases j with
  |none=>exact fin
  |some cj=>exact fin
theorem aBg{D:Nat}{ι:Map}{c:Nat->Option Obj}{W:World}(h:aQ (B.held D) ι c W)(nU:∀ F,¬B.Fa F)(hD:∀ k,B.cO k->k≠D):aQ B ι c (W.putObj D (.deferred none)):=by
 have tz:=aJ9 h.base.2;have ne:∀ b,b≠D->(W.putObj D (.deferred none)).heap[b]?=W.heap[b]?:=λb hb=>aA0 hb;refine⟨B.dep W _ h.base.1 ⟨rfl,bj _⟩ rfl rfl (by rw[vJ];exact bj _) λk hk=>ne k (hD k hk),h.dr,?_,?_,h.inj,?_,?_,h.fa,h.one,h.oz⟩
 ·intro k x hk;obtain⟨l,q1,q2⟩:=h.born k x hk;refine⟨l,q1,Od tz q2 (λF e=>?_) (by rw[vJ];exact bj _) (λb _ _ _ _=>(Nat.decEq b D).casesOn (λhb=>.inr (ne b hb)) λhb=>.inl hb) λF v b _ _ _=>(Nat.decEq b D).casesOn (λhb=>.inr (ne b hb)) λhb=>.inl hb⟩;subst e;cases hr:F.rc with
  |false=>rfl
  |true=>exact absurd (h.fa k F hk hr) (nU F)
 ·intro k x b o cap hk hx hl;rw[vJ];exact⟨(h.own k x b o cap hk hx hl).1,λhF=>(h.own k x b o cap hk hx hl).2 (.inl hF)⟩
 ·intro k j x F b o cap v hk hx hl hj hv hF;obtain⟨lc,q1,v',q2,q3⟩:=h.born j _ hj;rw[hv]at q1;injection q1 with q1;subst q1;injection q2 with q2;subst q2;have hr:F.rc=false:=by
   cases hr:F.rc with
   |false=>rfl
   |true=>exact absurd (h.fa j F hj hr) (nU F)
  refine h.apart k j x F b o cap v hk hx hl hj hv ((F.soft hr v W _ q3 (by rw[vJ];exact bj _) λk2 fE cs ty f hc=>?_).2 b hF);rw[ne k2 (λe=>by subst e;exact tz _ _ _ hc)];exact hc
 ·intro k x b o cap hk hx hl;rw[vJ];exact h.seen k x b o cap hk hx hl
theorem aKq{D:Nat}{fn:Func}{c:Code}{fr:aW}{M:aH}{r:l5}{v:Value}{R:Ending->World->Prop}(uG:∀ B,ag P B N c fr M next r)(hex:(match r.ex with|.exit _=>false|_=>true)=true)(hv:AQ P fn r.fr r.M=some v)
  {ι:Map} {cc:Nat->Option Obj} {a:Act} {w:World} (hf:fh (B.held D) ι (bI fr) N a) (hm:aQ (B.held D) ι cc w) (ha:cT cc M) (hu:eG cc next) (mH:B.ds=[]) (nU:∀ F,¬B.Fa F) (hD:∀ k,B.cO k->k≠D)
  (hR:∀ au v' w',aG au v v'->B.G w'->R (.returned v') w'):c.wpIn (FW none) 0 P (bodyPostM (FW none) 0 P fn R) a w:=by
 refine uG _ none ι cc a w _ hf hm ha hu λau bY a' w' hle uz bo iQ _ _ _=>?_;have dB:=aBg bo nU hD;obtain⟨v',hc,pH⟩:=MF (fn:=fn) (B:=B) (N:=N) (a:={ a' with defers:=[]}) ⟨mH.symm,uz.size,uz.slot⟩ dB iQ hv;have hl:LeavesInM (FW none) 0 P fn a'.tmps R a'.defers .returning w':=by rw[uz.defers];show LeavesInM (FW none) 0 P fn a'.tmps R (Fj D::B.ds) .returning w';rw[mH];exact⟨λe=>(by cases e),.inl ⟨D,_,rfl,run_takeDeferred bo.base.2,v',pH,hR au v' _ hc dB.base⟩⟩
 cases hx:r.ex with
 |normal=>exact hl
 |ret=>exact hl
 |exit id=>rw[hx]at hex;cases hex
end
def zj:Code->Nat->Option Code
 |.region i ops d,k=>if Nat.beq i k then some (.region i ops d)else none
 |.seq x y,k=>match zj x k with|some o=>some o|none=>zj y k
 |.cond _ x y,k=>match zj x k with|some o=>some o|none=>zj y k
 |.block _ b,k=>zj b k
 |.loop b,k=>zj b k
 |.scope b,k=>zj b k
 |.rangeFunc _ _ x y,k=>match zj x k with|some o=>some o|none=>zj y k
 |_,_=>none
def Kr(fn:Func)(k:Nat):Code:=match fn.body with|some c=>(match zj c k with|some o=>o|none=>.skip)|none=>.skip
def C9:Code->Option Code
 |.seq x y=>match C9 x with|some o=>some o|none=>C9 y
 |.cond _ x y=>match C9 x with|some o=>some o|none=>C9 y
 |.block _ b=>C9 b
 |.loop b=>C9 b
 |.scope b=>C9 b
 |.rangeFunc g p x y=>some (.rangeFunc g p x y)
 |_=>none
def vM(fn:Func):Code:=match fn.body with|some c=>(match C9 c with|some o=>o|none=>.skip)|none=>.skip
def HK:Code->Code|.rangeFunc _ _ x _=>x|c=>c
def HL:Code->Code|.rangeFunc _ _ _ y=>y|c=>c
def bX(k:Nat):Value:=.pointer (some ⟨k,0,some 7⟩)
section
variable{P:Program}{B:aa}{N next:Nat}
theorem nK{L:aH}{p:Nat×Obj->Bool}(h:L.all p=true){k:Nat}{x:Obj}(hk:ah L k=some x):p (k,x)=true:=bh.1 h _ (j0 hk)
theorem T8:∀{L:aH} {k:Nat},ah L k=none↔k∉L.map (·.1)
 |[],k=>by simp[ah]
 |(j,x)::L,k=>by
  by_cases h:j=k
  ·subst h;simp[ah]
  ·have e:ah ((j,x)::L) k=ah L k:=by show(if Nat.beq j k then _ else _)=_;rw[nY h];rfl
   rw[e,T8];simp[mD h]
theorem Fk{L L':aH}(h:L'.map (·.1)=L.map (·.1))(k:Nat):ah L' k=none↔ah L k=none:=by rw[T8,T8,h]
def om(next:Nat)(p:Nat×Obj):Bool:=p.2.cells.all (nw next)
theorem Da{next:Nat}{p:Nat×Obj}(h:om next p=true):fN next p.2:=λv hv=>bh.1 h v hv
theorem Oq{ps:Array Tmp}{iA eO:Code}{fr:aW}{Os Vs cq:aH}{eB:aj}{j:Option Code}(cN:eB.all flat=true)(hlen:eB.length=ps.size)(yz:(ps.toList.all λp=>Nat.blt p N)=true)
  (dp:((Os++Vs).all λp=>Nat.blt p.1 next&&om (next+1) p)=true) (Fl:(cq.all (om (next+1)))=true) (dL:(Os.all λp=>p.2.owns)=true) (qH:(cq.all λp=>p.2.owns)=true) (oZ:(Vs.all λp=>p.2.gh)=true) (jO:cq.map (·.1)=Os.map (·.1))
  {rA rB:l5} (hA:∀ B,ag P B N iA (Og (ps.toList.zip eB) fr) (Os++Vs) (next+1) rA) (T2:rA.ex=.normal) (hAn:Nat.ble (next+1) rA.next=true) (Ol:ah rA.M next=none)
  (hB:∀ B,ag P B N eO rA.fr rA.M rA.next rB) (T3:∀ k x,ah cq k=some x->ah rB.M k=some x) (T4:exJ rB.ex=j):Oi P next N ps iA eO fr Os Vs cq eB j where
 flat:=bh.1 cN
 len:=hlen
 jA p hp:=by have:=bh.1 yz p (by simpa using hp);simpa[AK]using this
 low k x h:=by have:=nK dp h;simp only[da,AK]at this;exact⟨this.1,Da this.2⟩
 aA3 k x h:=Da (nK Fl h)
 own k x h:=nK dL h
 aA4 k x h:=nK qH h
 view k x h:=nK oZ h
 keys:=Fk jO
 run:=⟨rA,rB,hA,T2,rl hAn,Ol,hB,T3,T4⟩
theorem aKr{fn:Func}{args args':aj}{ι:Map}(df:bK (aG ι) args args')(hN:N=args.length+(fn.ntmps-args.length))(mH:B.ds=[]):
  fh B ι (bI (jA 0 args)) N { tmps:=args'.toArray++Array.replicate (fn.ntmps-args'.toArray.size) undef,defers:=[]}:=by
 refine⟨mH.symm,by simp[hN,df.length],λt=>?_⟩;rcases MG df 0 t (List.replicate (fn.ntmps-args'.length) undef)with h|h
 ·simp only[kT,ql,GB]at h;have e:(args'.toArray++Array.replicate (fn.ntmps-args'.toArray.size) undef).getD t undef=(args'++List.replicate (fn.ntmps-args'.length) undef).getD t undef:=by simp[pK,Eg,<-Array.getElem?_toList]
  dsimp only;rw[e];exact h
 ·exact .inl h
theorem aBh{D:Nat}{fn:Func}{fr:aW}{M:aH}{v:Value}{R:Ending->World->Prop}(hv:AQ P fn fr M=some v)
  {ι:Map} {cc:Nat->Option Obj} {a:Act} {w:World} (hf:fh (B.held D) ι (bI fr) N a) (hm:aQ (B.held D) ι cc w) (ha:cT cc M) (mH:B.ds=[]) (nU:∀ F,¬B.Fa F) (hD:∀ k,B.cO k->k≠D)
  (hR:∀ au v' w',aG au v v'->B.G w'->R (.returned v') w'):LeavesInM (FW none) 0 P fn a.tmps R a.defers .returning w:=by
 have dB:=aBg hm nU hD;obtain⟨v',hc,pH⟩:=MF (fn:=fn) (B:=B) (N:=N) (a:={ a with defers:=[]}) ⟨mH.symm,hf.size,hf.slot⟩ dB ha hv;rw[hf.defers];show LeavesInM (FW none) 0 P fn a.tmps R (Fj D::B.ds) .returning w;rw[mH];exact⟨λe=>(by cases e),.inl ⟨D,_,rfl,run_takeDeferred hm.base.2,v',pH,hR ι v' _ hc dB.base⟩⟩
theorem aBi{f:FuncId}{fn:Func}{c:Code}{args:aj}{v:Value}(hf:P.funcs[f]?=some fn)(hb:fn.body=some c)(hN:N=args.length+(fn.ntmps-args.length))(df:args.all flat=true)
  (h:∀ w a,fh (aa.at w) (λ_=>none) (bI (jA 0 args)) N a->aQ (aa.at w) (λ_=>none) (λ_=>none) w->c.wpIn (FW none) 0 P (bodyPostM (FW none) 0 P fn λe w'=>e=.returned v/\Below w.heap.size w w') a w):aE P f args v:=by
 intro w;rw[bh]at df;exact Mn.1 (callsIn_of_wp_marks (F:=FW none) (n:=0) hf hb trivial (h w _ (aKr (ke df) hN rfl) (qx w)))
theorem aBj{f gf:FuncId}{fn:Func}{args:aj}{cells:aj}{ty:TypeId}{o:Oper}{x:Operand}{k:Nat}(gn:P.follows .mixedOrders=true)(hf:P.funcs[f]?=some fn)(ho:dw o.op=some x)(eK:gi P f=true)(n:Nat)
  (rs:∀ w,bA P (aa.at w) (args.length+(fn.ntmps-args.length)))
  (h:∀ w,nA (fO (P:=P) fn n args [] 0 (rs w)) [(0,.aI cells ty)]=nB (fO fn n args [] 0 (rs w)) (.func (.func gf) #[] #[.pointer (some ⟨0,0,some 7⟩)]) [(0,.aI cells ty)]) (df:args.all flat=true) (cN:cells.all flat=true) :
  cB P B o (.func (.func f) #[] #[]::args) [(k,none)] (.func (.func gf) #[] #[.pointer (some ⟨k,0,some 7⟩)]) [(k,.aI cells ty)]:=by
 have:=jB (P:=P) (B:=B) (o:=o) (x:=x) (f:=f) (fi:=[]) (args:=args) (ca:=[]) (need:=[(k,none)]) (val:=.func (.func gf) #[] #[.pointer (some ⟨k,0,some 7⟩)]) (cR:=[(k,.aI cells ty)]) ho eK ?_
 ·simpa using this
 ·intro ι c w hm hn args' ha;have hk:c k=none:=hn (k,none) (aV ..);rw[bh]at df cN;have e:args'=args:=nr (by simpa using ha) df;subst e;refine rG gn hf rfl n (h w) (ke df) (qx w) n_ (λ_ _=>rfl) λau bY v' w' _ hc bo dy=>?_;obtain⟨j9,eZ,rfl,h1,h2⟩:=hc.B8;have h0:bY 0=some (.aI cells ty):=dy (0,_) (aV ..);obtain⟨l,q1,b,bC,rfl,q2,q3⟩:=bo.born 0 _ h0;obtain⟨q4,q5⟩:=bo.own 0 _ b 0 0 h0 rfl q1;have hbn:w.heap.size<=b:=Ot q5;have ec:bC=cells:=nr q2 cN;subst ec;have ef:j9=#[]:=by
   cases j6:j9.toList with
   |nil=>exact HI.1 j6
   |cons _ _=>rw[j6]at h1;cases h1
  subst ef;have gS:eZ.toList=[.pointer (some ⟨b,0,none⟩)]:=by
   have h2:bK (aG au) [.pointer (some ⟨0,0,some 7⟩)] eZ.toList:=h2;generalize eZ.toList=l at h2;cases h2 with
   |cons p q=>
    cases q;obtain⟨b',o',aT,e1,e2⟩:=p.yo rfl;rw[q1]at e1;injection e1 with e1;injection e1 with e1 e3 _;subst e1;subst e3;rw[e2];simp
  have dB:=hm.new (k:=k) (x:=.aI bC ty) (l:=.at b 0 0) bo.base hk ⟨b,bC,rfl,ke cN,q3⟩ (λb' o' aT _ e=>by injection e with e _ _;subst e;exact⟨hbn,q4⟩) n_ rfl;refine⟨dF ι k (.at b 0 0),_,rfl,gC (hm.dr k hk),?_,dB⟩;refine .fn .nil ?_;rw[gS];exact .cons (.ptr (fD _ _ _)) .nil
theorem Fm{gf:FuncId}{Ou:Func}{ca:aj}{W1 W:World}{l:Nat}{S:Nat->Prop}{m κ:Map}{c:Nat->Option Obj}{eZ:aj}{M M':aH}{v:Value}(gn:P.follows .mixedOrders=true)(hf:P.funcs[gf]?=some Ou)
  (hN:N=(ca.length+1)+(Ou.ntmps-(ca.length+1))) (n:Nat) {rs:bA P (pk W1 l S m) N} (hm:aQ (pk W1 l S m) κ c W) (ha:cT c M) (hu:eG c (next+1)) (gS:bK (aG κ) ca eZ)
  (h:nA (fO (P:=P) Ou n (.func (.yield l) #[] #[]::ca) M (next+1) rs) M'=nB (fO Ou n (.func (.yield l) #[] #[]::ca) M (next+1) rs) v M') :
  Calls P gf (.func (.yield l) #[] #[]::eZ).toArray W λe W'=>∃ v tA c',e=.returned v/\Map.le κ tA/\aQ (pk W1 l S m) tA c' W'/\cT c' M'/\∀ k,k<next->c k=none->c' k=none:=by
 refine RU gn hf (by simpa using hN) n h (.cons (.same rfl) gS) hm ha hu λau bY v' w' hle hc bo dy hk=>⟨v',au,bY,rfl,hle,bo,λk x e=>dy (k,x) (j0 e),λk gD zi=>?_⟩;rw[hk k o_ (by
  cases e:ah M k with
  |none=>rfl
  |some x=>rw[ha k x e]at zi;cases zi)]
 exact zi
end
end Go.Proofs.YtjjefbkbljlgdaaGreatDoor
