/- Ends and areas: the proof of MeasureAreasCardSaid (the law's function answers true at every solid, direction and number; theorem measureAreas_card, last part), part 2 of 7; no condition. -/
import Derived.Test.YthjhinbiabcfiaaGreatDoorOA1
namespace Go.Proofs.YthjhinbiabcfiaaGreatDoor
open Go Go.RowKit Tryz
abbrev q_:=List (Nat×Option Obj)
abbrev g_:=Nat->Option Obj
variable{i m k a q b j size e d off cc cap k1 n2 k2 D A m1 m2:Nat}{w w':h_}{ι κ ay bP:Map}{o:Oper}{c:g_}{f:FuncId}{B:aa}{fr:aN}{M L Os Vs cx ms:aH}{ty:TypeId}{xs args cells' eT post:ah}{fn:Func}{v' va res:i_}{P:j_}{z:Int}{σ:List (Option Nat)}{Q:Ending->World->Prop}{x1 x2:Obj}{ns:l_}{cur:p_}{dW:Code}
section
variable{P:j_}{B:aa}{N:Nat}
theorem iM.aI6{w0 w1:h_}{l:pY}{x:Obj}(h0:iM κ w0 l x)(h1:iM bP w1 l x)(uQ:Map.le κ bP)(C1:Map.le κ ay):iM ay w1 l x:=by
 cases x with
 |aI cells ty=>
  obtain⟨b,cs,e1,e2,_⟩:=h0;obtain⟨b',cg,C2,CQ,CS⟩:=h1;rw[EZ CQ (nV uQ e2)]at CS;rw[e1]at C2;injection C2 with C2 _ _;subst C2;exact⟨b,cs,e1,nV C1 e2,CS⟩
 |row cells ty size=>
  rcases h0 with h0|⟨b,cap,cur,e1,e2,e3,e4,e5⟩
  ·exact .inl h0
  ·rcases h1 with h1|⟨b',bE,fX,C2,CQ,CS,e4',e5'⟩
   ·exact .inl h1
   ·refine .inr ⟨b',bE,fX,C2,CQ,CS,e4',?_⟩;rw[EZ e5' (nV uQ e5)];exact nV C1 e5
 |view cells=>
  rcases h0 with h0|⟨b,o,cap,cs,e1,e2,e3⟩
  ·exact .inl h0
  ·rcases h1 with h1|⟨b',o',bE,cg,C2,CQ,CS⟩
   ·exact .inl h1
   ·refine .inr ⟨b',o',bE,cg,C2,?_,CS⟩;rw[EZ CQ (nV uQ e2)];exact nV C1 e2
 |fact F=>exact h1
 |dead=>trivial
def kD(ι:Map)(next:Nat)(σ:List (Option Nat)):Map:=λk=>if k<next then ι k else match σ[k-next]? with
 |some (some m)=>ι m
 |some none=>some .nil
 |none=>none
def zo(c0:g_)(next:Nat)(X:List Obj):g_:=λk=>if k<next then c0 k else X[k-next]?
def marks:Nat->List Obj->aH
 |_,[]=>[]
 |k,x::l=>(k,x)::marks (k+1) l
def dB:List (Option Nat)->List Obj->aH
 |some m::σ,x::l=>(m,x)::dB σ l
 |none::σ,_::l=>dB σ l
 |_,_=>[]
def Obj.isNil:Obj->Bool
 |.row [] _ _=>true
 |.view []=>true
 |_=>false
def qt(next:Nat)(σ:List (Option Nat)):Value->Value
 |.slice (some ad) n c=>if Nat.ble next ad.block&&mI ad then(match σ[ad.block-next]? with
   |some (some m)=>.slice (some ⟨m,ad.off,some 7⟩) n c
   |some none=>.slice none 0 0
   |none=>.slice (some ad) n c)else .slice (some ad) n c
 |v=>v
def qw(next:Nat)(σ:List (Option Nat)):Value->Bool
 |.slice (some ad) n c=>if Nat.ble next ad.block&&mI ad then(match σ[ad.block-next]? with
   |some (some _)=>true
   |some none=>Nat.beq ad.off 0&&(Nat.beq n 0&&Nat.beq c 0)
   |none=>false)else lM next (.slice (some ad) n c)
 |v=>lM next v
def pG(next:Nat)(σ:List (Option Nat)):Obj->Obj
 |.aI cs ty=>.aI (cs.map (qt next σ)) ty
 |x=>x
def xk(next:Nat)(σ:List (Option Nat))(F:aH):aH:=F.map λp=>(p.1,pG next σ p.2)
def Fh(next:Nat)(σ:List (Option Nat)):Obj->Prop
 |.aI cs _=>∀ v∈cs,qw next σ v=true
 |x=>fe next x
def fj(next:Nat)(σ:List (Option Nat))(fr:aN):aN:=fr.map λp=>(p.1,qt next σ p.2)
theorem J9{next:Nat}(h:k<next):kD ι next σ k=ι k:=by unfold kD;rw[ax h]
theorem Tb{next:Nat}(h:σ[j]?=some (some m)):kD ι next σ (next+j)=ι m:=by unfold kD;rw[ao o_,Fi,h]
theorem Z8{next:Nat}(h:σ[j]?=some none):kD ι next σ (next+j)=some .nil:=by unfold kD;rw[ao o_,Fi,h]
theorem Tc{next:Nat}{v:i_}(au:qw next σ v=true)(h:aK ι (qt next σ v) v'):aK (kD ι next σ) v v':=by
 have low:∀ k,k<next->∀ l,ι k=some l->kD ι next σ k=some l:=λk hk l e=>by rw[J9 hk];exact e
 have jO:∀{v:i_},lM next v=true->aK ι v v'->aK (kD ι next σ) v v':=λhb h=>h.low low hb;cases v with
 |slice oa n c=>
  cases oa with
  |none=>exact jO au h
  |some ad=>
   unfold qw at au;unfold qt at h;dsimp only at au h;split at au
   ·rename_i hc;rw[ax hc]at h;simp only[cZ]at hc;have fR:=qc hc.1;obtain⟨j,hj⟩:∃ j,ad.block=next+j:=⟨ad.block-next,by omega⟩;have xg:ad.block-next=j:=by omega
    rw[xg]at au h;have eta:=Cy hc.2;cases Hq:σ[j]? with
    |none=>rw[Hq]at au;cases au
    |some o=>
     cases o with
     |none=>
      rw[Hq]at au h;simp only[cZ]at au;have h1:=kt au.1;have h2:=kt au.2.1;have h3:=kt au.2.2;rw[h.fk rfl,eta,h1,h2,h3,hj];exact .slcN (Z8 Hq)
     |some m=>
      rw[Hq]at h;dsimp only at h;rw[eta,hj];rcases h.hZ rfl with ⟨q1,q2,q3,q4,q5⟩|⟨b,o,cap,c',q1,q2,q3,q5⟩
      ·dsimp only at q1 q4;rw[q5,q2,q3,q4];exact .slcN (by rw[Tb Hq];exact q1)
      ·dsimp only at q1 q5;rw[q5];exact .slc (by rw[Tb Hq];exact q1) q2 q3
   ·rename_i hc;rw[ao hc]at h;exact jO au h
 |_=>exact jO au h
theorem Z9{next:Nat}{v:i_}(h:lM next v=true):qt next σ v=v/\qw next σ v=true:=by
 unfold qt qw;split
 ·rename_i ad n c;split
  ·rename_i hb;rw[cZ]at hb;have h:(lZ ad||Nat.blt ad.block next)=true:=h;rw[MG hb.2,xf,yR]at h;have:=qc hb.1;omega
  ·exact⟨rfl,h⟩
 ·exact⟨rfl,h⟩
theorem Td(next:Nat)(σ:List (Option Nat)):∀(F:aH) (k:Nat),ai (xk next σ F) k=(ai F k).map (pG next σ)
 |[],_=>rfl
 |(j,x)::F,k=>by show(if Nat.beq j k then some (pG next σ x)else ai (xk next σ F) k)=(if Nat.beq j k then some x else ai F k).map (pG next σ);rw[Td next σ F k];split<;>rfl
theorem Ka{next:Nat}{σ:List (Option Nat)}:∀{F:aH},(∀ p∈F,fe next p.2)->xk next σ F=F/\∀ p∈F,Fh next σ p.2
 |[],_=>⟨rfl,λp hp=>(by cases hp)⟩
 |(j,x)::F,h=>by
  obtain⟨h1,h2⟩:=Ka (σ:=σ) (F:=F) λp hp=>h p (bH _ hp);have hx:fe next x:=h (j,x) (aP ..);have e:pG next σ x=x/\Fh next σ x:=by
   cases x with
   |aI cs ty=>
    refine⟨?_,λv hv=>(Z9 (hx v hv)).2⟩;show Obj.aI (cs.map (qt next σ)) ty=_;have e:cs.map (qt next σ)=cs:=(wU (g:=id) λv hv=>(Z9 (σ:=σ) (hx v hv)).1).trans (List.map_id cs);rw[e]
   |_=>exact⟨rfl,hx⟩
  refine⟨by show(j,pG next σ x)::xk next σ F=_;rw[e.1,h1],λp hp=>?_⟩;rcases ct.1 hp with rfl|hp
  ·exact e.2
  ·exact h2 p hp
theorem Te(next:Nat)(σ:List (Option Nat))(x:Obj):(pG next σ x).owns=x.owns/\(pG next σ x).jN=x.jN/\(∀ F,x=.fact F->pG next σ x=.fact F):=by cases x<;>exact⟨rfl,rfl,λF e=>(by first|exact e|cases e)⟩
theorem aI7{l:pY}{next:Nat}{x:Obj}(au:Fh next σ x)(dE:∀ k,k<next->∀ l,ι k=some l->kD ι next σ k=some l)(h:iM ι w l (pG next σ x)):iM (kD ι next σ) w l x:=by
 cases x with
 |aI cells ty=>
  obtain⟨b,cg,e1,e2,e3⟩:=h;refine⟨b,cg,e1,?_,e3⟩;have go:∀{l l':ah},(∀ v∈l,qw next σ v=true)->bW (aK ι) (l.map (qt next σ)) l'->bW (aK (kD ι next σ)) l l':=λ{l}=>by
   induction l with
   |nil=>intro l' _ h;cases h;exact .nil
   |cons v l ih=>
    intro l' hk h;cases h with
    |cons h1 h2=>exact .cons (Tc (hk v (aP ..)) h1) (ih (λu hu=>hk u (bH _ hu)) h2)
  exact go au e2
 |row cells ty size=>exact iM.below dE h au
 |view cells=>exact iM.below dE h au
 |fact F=>exact h
 |dead=>trivial
theorem Tf:∀(X:List Obj) (next k:Nat),ai (marks next X) k=if k<next then none else X[k-next]?
 |[],next,k=>by unfold marks ai;split<;>simp
 |x::X,next,k=>by
  unfold marks ai;by_cases h:next=k
  ·subst h;have:Nat.beq next next=true:=EW next;rw[ax this,ao (Nat.lt_irrefl _),vL];rfl
  ·rw[oO h];simp only[uR,uT];rw[Tf X (next+1) k];by_cases h2:k<next
   ·rw[ax o_,ax h2]
   ·rw[ao o_,ao h2];obtain⟨d,rfl⟩:∃ d,k=next+1+d:=⟨k-next-1,by omega⟩;rw[Fi,show next+1+d-next=d+1 by omega];rfl
theorem aAa:∀{σ:List (Option Nat)} {X:List Obj} {j m:Nat} {x:Obj},σ[j]?=some (some m)->X[j]?=some x->(m,x)∈dB σ X
 |o::σ,y::X,0,m,x,h1,h2=>by simp at h1 h2;subst h1;subst h2;exact aP ..
 |o::σ,y::X,j+1,m,x,h1,h2=>by
  have:=aAa (σ:=σ) (X:=X) (j:=j) (by simpa using h1) (by simpa using h2);cases o with
  |none=>exact this
  |some q=>exact bH _ this
 |[],_,j,m,x,h1,_=>by simp at h1
 |_::_,[],j,m,x,_,h2=>by simp at h2
structure Hr(M:aH)(next:Nat)(σ:List (Option Nat))(fr:aN)(F:aH)(X:List Obj):Prop where
 len:X.length=σ.length
 nodup:∀ i j m:Nat,σ[i]?=some (some m)->σ[j]?=some (some m)->i=j
 low:∀ i m:Nat,σ[i]?=some (some m)->m<next->ai F m=none/\ai M m≠none
 nil:∀(i:Nat) (x:Obj),σ[i]?=some none->X[i]?=some x->x.isNil=true
 jR:∀ p∈fr,qw next σ p.2=true
 keys:∀ p∈F,p.1<next/\ai M p.1≠none
 aI8:∀ p∈F,Fh next σ p.2
 news:∀ x∈X,fe next x
theorem rename{c0 c1:g_}{w0 w1:h_}{next:Nat}{F:aH}{X:List Obj}(ok:Hr M next σ fr F X)
  (h0:aM B κ c0 w0) (zq:eU c0 next) (nE:da c0 M) (uQ:Map.le κ bP) (h1:aM B bP c1 w1) (hF:∀ k x,ai F k=some x->c1 k=some (pG next σ x)) (hX:∀ p∈dB σ X,c1 p.1=some p.2) (hk:∀ k,k<next->ai M k=none->c1 k=c0 k) :
  ∃ c2,Map.le κ (kD bP next σ)/\aM B (kD bP next σ) c2 w1/\da c2 (F++marks next X)/\eU c2 (next+X.length)/\(∀ k,k<next->ai M k=none->c2 k=c0 k):=by
 have Tg:∀ k l,κ k=some l->k<next:=λk l e=>by
  rcases fm k next with h|h
  ·exact h
  ·rw[h0.dJ k (zq k h)]at e;cases e
 have hle:Map.le κ (kD bP next σ):=λk l e=>by rw[J9 (Tg k l e)];exact uQ k l e
 have low:∀ k,k<next->∀ l,bP k=some l->kD bP next σ k=some l:=λk hk l e=>by rw[J9 hk];exact e
 -- the objects
 let cl:g_:=λk=>match ai F k with
  |some x=>some x
  |none=>match ai M k with
   |none=>c1 k
   |some _=>some .dead
 have ig:∀ k x,cl k=some x->(x=.dead/\ai M k≠none)\/∃ y,c1 k=some y/\(ai F k=some x/\y=pG next σ x\/(ai F k=none/\ai M k=none/\y=x)):=by
  intro k x hx;have hx:(match ai F k with|some x=>some x|none=>match ai M k with|none=>c1 k|some _=>some Obj.dead)=some x:=hx;cases hf:ai F k with
  |some y=>rw[hf]at hx;injection hx with hx;subst hx;exact .inr ⟨_,hF k y hf,.inl ⟨rfl,rfl⟩⟩
  |none=>
   rw[hf]at hx;dsimp only at hx;cases hm:ai M k with
   |none=>rw[hm]at hx;exact .inr ⟨_,hx,.inr ⟨rfl,rfl,rfl⟩⟩
   |some y=>rw[hm]at hx;injection hx with hx;exact .inl ⟨hx.symm,λe=>by cases e⟩
 have aI9:∀(j:Nat) (x:Obj),X[j]?=some x->(σ[j]?=some none/\x.isNil=true)\/∃ m,σ[j]?=some (some m)/\c1 m=some x:=by
  intro j x hx;have hj:j<σ.length:=by rw[<-ok.len];exact(eA.1 hx).1
  cases hs:σ[j]? with
  |none=>rw[aAb]at hs;omega
  |some o=>
   cases o with
   |none=>exact .inl ⟨rfl,ok.nil j x hs hx⟩
   |some m=>exact .inr ⟨m,rfl,hX _ (aAa hs hx)⟩
 -- where a mark that is not dead comes from
 have src:∀ k x,zo cl next X k=some x->(x=.dead/\k<next/\ai M k≠none)\/(x.isNil=true/\kD bP next σ k=some .nil/\¬k<next)\/
   ∃ m y,c1 m=some y/\y.owns=x.owns/\y.jN=x.jN/\(∀ F',x=.fact F'->y=.fact F')/\kD bP next σ k=bP m/\((k<next/\m=k/\(ai F k=some x/\y=pG next σ x\/(ai F k=none/\ai M k=none/\y=x)))\/(¬k<next/\σ[k-next]?=some (some m)/\X[k-next]?=some x/\y=x)):=by
  intro k x hx;unfold zo at hx;split at hx
  ·rename_i ak;rcases ig k x hx with h|⟨y,h1,h2⟩
   ·exact .inl ⟨h.1,ak,h.2⟩
   ·refine .inr (.inr ⟨k,y,h1,?_,?_,?_,J9 ak,.inl ⟨ak,rfl,h2⟩⟩)<;>rcases h2 with ⟨_,rfl⟩|⟨_,_,rfl⟩
    ·exact(Te next σ x).1
    ·rfl
    ·exact(Te next σ x).2.1
    ·rfl
    ·exact(Te next σ x).2.2
    ·exact λ_ e=>e
  ·rename_i fR;obtain⟨j,rfl⟩:∃ j,k=next+j:=⟨k-next,by omega⟩;rw[Fi]at hx ⊢;rcases aI9 j x hx with ⟨h1,h2⟩|⟨m,h1,h2⟩
   ·exact .inr (.inl ⟨h2,Z8 h1,fR⟩)
   ·exact .inr (.inr ⟨m,x,h2,rfl,rfl,λ_ e=>e,Tb h1,.inr ⟨fR,h1,hx,rfl⟩⟩)
 -- an owner comes from an owner
 have own:∀ k x b o cap,zo cl next X k=some x->x.owns=true->kD bP next σ k=some (.at b o cap)->∃ m y,c1 m=some y/\y.owns=true/\bP m=some (.at b o cap)/\((k<next/\m=k/\(ai F k=some x/\y=pG next σ x\/(ai F k=none/\ai M k=none/\y=x)))\/(¬k<next/\σ[k-next]?=some (some m)/\X[k-next]?=some x/\y=x)):=by
  intro k x b o cap hx ho hl;rcases src k x hx with ⟨rfl,_⟩|⟨_,h,_⟩|⟨m,y,h1,h2,_,_,h3,h4⟩
  ·cases ho
  ·rw[h]at hl;cases hl
  ·exact⟨m,y,h1,h2.trans ho,by rw[<-h3];exact hl,h4⟩
 have view:∀ k x b o cap,zo cl next X k=some x->x.jN=true->kD bP next σ k=some (.at b o cap)->∃ m y,c1 m=some y/\y.jN=true/\bP m=some (.at b o cap):=by
  intro k x b o cap hx ho hl;rcases src k x hx with ⟨rfl,_⟩|⟨_,h,_⟩|⟨m,y,h1,_,h2,_,h3,h4⟩
  ·cases ho
  ·rw[h]at hl;cases hl
  ·exact⟨m,y,h1,h2.trans ho,by rw[<-h3];exact hl⟩
 have NR:∀ k F' v,zo cl next X k=some (.fact F')->kD bP next σ k=some (.val v)\/True->∃ m,c1 m=some (.fact F')/\kD bP next σ k=bP m/\∃ y x,x=.fact F'/\((k<next/\m=k/\(ai F k=some x/\y=pG next σ x\/(ai F k=none/\ai M k=none/\y=x)))\/(¬k<next/\σ[k-next]?=some (some m)/\X[k-next]?=some x/\y=x)):=by
  intro k F' v hx _;rcases src k (.fact F') hx with ⟨e,_⟩|⟨hn,_⟩|⟨m,y,h1,_,_,h2,h3,h4⟩
  ·cases e
  ·cases hn
  ·rw[h2 F' rfl]at h1 h4;exact⟨m,h1,h3,_,_,rfl,h4⟩
 have one:∀{k j m x y u v},((k<next/\m=k/\(ai F k=some x/\u=pG next σ x\/(ai F k=none/\ai M k=none/\u=x)))\/(¬k<next/\σ[k-next]?=some (some m)/\X[k-next]?=some x/\u=x))->((j<next/\m=j/\(ai F j=some y/\v=pG next σ y\/(ai F j=none/\ai M j=none/\v=y)))\/(¬j<next/\σ[j-next]?=some (some m)/\X[j-next]?=some y/\v=y))->k=j:=λ{k j m x y u v} q q'=>by
  have aAc:∀{k j},k<next->m=k->((∃ z,ai F k=some z)\/ai M k=none)->¬j<next->σ[j-next]?=some (some m)->False:=λ{k j} ak e h fR hs=>by
   subst e;obtain⟨p1,p2⟩:=ok.low _ _ hs ak;rcases h with ⟨z,h⟩|h
   ·rw[p1]at h;cases h
   ·exact p2 h
  rcases q with ⟨h1,h2,h3⟩|⟨h1,h2,_⟩<;>rcases q' with ⟨g1,g2,g3⟩|⟨g1,g2,_⟩
  ·omega
  ·exact(aAc h1 h2 (h3.imp (λh=>⟨_,h.1⟩) λh=>h.2.1) g1 g2).elim
  ·exact(aAc g1 g2 (g3.imp (λh=>⟨_,h.1⟩) λh=>h.2.1) h1 h2).elim
  ·have:=ok.nodup _ _ _ h2 g2;omega
 refine⟨zo cl next X,hle,⟨h1.base,?_,?_,?_,?_,?_,?_,?_,?_,h0.rV.trans hle⟩,?_,?_,?_⟩
 ·intro k hk;unfold zo at hk;split at hk
  ·rename_i ak;rw[J9 ak];have hk:(match ai F k with|some x=>some x|none=>match ai M k with|none=>c1 k|some _=>some Obj.dead)=none:=hk;cases hf:ai F k with
   |some y=>rw[hf]at hk;cases hk
   |none=>
    rw[hf]at hk;dsimp only at hk;cases hm:ai M k with
    |none=>rw[hm]at hk;exact h1.dJ k hk
    |some y=>rw[hm]at hk;cases hk
  ·rename_i fR;unfold kD;rw[ao fR];have:σ[k-next]?=none:=by rw[aAb]at hk ⊢;rw[<-ok.len];exact hk
   rw[this]
 ·intro k x hx;rcases src k x hx with ⟨rfl,ak,hM⟩|⟨hn,h,_⟩|⟨m,y,q1,_,_,_,q2,q3⟩
  ·cases hm:ai M k with
   |none=>exact absurd hm hM
   |some y=>
    obtain⟨l,e1,_⟩:=h0.born k y (nE k y hm);exact⟨l,hle k l e1,trivial⟩
  ·refine⟨.nil,h,?_⟩;cases x with
   |row cells ty size=>cases cells with
    |nil=>exact .inl ⟨rfl,rfl⟩
    |cons _ _=>cases hn
   |view cells=>cases cells with
    |nil=>exact .inl ⟨rfl,rfl⟩
    |cons _ _=>cases hn
   |_=>cases hn
  ·obtain⟨l,e1,e2⟩:=h1.born m y q1;refine⟨l,by rw[q2];exact e1,?_⟩;rcases q3 with ⟨ak,rfl,⟨h,rfl⟩|⟨hf,hm,rfl⟩⟩|⟨fR,hs,xl,rfl⟩
   ·exact aI7 (ok.aI8 _ (jf h)) low e2
   ·have e:=hk m ak hm;rw[q1]at e;obtain⟨l',f1,f2⟩:=h0.born m y e.symm;have:=uQ m l' f1;rw[e1]at this;injection this with this;subst this;exact f2.aI6 e2 uQ hle
   ·exact e2.below low (ok.news _ (cH xl))
 ·intro k x b o cap hx ho hl;obtain⟨m,y,q1,qo,q2,_⟩:=own k x b o cap hx ho hl;exact h1.own m y b o cap q1 qo q2
 ·intro k j x y b o cap o' bE hx Jt hy JB hl dh;obtain⟨m,u,q1,qo,q2,q3⟩:=own k x b o cap hx Jt hl;obtain⟨m',u',AL,qo',q2',Th⟩:=own j y b o' bE hy JB dh;have e:=h1.inj m m' u u' b o cap o' bE q1 qo AL qo' q2 q2';subst e;exact one q3 Th
 ·intro k j x F' b o cap v hx Jt hl hj hv hf;obtain⟨m,u,q1,qo,q2,_⟩:=own k x b o cap hx Jt hl;obtain⟨m',p1,p2,_⟩:=NR j F' v hj (.inr trivial);exact h1.apart m m' u F' b o cap v q1 qo q2 p1 (by rw[<-p2];exact hv) hf
 ·intro k x b o cap hx NS hl;obtain⟨m,u,q1,qv,q2⟩:=view k x b o cap hx NS hl;obtain⟨p1,p2⟩:=h1.seen m u b o cap q1 qv q2;refine⟨p1,λj y o' bE hy JB hj=>?_⟩;obtain⟨m',u',s1,so,s2,_⟩:=own j y b o' bE hy JB hj;exact p2 m' u' o' bE s1 so s2
 ·intro j F' hj;obtain⟨m',p1,_⟩:=NR j F' undef hj (.inr trivial);exact h1.fa m' F' p1
 ·intro k j F' F'' hx hy hr EB;obtain⟨m,q1,_,_,_,_,q3⟩:=NR k F' undef hx (.inr trivial);obtain⟨m',AL,_,_,_,_,Th⟩:=NR j F'' undef hy (.inr trivial);have e:=h1.one m m' F' F'' q1 AL hr EB;subst e;exact one q3 Th
 ·intro k x hx;rw[jQ]at hx;unfold zo;cases hf:ai F k with
  |some y=>
   rw[hf]at hx;injection hx with hx;subst hx;have ak:=(ok.keys _ (jf hf)).1;dsimp only at ak;rw[ax ak];show(match ai F k with|some x=>some x|none=>match ai M k with|none=>c1 k|some _=>some Obj.dead)=some y;rw[hf]
  |none=>
   rw[hf]at hx;dsimp only at hx;rw[Tf]at hx;by_cases ak:k<next
   ·rw[ax ak]at hx;cases hx
   ·rw[ao ak]at hx ⊢;exact hx
 ·intro k ij;unfold zo;rw[ao o_,aAb];omega
 ·intro k ak hm;unfold zo;rw[ax ak];show(match ai F k with|some x=>some x|none=>match ai M k with|none=>c1 k|some _=>some Obj.dead)=c0 k;cases hf:ai F k with
  |some y=>exact absurd hm (ok.keys _ (jf hf)).2
  |none=>rw[hm];exact hk k ak hm
theorem aJa{AZ:aN}{a:Act}{next:Nat}(hf:fA B ι (bI AZ) N a)(au:∀ p∈fr,qw next σ p.2=true)(h:∀ p∈fj next σ fr,bI AZ p.1=p.2)(Bd:∀ p∈fr,mJ (qt next σ p.2)=false):
  fA B (kD ι next σ) (bI fr) N a:=by
 refine⟨hf.defers,hf.size,λt=>?_⟩;have key:∀(l:aN),(∀ p∈l,p∈fr)->nW (kD ι next σ) (bI l t) (a.tmps.getD t undef):=by
  intro l;induction l with
  |nil=>intro _;exact .inl rfl
  |cons p l ih=>
   intro hl;obtain⟨s,v⟩:=p;show nW _ (if Nat.beq s t then v else bI l t) _;by_cases hs:Nat.beq s t=true
   ·rw[ax hs];have hm:=hl _ (aP ..);have h1:=h (s,qt next σ v) (dj.2 ⟨(s,v),hm,rfl⟩);dsimp only at h1;have e:=kt hs;subst e;have h2:=hf.slot s;rw[h1]at h2;exact .inr (Tc (au _ hm) (h2.AJ (Bd _ hm)))
   ·rw[ao hs];exact ih λq hq=>hl q (bH _ hq)
 exact key fr λ_ h=>h
theorem Ti:∀{σ:List (Option Nat)} {X:List Obj} {m:Nat} {x:Obj},(∀ i j m:Nat,σ[i]?=some (some m)->σ[j]?=some (some m)->i=j)->(m,x)∈dB σ X->ai (dB σ X) m=some x
 |[],_,m,x,_,h=>by simp[dB]at h
 |none::_,[],m,x,_,h=>by simp[dB]at h
 |some _::_,[],m,x,_,h=>by simp[dB]at h
 |none::σ,y::X,m,x,hn,h=>Ti (σ:=σ) (X:=X) (λi j m h1 h2=>by have:=hn (i+1) (j+1) m (by simpa using h1) (by simpa using h2);omega) h
 |some q::σ,y::X,m,x,hn,h=>by
  have oN:∀ i j m:Nat,σ[i]?=some (some m)->σ[j]?=some (some m)->i=j:=λi j m h1 h2=>by have:=hn (i+1) (j+1) m (by simpa using h1) (by simpa using h2);omega
  show(if Nat.beq q m then some y else ai (dB σ X) m)=some x;rcases ct.1 h with e|h'
  ·injection e with e1 e2;subst e1;subst e2;rw[ax (EW m)]
  ·have bj:q≠m:=by
    rintro rfl
    have idx:∀{σ:List (Option Nat)} {X:List Obj},(q,x)∈dB σ X->∃ j:Nat,σ[j]?=some (some q):=by
     intro σ;induction σ with
     |nil=>intro X h;simp[dB]at h
     |cons o σ ih=>
      intro X h;cases X with
      |nil=>cases o<;>simp[dB]at h
      |cons z X=>
       cases o with
       |none=>obtain⟨j,hj⟩:=ih (X:=X) h;exact⟨j+1,by simpa using hj⟩
       |some t=>
        rcases ct.1 h with e|h
        ·injection e with e1 _;exact⟨0,by simp[e1]⟩
        ·obtain⟨j,hj⟩:=ih (X:=X) h;exact⟨j+1,by simpa using hj⟩
    obtain⟨j,hj⟩:=idx h';have:=hn 0 (j+1) q s_ (by simpa using hj);omega
   rw[oO bj];simp only[uR,uT];exact Ti oN h'
theorem Tj:∀{σ:List (Option Nat)} {X:List Obj} {m:Nat} {x:Obj},(m,x)∈dB σ X->∃ j:Nat,σ[j]?=some (some m)
 |[],_,_,_,h=>by simp[dB]at h
 |none::_,[],_,_,h=>by simp[dB]at h
 |some _::_,[],_,_,h=>by simp[dB]at h
 |none::σ,_::X,_,_,h=>by obtain⟨j,hj⟩:=Tj (σ:=σ) (X:=X) h;exact⟨j+1,by simpa using hj⟩
 |some t::σ,_::X,m,x,h=>by
  rcases ct.1 h with e|h
  ·injection e with e1 _;exact⟨0,by simp[e1]⟩
  ·obtain⟨j,hj⟩:=Tj (σ:=σ) (X:=X) h;exact⟨j+1,by simpa using hj⟩
theorem Hr.agr{next:Nat}{F:aH}{X:List Obj}(ok:Hr M next σ fr F X)(h:da c (xk next σ F++dB σ X)):
  (∀ k x,ai F k=some x->c k=some (pG next σ x))/\∀ p∈dB σ X,c p.1=some p.2:=by
 refine⟨λk x hx=>h k _ (by rw[jQ,Td,hx];rfl),λp hp=>?_⟩;obtain⟨m,x⟩:=p;have hf:ai F m=none:=by
  obtain⟨j,hj⟩:=Tj hp;rcases fm m next with ak|fR
  ·exact(ok.low j m hj ak).1
  ·cases hF:ai F m with
   |none=>rfl
   |some y=>have:=(ok.keys _ (jf hF)).1;dsimp only at this;omega
 exact h m x (by rw[jQ,Td,hf];exact Ti ok.nodup hp)
theorem aJb{a:Act}{next:Nat}(hf:fA B ι (bI (fj next σ fr)) N a)(au:∀ p∈fr,qw next σ p.2=true)(Bd:∀ p∈fr,mJ (qt next σ p.2)=false):
  fA B (kD ι next σ) (bI fr) N a:=by
 refine⟨hf.defers,hf.size,λt=>?_⟩;have key:∀(l:aN),(∀ p∈l,p∈fr)->nW ι (bI (fj next σ l) t) (a.tmps.getD t undef)->nW (kD ι next σ) (bI l t) (a.tmps.getD t undef):=by
  intro l;induction l with
  |nil=>intro _ _;exact .inl rfl
  |cons p l ih=>
   intro hl h;obtain⟨s,v⟩:=p;have h:nW ι (if Nat.beq s t then qt next σ v else bI (fj next σ l) t) (a.tmps.getD t undef):=h;show nW _ (if Nat.beq s t then v else bI l t) _;by_cases hs:Nat.beq s t=true
   ·rw[ax hs]at h ⊢;have hm:=hl _ (aP ..);exact .inr (Tc (au _ hm) (h.AJ (Bd _ hm)))
   ·rw[ao hs]at h ⊢;exact ih (λq hq=>hl q (bH _ hq)) h
 exact key fr (λ_ h=>h) (hf.slot t)
theorem aJc{b:Code}{next p:Nat}{r:lK}(n:Nat)(I:Nat->aN)(F:Nat->aH)(X:Nat->List Obj)(hp:∀ i,i<=n->(X i).length=p)
  (start:∃ σ,Hr M next σ (I 0) (F 0) (X 0)/\(∀ q∈I 0,mJ (qt next σ q.2)=false)/\(∀ q∈fj next σ (I 0),bI fr q.1=q.2)/\(∀ k x,ai (xk next σ (F 0)++dB σ (X 0)) k=some x->ai M k=some x))
  (body:∀ i,i<n->∃ σ fC,Hr M next σ (I (i+1)) (F (i+1)) (X (i+1))/\(∀ q∈I (i+1),mJ (qt next σ q.2)=false)/\af P B N b (I i) (F i++marks next (X i)) (next+p) ⟨.normal,fj next σ (I (i+1)),xk next σ (F (i+1))++dB σ (X (i+1)),fC⟩)
  (last:af P B N b (I n) (F n++marks next (X n)) (next+p) r) (hr:r.ex≠.normal):af P B N (.loop b) fr M next r:=by
 intro R tQ c0 a0 w0 Q A0 kp nE zq hQ;refine SC (n+1) ?_;have key:∀ d i,i+d=n->∀(bP:Map) (c1:g_) (a1:Act) (w1:h_),Map.le tQ bP->fA B bP (bI (I i)) N a1->aM B bP c1 w1->da c1 (F i++marks next (X i))->eU c1 (next+p)->
   (∀ k,k<next->ai M k=none->ai (F i) k=none)->(∀ k,k<next->ai M k=none->c1 k=c0 k)->
   (∀ t,uK (.loop b) t=false->a1.tmps.getD t undef=a0.tmps.getD t undef)->Code.roundsIn (FW R) 0 P b Q (d+1) a1 w1:=by
  have uJ:∀(i k:Nat),k<next->ai M k=none->ai (F i) k=none->ai (F i++marks next (X i)) k=none:=λi k hk _ hf=>by rw[jQ,hf];dsimp only;rw[Tf,ax hk]
  intro d;induction d with
  |zero=>
   intro i hi bP c1 a1 w1 ju ik c7 eE dS Tk gY iP;have:i=n:=by omega
   subst this;rw[EX];refine last R bP c1 a1 w1 _ ik c7 eE dS λdG c2 a2 w2 kQ jD dF gk eX gv oc=>?_;have:=hQ dG c2 a2 w2 (ju.trans kQ) jD dF gk eX (λk hk h0=>(gv k o_ (uJ i k hk h0 (Tk k hk h0))).trans (gY k hk h0)) λt ht=>(oc t ht).trans (iP t ht);show Exit.then _ Q r.ex.AU a2 w2;cases hx:r.ex with
   |normal=>exact absurd hx hr
   |exit id=>rw[hx]at this;exact this
   |ret=>rw[hx]at this;exact this
  |succ d ih=>
   intro i hi bP c1 a1 w1 ju ik c7 eE dS Tk gY iP;rw[EX];obtain⟨σ,fC,ok,Bd,hb⟩:=body i o_;refine hb R bP c1 a1 w1 _ ik c7 eE dS λdG c2 a2 w2 kQ jD dF gk eX gv oc=>?_;obtain⟨q1,q2⟩:=ok.agr gk;have ij:∀ k,k<next->ai M k=none->c2 k=c0 k:=λk hk h0=>(gv k o_ (uJ i k hk h0 (Tk k hk h0))).trans (gY k hk h0);obtain⟨c3,e1,e2,e3,e4,e5⟩:=rename ok kp zq nE (ju.trans kQ) dF q1 q2 ij;rw[hp (i+1) o_]at e4;refine ih (i+1) o_ _ c3 a2 w2 e1 (aJb jD ok.jR Bd) e2 e3 e4 (λk hk h0=>?_) e5 λt ht=>(oc t ht).trans (iP t ht);cases hF:ai (F (i+1)) k with
   |none=>rfl
   |some y=>exact absurd h0 (ok.keys _ (jf hF)).2
 obtain⟨σ,ok,Bd,mP,hM⟩:=start;obtain⟨q1,q2⟩:=ok.agr (c:=c0) λk x hx=>nE k x (hM k x hx);obtain⟨c3,e1,e2,e3,e4,e5⟩:=rename ok kp zq nE (Map.le.refl _) kp q1 q2 (λ_ _ _=>rfl);rw[hp 0 o_]at e4;refine key n 0 o_ _ c3 a0 w0 e1 (aJa A0 ok.jR mP Bd) e2 e3 e4 (λk hk h0=>?_) e5 λ_ _=>rfl;cases hF:ai (F 0) k with
 |none=>rfl
 |some y=>exact absurd h0 (ok.keys _ (jf hF)).2
end
def gG(n a:Nat):List UInt8:=(List.range n).map λi=>UInt8.ofNat (a/256^(n-1-i)%256)
theorem Kb(n a:Nat):(gG n a).length=n:=by simp[gG]
theorem xm(n a:Nat):gG (n+1) a=UInt8.ofNat (a/256^n%256)::gG n a:=by
 unfold gG;rw[List.range_succ_eq_map,sk,List.map_map]
 congr 1
 refine wU λi hi=>?_;have hi:=j4.1 hi;show UInt8.ofNat (a/256^(n+1-1-(i+1))%256)=_;rw[show n+1-1-(i+1)=n-1-i by omega]
theorem NT(a:Nat):gG 0 a=[]:=rfl
theorem aAd(n a m:Nat)(h:n<=m):gG n (a%256^m)=gG n a:=by
 unfold gG;refine wU λi hi=>?_;have hi:=j4.1 hi
 congr 1
 obtain⟨s,hs⟩:∃ s,m=(n-1-i)+1+s:=⟨m-(n-1-i)-1,by omega⟩;have e:256^m=256^(n-1-i)*(256*256^s):=by rw[hs,eP,dD,fU]
 rw[e,A7,J4]
theorem aAe(m n a:Nat):gG (m+n) a=gG m (a/256^n)++gG n a:=by
 induction m with
 |zero=>simp[NT]
 |succ m ih=>
  rw[show m+1+n=(m+n)+1 by omega,xm,xm,ih,C3,kT,<-eP,mR n m]
theorem aJd(n a:Nat):ga (gG n a)=a%256^n:=by
 induction n with
 |zero=>simp[NT,ga,tL]
 |succ n ih=>
  rw[xm,J3,ih,Kb];have h1:(UInt8.ofNat (a/256^n%256)).toNat=a/256^n%256:=by rw[NU];exact dU (cJ _ d_)
  rw[h1,dD,Ns,cP (256^n),mR]
def cG(a:Nat):List UInt8:=gG (nd 256 a) a
theorem Fj(a:Nat):ga (cG a)=a:=by unfold cG;rw[aJd,dU (ek d_ a)]
theorem C4:cG 0=[]:=by unfold cG;rw[od];rfl
theorem tS(a:Nat):(cG a).length=nd 256 a:=Kb _ _
theorem aJe:cG a=[]↔a=0:=by
 constructor
 ·intro h;have:=Fj a;rw[h]at this;exact this.symm
 ·rintro rfl;exact C4
theorem aJf(h:cG a=cG b):a=b:=by rw[<-Fj a,h,Fj]
theorem NV(h:a≠0):∃ c l,cG a=c::l/\c≠0:=by
 have hp:=w9 (B:=256) d_ h;obtain⟨n,hn⟩:∃ n,nd 256 a=n+1:=⟨nd 256 a-1,by omega⟩;have ak:=ek (B:=256) d_ a;rw[hn]at ak;refine⟨_,_,by unfold cG;rw[hn,xm],λe=>?_⟩;have h1:(UInt8.ofNat (a/256^n%256)).toNat=a/256^n%256:=by rw[NU];exact dU (cJ _ d_)
 rw[e]at h1;have h2:a<256^n:=(He d_ ak).1 h1.symm;have:=jv (B:=256) d_ h2;omega
theorem aJg(k:Nat)(l:List UInt8):jU (List.replicate k 0++l)=k+jU l:=by
 induction k with
 |zero=>simp
 |succ k ih=>
  have e:jU (0::(List.replicate k 0++l))=jU (List.replicate k 0++l)+1:=rfl;rw[List.replicate_succ,C3,e,ih];omega
theorem aAf{n:Nat}(h:a<256^n):gG (k+n) a=List.replicate k 0++gG n a:=by
 rw[aAe,mf h]
 congr 1
 induction k with
 |zero=>rfl
 |succ k ih=>rw[xm,ih,List.replicate_succ,Nat.zero_div];rfl
theorem aJh{n:Nat}(h:a<256^n):J6 (gG n a)=cG a:=by
 have hle:=jv (B:=256) d_ h;obtain⟨k,hk⟩:∃ k,n=k+nd 256 a:=⟨n-nd 256 a,by omega⟩;have hz:jU (gG (nd 256 a) a)=0:=by
  by_cases h0:a=0
  ·subst h0;rw[od];rfl
  ·obtain⟨c,l,e,hc⟩:=NV h0;unfold cG at e;rw[e];unfold jU;rw[ao hc]
 unfold J6;rw[hk,aAf (ek d_ a),aJg,hz,jd,List.drop_append_of_le_length s_];simp[cG]
theorem aAg{c:UInt8}{l:List UInt8}(h:c≠0):256^l.length<=ga (c::l):=by
 rw[J3];have:1<=c.toNat:=by
  rcases nF c.toNat with e|e
  ·exact absurd (NL.1 (by rw[e];rfl)) h
  ·exact e
 have:=eh (256^l.length) this;omega
theorem aJi{l:List UInt8}(h:∀ c r,l=c::r->c≠0):cG (ga l)=l:=by
 have hlen:nd 256 (ga l)=l.length:=by
  refine aAh (jv d_ (A6 l)) ?_;cases l with
  |nil=>simp
  |cons c r=>
   have h1:=aAg (l:=r) (h c r rfl);rcases fm (nd 256 (ga (c::r))) (r.length+1)with h2|h2
   ·have h3:=ek (B:=256) d_ (ga (c::r));have h4:256^nd 256 (ga (c::r))<=256^r.length:=df d_ o_;omega
   ·exact h2
 unfold cG;rw[hlen];clear hlen h;induction l with
 |nil=>rfl
 |cons c r ih=>
  have hv:=A6 r;have hp:0<256^r.length:=cI d_;rw[oL,xm,J3]
  congr 1
  ·rw[mR,pF _ _ hp,mf hv,ko];have hc:c.toNat<256:=c.toNat_lt;rw[dU hc];simp
  ·rw[<-aAd _ _ _ (bA r.length),mR,C5,dU hv,ih]
theorem aJj(d:Nat):gG 4 d=[UInt8.ofNat (d/16777216%256),UInt8.ofNat (d/65536%256),UInt8.ofNat (d/256%256),UInt8.ofNat (d%256)]:=by rw[xm,xm,xm,xm,NT];simp
section
variable{P:j_}{B:aa}{N:Nat}
def aU.mkc(fn:Func)(key k cp e size bytes:Nat)(z:i_)(hb:bytes*cp<=281474976710656)(hn:cp<=maxLen)(ho:Np P (aA fn key)=some (e,size,bytes,z)):aU P B N:=
 .step key (aA fn key) [vI 0,vI cp] [(k,none)] (.slice (some ⟨k,0,some 7⟩) 0 0) [(k,.row [] e size)] (by
  unfold Np at ho;split at ho
  ·rename_i t a b bY;split at ho
   ·rename_i e' ht;split at ho
    ·rename_i i hi;split at ho
     ·rename_i z' nX;injection ho with ho;injection ho with h1 ho;injection ho with h2 ho;injection ho with h3 h4;subst h1;subst h4;have:=YE (P:=P) (B:=B) bY ht hi nX (kl:=.i64) (kc:=.i64) (l:=0) (cp:=cp) (jH _) (by rw[h3];exact hb) hn (cells:=[]) (by rw[kS,aAi]) s_ n_ k;rw[h2]at this;exact this.step
     ·cases ho
    ·cases ho
   ·cases ho
  ·cases ho)
def aU.oX(fn:Func)(key k j n m nm e size bytes:Nat)(cells:ah)(q:Nat)(x:Obj)(new:ah)(lL:n+m=nm)(hx:x.reads=true)(hlen:x.cells.length=m*size)(jt:cells.length=n*size)(je:cells++x.cells=new)
  (h1:∀ v∈x.cells,v.oneCell'=true) (bC:0<size) (h63:nm<=maxLen) (hb:nm*bytes<=140737488355328) (ho:Fg P (aA fn key)=some (e,size,bytes,size,true)):aU P B N:=
 .step key (aA fn key) [.slice (some ⟨j,0,some 7⟩) n 0,.slice (some ⟨q,0,some 7⟩) m 0] [(k,none),(j,some (.row cells e size)),(q,some x)] (.slice (some ⟨k,0,some 7⟩) nm 0) [(k,.row new e size),(j,.dead)] (by
  subst lL;have hs:Cw B (.slice (some ⟨q,0,some 7⟩) m 0) m x.cells [(q,some x)]:=by have:=ML (B:=B) (k:=q) (off:=0) (m:=m) (cc:=0) hx (len:=m*size) (λh=>by rw[h,kS]);rw[mg,j8 (vC hlen)]at this;exact this
  have:=Z5 (B:=B) ho bC hs hlen h1 (j:=j) (n:=n) (cells:=cells) (vC jt.symm) h63 hb k;rw[j8 (vC jt),je]at this;exact this)
def gQ(l:List UInt8):ah:=l.map λc=>.int .u8 (c.toNat:Int)
theorem aJk(l:List UInt8):∀ u∈gQ l,flat u=true:=λu hu=>by obtain⟨x,_,rfl⟩:=dj.1 hu;rfl
theorem aAj(l:List UInt8):∀ acc:List UInt8,(l.map λc=>(c.toNat:Int)).foldl (λ(r:ByteArray) (n:Int)=>r.push (UInt8.ofNat n.toNat)) (BA acc)=BA (acc++l):=by
 induction l with
 |nil=>intro acc;simp
 |cons c l ih=>
  intro acc;rw[sk,vH];have e:(BA acc).push (UInt8.ofNat ((c.toNat:Int)).toNat)=BA (acc++[c]):=by unfold BA;simp[ByteArray.push]
  rw[e,ih,EU];rfl
def NW(P:j_)(o:Oper):Bool:=match o.op with
 |.convert src dst _=>match P.underlying src,P.underlying dst with
  |some (.slice e),some .string=>(match P.underlying e with|some (.int .u8)=>true|_=>false)
  |_,_=>false
 |_=>false
def aU.Tl(fn:Func)(key k n:Nat)(l:List UInt8)(x:Obj)(hx:x.reads=true)(hc:x.cells=gQ l)(hn:l.length=n)(ho:NW P (aA fn key)=true):aU P B N:=
 .step key (aA fn key) [.slice (some ⟨k,0,some 7⟩) n 0] [(k,some x)] (.string (BA l)) [] (by
  unfold NW at ho;split at ho
  ·rename_i src dst y bY;split at ho
   ·rename_i e hs hd;split at ho
    ·rename_i he;have:=YG (P:=P) (B:=B) bY hs he hd (k:=k) (off:=0) (n:=n) (cc:=0) (y:=x) (ns:=l.map λc=>(c.toNat:Int)) hx (by rw[hc,mg,j8 (by simp[gQ,hn])];simp[gQ,Function.comp_def]) (by simpa using hn)
     have e2:=aAj l [];rw[jG]at e2;rw[show ByteArray.empty=BA []from rfl,e2]at this;exact this.step
    ·cases ho
   ·cases ho
  ·cases ho)
end
section
variable{P:j_}{B:aa}{N:Nat}
theorem Hs{x:Obj}(h:∀ u∈x.cells,flat u=true):fe m x:=λu hu=>gB (h u hu)
def Ht:List (Option Nat)->Bool
 |[]=>true
 |none::l=>Ht l
 |some m::l=>(l.all λo=>match o with|some k=>!Nat.beq m k|none=>true)&&Ht l
theorem aAk:∀{σ:List (Option Nat)},Ht σ=true->∀ i j m:Nat,σ[i]?=some (some m)->σ[j]?=some (some m)->i=j
 |[],_,i,j,m,h,_=>by simp at h
 |o::l,h,i,j,m,h1,h2=>by
  have hl:Ht l=true/\∀ k,o=some k->∀ j:Nat,l[j]?≠some (some k):=by
   cases o with
   |none=>exact⟨h,λk e=>by cases e⟩
   |some q=>
    simp only[Ht,cZ,bd]at h;refine⟨h.2,λk e j hj=>?_⟩;injection e with e;subst e;have:=h.1 _ (cH hj);simp at this
  cases i with
  |zero=>
   cases j with
   |zero=>rfl
   |succ j=>
    simp at h1 h2;exact absurd h2 (hl.2 m h1 j)
  |succ i=>
   cases j with
   |zero=>
    simp at h1 h2;exact absurd h1 (hl.2 m h2 i)
   |succ j=>
    simp at h1 h2;rw[aAk hl.1 i j m h1 h2]
def aAl(M:aH)(F:aH)(next:Nat)(σ:List (Option Nat)):Bool:=σ.all λo=>match o with
 |some m=>Nat.ble next m||((match ai F m with|none=>true|some _=>false)&&(match ai M m with|none=>false|some _=>true))
 |none=>true
def Hu:List (Option Nat)->List Obj->Bool
 |none::σ,x::X=>x.isNil&&Hu σ X
 |some _::σ,_::X=>Hu σ X
 |_,_=>true
theorem aAm:∀{σ:List (Option Nat)} {X:List Obj},Hu σ X=true->∀(i:Nat) (x:Obj),σ[i]?=some none->X[i]?=some x->x.isNil=true
 |[],_,_,i,x,h,_=>by simp at h
 |_::_,[],_,i,x,_,h=>by simp at h
 |o::σ,y::X,h,i,x,h1,h2=>by
  cases i with
  |zero=>
   simp at h1 h2;subst h1;subst h2;simp only[Hu,cZ]at h;exact h.1
  |succ i=>
   simp at h1 h2;refine aAm (σ:=σ) (X:=X) ?_ i x h1 h2;cases o with
   |none=>simp only[Hu,cZ]at h;exact h.2
   |some _=>exact h
def zr(M:aH)(next:Nat)(σ:List (Option Nat))(fr:aN)(F:aH)(X:List Obj):Bool:=
 Nat.beq X.length σ.length&&(Ht σ&&(aAl M F next σ&&(Hu σ X&&((fr.all λp=>qw next σ p.2&&!mJ (qt next σ p.2))&&(F.all λp=>Nat.blt p.1 next&&(match ai M p.1 with|none=>false|some _=>true))))))
theorem aAn{next:Nat}{F:aH}{X:List Obj}(h:zr M next σ fr F X=true)(hF:∀ p∈F,Fh next σ p.2)(hX:∀ x∈X,fe next x):
  Hr M next σ fr F X/\∀ q∈fr,mJ (qt next σ q.2)=false:=by
 simp only[zr,cZ,bd,yP]at h;obtain⟨h1,h2,h3,h4,h5,h6⟩:=h;refine⟨⟨kt h1,aAk h2,λi m hi hm=>?_,aAm h4,λp hp=>(h5 p hp).1,λp hp=>?_,hF,hX⟩,λq hq=>(h5 q hq).2⟩
 ·unfold aAl at h3;rw[bd]at h3;have:=h3 _ (cH hi);simp only[tE,cZ]at this;rcases this with this|⟨p1,p2⟩
  ·have:=qc this;omega
  ·constructor
   ·cases hf:ai F m with
    |none=>rfl
    |some y=>rw[hf]at p1;cases p1
   ·intro e;rw[e]at p2;cases p2
 ·obtain⟨q1,q2⟩:=h6 p hp;refine⟨Nat.lt_of_succ_le (by simpa[Nat.blt]using q1),λe=>?_⟩;rw[e]at q2;cases q2
theorem aJl{b:Code}{next p:Nat}{r:lK}(n:Nat)(I:Nat->aN)(F:Nat->aH)(X:Nat->List Obj)(lQ:List (Option Nat))(hp:∀ i,i<=n->(X i).length=p)
  (hF:∀ q∈F 0,Fh next lQ q.2) (hX:∀ i,i<=n->∀ x∈X i,fe next x) (h0:zr (xk next lQ (F 0)++dB lQ (X 0)) next lQ (I 0) (F 0) (X 0)=true)
  (hs:((fj next lQ (I 0)).map λq=>bI (fj next lQ (I 0)) q.1)=(fj next lQ (I 0)).map λq=>q.2)
  (body:∀ i,i<n->∃ σ fC,zr (xk next lQ (F 0)++dB lQ (X 0)) next σ (I (i+1)) (F (i+1)) (X (i+1))=true/\(∀ q∈F (i+1),Fh next σ q.2)/\af P B N b (I i) (F i++marks next (X i)) (next+p) ⟨.normal,fj next σ (I (i+1)),xk next σ (F (i+1))++dB σ (X (i+1)),fC⟩)
  (last:af P B N b (I n) (F n++marks next (X n)) (next+p) r) (hr:r.ex≠.normal):af P B N (.loop b) (fj next lQ (I 0)) (xk next lQ (F 0)++dB lQ (X 0)) next r:=by
 refine aJc n I F X hp ?_ ?_ last hr
 ·obtain⟨q1,q2⟩:=aAn h0 hF (hX 0 (jH _));exact⟨lQ,q1,q2,Nl hs,λ_ _ h=>h⟩
 ·intro i hi;obtain⟨σ,fC,e1,e0,e2⟩:=body i hi;obtain⟨q1,q2⟩:=aAn e1 e0 (hX (i+1) o_);exact⟨σ,fC,q1,q2,e2⟩
theorem pH{b:Code}{next p:Nat}{r:lK}(n:Nat)(I:Nat->aN)(F:Nat->aH)(X:Nat->List Obj)(lQ:List (Option Nat))(hp:∀ i,i<=n->(X i).length=p)
  (Be:∀ i,i<=n->(∀ q∈F i,fe next q.2)/\∀ x∈X i,fe next x) (h0:zr (F 0++dB lQ (X 0)) next lQ (I 0) (F 0) (X 0)=true)
  (hs:((fj next lQ (I 0)).map λq=>bI (fj next lQ (I 0)) q.1)=(fj next lQ (I 0)).map λq=>q.2)
  (body:∀ i,i<n->∃ σ fC,zr (F 0++dB lQ (X 0)) next σ (I (i+1)) (F (i+1)) (X (i+1))=true/\af P B N b (I i) (F i++marks next (X i)) (next+p) ⟨.normal,fj next σ (I (i+1)),F (i+1)++dB σ (X (i+1)),fC⟩)
  (last:af P B N b (I n) (F n++marks next (X n)) (next+p) r) (hr:r.ex≠.normal):af P B N (.loop b) (fj next lQ (I 0)) (F 0++dB lQ (X 0)) next r:=by
 have e0:=(Ka (σ:=lQ) (Be 0 (jH _)).1).1;rw[<-e0]at h0 body ⊢;refine aJl n I F X lQ hp (Ka (Be 0 (jH _)).1).2 (λi hi=>(Be i hi).2) (by rw[e0]at h0 ⊢;exact h0) hs (λi hi=>?_) last hr;obtain⟨σ,fC,e1,e2⟩:=body i hi;exact⟨σ,fC,by rw[e0]at e1 ⊢;exact e1,(Ka (Be (i+1) o_).1).2,by rw[(Ka (σ:=σ) (Be (i+1) o_).1).1];exact e2⟩
end
def vb(m:Nat):Value:=.int .u8 (m:Int)
theorem aJm(d:Nat):gQ (gG 4 d)=[vb (d/16777216%256),vb (d/65536%256),vb (d/256%256),vb (d%256)]:=by
 have e:∀ m,Value.int .u8 ((UInt8.ofNat (m%256)).toNat:Int)=vb (m%256):=λm=>by rw[NU,dU (cJ _ d_)];rfl
 rw[aJj];simp only[gQ,sk,NX,e]
theorem NY(l m:List UInt8):gQ (l++m)=gQ l++gQ m:=by simp[gQ]
theorem Fk(l:List UInt8):(gQ l).length=l.length:=by simp[gQ]
section
variable{Bs:aa}{n a:Nat}
def Hv(n j m:Nat):aN:=[(4,du j),(0,sl 0 n),(3,sl 2 (4*m))]
def Fl(n a:Nat):aH:=[(0,.view (aj (ae base n a)))]
def Fm(a j m:Nat):List Obj:=[.row (gQ (gG (4*m) (a/base^j))) 5 1]
theorem aJn(hn:n=m+1+j)(h63:n<35184372088832):
  af prog Bs 45 (aF (ag f200 0)) (Hv n (j+1) m) (Fl n a++marks 2 (Fm a (j+1) m)) 3 ⟨.normal,fj 2 [some 4] (Hv n j (m+1)),Fl n a++dB [some 4] (Fm a j (m+1)),5⟩:=by
 have hj:j<n:=by omega
 obtain⟨d,hd⟩:∃ d,d=a/base^j%base:=⟨_,rfl⟩;have mT:d<base:=by rw[hd];exact gZ d_ a j
 have iI:(aj (ae base n a))[j]?=some (aR d):=by rw[hd];exact kV (eM hj)
 have sh:∀ k:Nat,(d:Int).fdiv ((2:Int)^k)=((d/2^k:Nat):Int):=λk=>by rw[sB _ (Hw d_),tO,Hx];rfl
 have w8:∀ m:Nat,IntKind.u8.wrap ((m:Nat):Int)=((m%256:Nat):Int):=λm=>by rw[aAo];omega
 have je:gQ (gG (4*m) (a/base^(j+1)))++[vb (d/2^24%256),vb (d/2^16%256),vb (d/2^8%256),vb (d%256)]=gQ (gG (4*(m+1)) (a/base^j)):=by
  have e1:a/base^j/256^4=a/base^(j+1):=by rw[show(256:Nat)^4=base by decide,kT,<-dD]
  rw[show 4*(m+1)=4*m+4 by omega,aAe,e1,NY,<-aAd 4 (a/base^j) 4 (bA _),show a/base^j%256^4=d from hd.symm,aJm]
 exact aC [.rw 12 (du (j+1)) (vI j) (ew j),.ge 13 j 0 true s_,.rw 18 (du (j+1)) (vI j) (ew j),.ix f200 19 0 n j hj k_,.ld f200 20 179 0 j (.view (aj (ae base n a))) (aR d) rfl (by rw[fV];exact iI) k_,.quo 21 .u32 ((d:Int).fdiv ((2:Int)^24)) ((d/2^24:Nat):Int) (sh 24),.wr 22 .u8 ((d/2^24:Nat):Int) ((d/2^24%256:Nat):Int) (w8 _),.rw 24 (du (j+1)) (vI j) (ew j),.ix f200 25 0 n j hj k_,.ld f200 26 179 0 j (.view (aj (ae base n a))) (aR d) rfl (by rw[fV];exact iI) k_,.quo 27 .u32 ((d:Int).fdiv ((2:Int)^16)) ((d/2^16:Nat):Int) (sh 16),.wr 28 .u8 ((d/2^16:Nat):Int) ((d/2^16%256:Nat):Int) (w8 _),.rw 30 (du (j+1)) (vI j) (ew j),.ix f200 31 0 n j hj k_,.ld f200 32 179 0 j (.view (aj (ae base n a))) (aR d) rfl (by rw[fV];exact iI) k_,.quo 33 .u32 ((d:Int).fdiv ((2:Int)^8)) ((d/2^8:Nat):Int) (sh 8),.wr 34 .u8 ((d/2^8:Nat):Int) ((d/2^8%256:Nat):Int) (w8 _),.rw 36 (du (j+1)) (vI j) (ew j),.ix f200 37 0 n j hj k_,.ld f200 38 179 0 j (.view (aj (ae base n a))) (aR d) rfl (by rw[fV];exact iI) k_,.wr 39 .u8 (d:Int) ((d%256:Nat):Int) (w8 _),.bs f200 40 3 4 5 1 [0,1,2,3] (vb 0) [vb (d/2^24%256),vb (d/2^16%256),vb (d/2^8%256),vb (d%256)] #[vb (d/2^24%256),vb (d/2^16%256),vb (d/2^8%256),vb (d%256)]
   (.row [vb (d/2^24%256),vb (d/2^16%256),vb (d/2^8%256),vb (d%256)] 5 1) rfl (λv hv=>by simp at hv;rcases hv with rfl|rfl|rfl|rfl<;>rfl) (λv hv=>by simp at hv;rcases hv with rfl|rfl|rfl|rfl<;>rfl) k_ rfl o_ o_ k_,
  .oX f200 41 4 2 (4*m) 4 (4*(m+1)) 5 1 1 (gQ (gG (4*m) (a/base^(j+1)))) 3 (.row [vb (d/2^24%256),vb (d/2^16%256),vb (d/2^8%256),vb (d%256)] 5 1) (gQ (gG (4*(m+1)) (a/base^j)))
   o_ rfl rfl (by rw[Fk,Kb];omega) je (λv hv=>by simp[Obj.cells]at hv;rcases hv with rfl|rfl|rfl|rfl<;>rfl) o_ (by simp[maxLen];omega) o_ k_,
  .rw 14 (du (j+1)) (vI j) (ew j),.wr 15 .i64 ((j:Int)-1) ((j:Int)-1) (oW o_)]
theorem aJo(h63:n<35184372088832):
  af prog Bs 45 (.block 0 (ag f200 0)) (fj 2 [some 1] (Hv n n 0)) (Fl n a++dB [some 1] (Fm a n 0)) 2 ⟨.normal,Hv n 0 n,Fl n a++marks 2 (Fm a 0 n),3⟩:=by
 have:=pH (P:=prog) (B:=Bs) (N:=45) (b:=aF (ag f200 0)) (next:=2) (p:=1) (r:=⟨.exit 0,Hv n 0 n,Fl n a++marks 2 (Fm a 0 n),3⟩) n (λi=>Hv n (n-i) i) (λ_=>Fl n a) (λi=>Fm a (n-i) i) [some 1] (λ_ _=>rfl)
  (λi _=>⟨λq hq=>by simp[Fl]at hq;subst hq;exact Hs (fG _),λx hx=>by simp[Fm]at hx;subst hx;exact Hs (aJk _)⟩) k_ k_
  (λi hi=>⟨[some 4],5,k_,by
   obtain⟨j,hj⟩:∃ j,n=i+1+j:=⟨n-(i+1),by omega⟩;have e1:n-i=j+1:=by omega
   have e2:n-(i+1)=j:=by omega
   simp only[e1,e2];exact aJn hj h63⟩)
  (by simp only[vL];exact aC [.rw 13 (.bool (decide (((0:Nat):Int)-1>=0))) a_ rfl]) n_
 simp only[Hc]at this;exact bO (id:=0) this
end
theorem aAp(gm:iH w va a)(h1:nd base a<35184372088832):
  Calls prog 200 #[va] w λe w'=>e=.returned (.string (BA (cG a)))/\Below w.heap.size w w':=by
 have ak:=ek (B:=base) d_ a;have hl:∀ s∈[cz.row va (nd base a) (aj (ae base (nd base a) a))],s.OK w:=by intro s hs;simp at hs;subst hs;exact⟨gm,fG _⟩
 unfold iH at gm;generalize nd base a=n at *;have ht:J6 (gG (4*n) (a/base^0))=cG a:=by rw[sC,Fe];refine aJh ?_;rw[sD];exact ak
 have tl:=aIT (gG (4*n) (a/base^0));rw[ht]at tl
 refine lN (Q:=λe w'=>e=.returned (.string (BA (cG a)))/\Below w.heap.size w w') mixed func200 [cz.row va n (aj (ae base n a))] hl 100 (N:=45) k_
  (rs:=[(aU.wr 7 .i64 (4*(n:Int)) ((4*n:Nat):Int) (by rw[dX];omega):aU prog (aa.at w) 45),.mkc f200 8 1 (4*n) 5 1 1 (vb 0) o_ (by simp[maxLen];omega) k_,.wr 11 .i64 ((n:Int)-1) ((n:Int)-1) (oW o_),.code 0 _ _ _ _ _ (aJo (n:=n) (a:=a) h1),.Tl f200 43 2 (4*n) (gG (4*n) (a/base^0)) (.row (gQ (gG (4*n) (a/base^0))) 5 1) rfl rfl (Kb _ _) k_,tl.at 44])
  (v:=.string (BA (cG a))) (ms:=[]) k_ λay b9 v' w' hc bF _ _=>⟨by rw[hc.fk rfl],bF.base⟩
section
variable{P:j_}{B:aa}{N:Nat}
def cz.apart(g:Nat):cz->Prop
 |.plain _=>True
 |.row v n _=>∀ b o c',v=.slice (some ⟨b,o,none⟩) n c'->b≠g
theorem Tm{w:h_}{g:Nat}:∀(l:List cz) (k:Nat) (ι:Map) (c:g_),aM B ι c w->(∀ j x b o cap,c j=some x->x.owns=true->ι j=some (.at b o cap)->b=g)->eU c k->(∀ s∈l,cz.OK w s)->(∀ s∈l,cz.apart g s)->
  ∃ ay c',Map.le ι ay/\aM B ay c' w/\eU c' (tJ k l)/\da c' (uP k l)/\(∀ j,j<k->c' j=c j)/\bW (aK ay) (sn k l) (l.map cz.real)/\k<=tJ k l
 |[],k,ι,c,hm,ho,hu,_,_=>⟨ι,c,Map.le.refl _,hm,hu,λk x h=>(by cases h),λ_ _=>rfl,.nil,bA _⟩
 |.plain v::l,k,ι,c,hm,ho,hu,hl,bj=>by obtain⟨ay,c',h1,h2,h3,h4,h5,h6,h7⟩:=Tm l k ι c hm ho hu (λs hs=>hl s (bH _ hs)) (λs hs=>bj s (bH _ hs));have hv:flat v=true:=hl _ (aP ..);exact⟨ay,c',h1,h2,h3,h4,h5,.cons (.same hv) h6,h7⟩
 |.row v n xs::l,k,ι,c,hm,ho,hu,hl,bj=>by
  obtain⟨hv,cK⟩:dp w v n xs/\∀ u∈xs,flat u=true:=hl _ (aP ..);have hap:∀ b o c',v=.slice (some ⟨b,o,none⟩) n c'->b≠g:=bj _ (aP ..);obtain⟨bP,q1,q2,q3⟩:=yV hm (k:=k) (hu k (bA _)) hv cK (λb o c' hb j y o' bE hj hy he=>hap b o c' hb (ho j y b o' bE hj hy he));have xn:∀ j x b o cap,bh c k (.view xs) j=some x->x.owns=true->bP j=some (.at b o cap)->b=g:=by
   intro j x b o cap hj hx hb;unfold bh at hj;by_cases bX:j=k
   ·rw[ax bX]at hj;injection hj with hj;subst hj;cases hx
   ·rw[ao bX]at hj;obtain⟨lo,e1,_⟩:=hm.born j x hj;have:=q1 j lo e1;rw[hb]at this;injection this with this;subst this;exact ho j x b o cap hj hx e1
  have dS:eU (bh c k (.view xs)) (k+1):=λj hj=>by unfold bh;rw[ao o_];exact hu j o_
  obtain⟨ay,c',h1,h2,h3,h4,h5,h6,h7⟩:=Tm l (k+1) bP _ q2 xn dS (λs hs=>hl s (bH _ hs)) (λs hs=>bj s (bH _ hs));refine⟨ay,c',q1.trans h1,h2,h3,λj x hj=>?_,λj hj=>?_,.cons (q3.mono h1) h6,by show k<=tJ (k+1) l;omega⟩
  ·unfold uP ai at hj;split at hj
   ·rename_i hb;injection hj with hj;subst hj;rw[<-kt hb,h5 k o_];unfold bh;rw[ax rfl]
   ·exact h4 j x hj
  ·rw[h5 j o_];unfold bh;rw[ao o_]
theorem aJp{g:Nat}{cells:ah}{c':Nat}{v:i_}(iE:P.follows .mixedOrders=true)(hf:P.funcs[f]?=some fn)
  (hg:w.heap[g]?=some (.cells cur ty (0,0))) (jP:cap<=maxLen) (bC:cur.size=cap*size) (hc:cur.toList.take cells.length=cells) (cK:∀ v∈cells,flat v=true) (A5:∀ v∈cells',flat v=true) (hn:m<=c') (mL:cc+c'=cap)
  (l:List cz) (hl:∀ s∈l,cz.OK w s) (bj:∀ s∈l,cz.apart g s) (n:Nat) {N:Nat} (hN:N=((.slice (some ⟨0,off,some 7⟩) m cc:i_)::sn 1 l).length+(fn.ntmps-((.slice (some ⟨0,off,some 7⟩) m cc:i_)::sn 1 l).length))
  {rs:bL P (aa.vJ w g) N}
  (h:oQ (gO (P:=P) fn n (.slice (some ⟨0,off,some 7⟩) m cc::sn 1 l) ((0,.row cells ty size)::uP 1 l) (tJ 1 l) rs) ((0,.row cells' ty size)::ms)=oR (gO fn n (.slice (some ⟨0,off,some 7⟩) m cc::sn 1 l) ((0,.row cells ty size)::uP 1 l) (tJ 1 l) rs) v ((0,.row cells' ty size)::ms))
  (hQ:∀ ay Tn v' w',ay 0=some (.at g 0 cap)->aK ay v v'->A4 g w w'->(∃ fX,w'.heap[g]?=some (.cells fX ty (0,0))/\fX.size=cap*size/\fX.toList.take cells'.length=cells')->aM (aa.vJ w g) ay Tn w'->(∀ p∈ms,Tn p.1=some p.2)->Q (.returned v') w') :
  Calls P f (.slice (some ⟨g,off,none⟩) m c'::l.map cz.real).toArray w Q:=by
 have kp:=SV hg jP bC hc cK;have aAq:dR (λ_=>none) 0 (.at g 0 cap) 0=some (.at g 0 cap):=fP _ _ _;obtain⟨ι,c,h1,h2,h3,h4,h5,h6,h7⟩:=Tm (g:=g) l 1 _ _ kp (λj x b o cp hj _ hb=>by
   by_cases Bf:j=0
   ·subst Bf;rw[aAq]at hb;injection hb with hb;injection hb with hb _ _;exact hb.symm
   ·unfold dR at hb;rw[ao Bf]at hb;cases hb) (λk hk=>by unfold bh;rw[ao o_]) hl bj
 have uE:ι 0=some (.at g 0 cap):=h1 0 _ aAq;have ha:da c ((0,.row cells ty size)::uP 1 l):=λk x hk=>by
  unfold ai at hk;split at hk
  ·rename_i hb;injection hk with hk;subst hk;rw[<-kt hb,h5 0 o_];unfold bh;rw[ax rfl]
  ·exact h4 k x hk
 have aJq:aK ι (.slice (some ⟨0,off,some 7⟩) m cc) (.slice (some ⟨g,off,none⟩) m c'):=by have:=aK.slc (off:=off) uE hn mL;rwa[ko]at this
 refine uO iE hf hN n h (.cons aJq h6) h2 ha h3 λay b9 v' w' hle km hm dQ=>?_;obtain⟨e1,e2⟩:=SX hm (hle 0 _ uE) (dQ _ (aP ..)) A5;exact hQ ay b9 v' w' (hle 0 _ uE) km e1 e2 hm λp hp=>dQ p (bH _ hp)
theorem aJr{x:m_}{To:Nat}{cells:ah}{val:i_}(ho:dC o.op=some x)(eY:fN P f=true)(hkk:k2≠k)(kp:0<m)
  (cK:∀ v∈cells,flat v=true) (A5:∀ v∈cells',flat v=true) (gP:flat val=true) (gU:x2.reads=true) (aJs:∀ v∈x2.cells,flat v=true) (aJt:n2=0->To=0)
  (h:∀ w g cap cur c' v2,w.heap[g]?=some (.cells cur ty (0,0))->m<=c'->cc+c'=cap->cap<=maxLen->cur.size=cap*size->cur.toList.take cells.length=cells->dp w v2 n2 (x2.cells.take To)->(∀ b o c,v2=.slice (some ⟨b,o,none⟩) n2 c->b≠g)->Calls P f #[.slice (some ⟨g,off,none⟩) m c',v2] w λe w'=>e=.returned val/\A4 g w w'/\∃ fX,w'.heap[g]?=some (.cells fX ty (0,0))/\fX.size=cap*size/\fX.toList.take cells'.length=cells') :
  cA P B o [.func (.func f) #[] #[],.slice (some ⟨k,off,some 7⟩) m cc,.slice (some ⟨k2,0,some 7⟩) n2 0] [(k,some (.row cells ty size)),(k2,some x2)] val [(k,.row cells' ty size)]:=by
 refine j7 (fi:=[]) (ca:=[]) ho eY λι c w hm jK args' aY=>?_;have hk:c k=some (.row cells ty size):=jK _ (aP ..);have gv:c k2=some x2:=jK _ (bH _ (aP ..));obtain⟨v,v2,rfl,hv,iF⟩:=js aY;have hr:=oS hm gv gU aJs aJt iF;rw[mg]at hr;rcases hv.hZ rfl with ⟨_,h0,_⟩|⟨g,oo,cap,c',hb,lJ,mL,he⟩
 ·omega
 ·dsimp only at hb he;obtain⟨l,q1,q2⟩:=hm.born k _ hk;rw[hb]at q1;injection q1 with q1;subst q1;rcases q2 with q2|⟨b,bE,cur,e1,l4,dP,fQ,jt⟩
  ·cases q2.1
  ·injection e1 with e1 e2 e3;subst e1;subst e2;subst e3;rw[ko]at he;rw[he];have bj:∀ b o c,v2=.slice (some ⟨b,o,none⟩) n2 c->b≠g:=by
    rintro b o c1 rfl rfl
    rcases iF.hZ rfl with ⟨_,_,_,_,e⟩|⟨b',o',bE,c2,gW,_,_,e⟩
    ·cases e
    ·injection e with e _ _;injection e with e;injection e with e _ _;subst e;simp only[Obj.reads,tE]at gU;rcases gU with gU|gU
     ·exact hkk (hm.inj k2 k x2 _ _ _ _ _ _ gv gU hk rfl gW hb)
     ·exact(hm.seen k2 x2 _ _ _ gv gU gW).2 k _ _ _ hk rfl hb
   refine(h w g cap cur c' v2 l4 lJ mL dP fQ (nC jt cK) hr bj).mono ?_
   rintro e w' ⟨rfl,qm,fX,p1,p2,p3⟩
   refine⟨ι,val,rfl,Map.le.refl _,.same gP,hm.write hk rfl hb qm.os qm.tape qm.output qm.size (λj hj E8=>qm.block j hj E8) (.inr ⟨g,cap,fX,rfl,p1,dP,p2,?_⟩) n_ rfl⟩;rw[p3];exact kM A5
end
section
variable{B U V n T v1 v2 u2:Nat}
structure mh(B n U V T u2 v1 v2:Nat):Prop where
 hB:2<=B
 hU:U<V*B
 hT:T=U/B^(n+1)
 hu:u2=U/B^n%B
 kN:v1=V/B^(n+1)
 iF:v2=V/B^n%B
 top:B<=2*v1
 C6:v1<B
theorem mh.pow(h:mh B n U V T u2 v1 v2):0<B^n:=cI (by have:=h.hB;omega)
theorem mh.two(h:mh B n U V T u2 v1 v2):U/B^n=T*B+u2/\V/B^n=v1*B+v2:=by rw[h.hT,h.hu,h.kN,h.iF];exact⟨xc U n,xc V n⟩
theorem mh.aJu(h:mh B n U V T u2 v1 v2)(hq:q*v1<=T->False):U/V<q:=by
 have ri:0<V:=by
  rcases nF V with e|e
  ·have:=h.hU;rw[e]at this;omega
  ·exact e
 refine Nat.lt_of_not_le λhle=>hq ?_;have h1:q*V<=U:=(C7 ri).1 hle;rw[h.hT,h.kN];have hp:0<B^(n+1):=cI (by have:=h.hB;omega);rw[C7 hp];have h2:V/B^(n+1)*B^(n+1)<=V:=C8 _ _
 calc q*(V/B^(n+1))*B^(n+1)=q*(V/B^(n+1)*B^(n+1)):=by rw[fU]
  _<=q*V:=jJ _ h2
  _<=U:=h1
structure Bg(U V T v1 q r:Nat):Prop where
 eq:q*v1+r=T
 le:U/V<=q
theorem mh.start(h:mh B n U V T u2 v1 v2):Bg U V T v1 (T/v1) (T%v1):=by
 refine⟨by rw[cP];exact jx T v1,?_⟩;have hv:0<v1:=by have:=h.top;have:=h.hB;omega
 have:=h.aJu (q:=T/v1+1) λhle=>by have:=(C7 hv).2 hle;omega
 omega
theorem mh.small(h:mh B n U V T u2 v1 v2):U/V<B:=by
 have ri:0<V:=by
  rcases nF V with e|e
  ·have:=h.hU;rw[e]at this;omega
  ·exact e
 exact(iG ri).2 (by rw[cP];exact h.hU)
theorem mh.aJv(h:mh B n U V T u2 v1 v2){r:Nat}(g:Bg U V T v1 q r)(hc:B<=q\/r*B+u2<q*v2):U/V<q:=by
 rcases hc with hc|hc
 ·exact cF h.small hc
 ·have ri:0<V:=by
   rcases nF V with e|e
   ·have:=h.hU;rw[e]at this;omega
   ·exact e
  rw[iG ri];obtain⟨e1,e2⟩:=h.two;have hp:=h.pow;have h1:U/B^n<q*(V/B^n):=by rw[e1,e2,<-g.eq,oU,fF,<-fU];omega
  have h2:U<q*(V/B^n)*B^n:=(iG hp).1 h1;rw[fU]at h2;exact cF h2 (jJ _ (C8 _ _))
theorem mh.less(h:mh B n U V T u2 v1 v2){r:Nat}(g:Bg U V T v1 q r)(hc:B<=q\/r*B+u2<q*v2):0<q/\Bg U V T v1 (q-1) (r+v1):=by have ak:=h.aJv g hc;obtain⟨p,rfl⟩:∃ p,q=p+1:=⟨q-1,(Nat.sub_add_cancel (Nat.one_le_of_lt ak)).symm⟩;refine⟨by omega,?_,Nat.le_of_lt_succ ak⟩;have:=g.eq;rw[fF,ql]at this;rw[NZ];omega
theorem mh.fin(h:mh B n U V T u2 v1 v2){r:Nat}(g:Bg U V T v1 q r)(hc:(q<B/\q*v2<=r*B+u2)\/B<=r):q<B/\q*V<U+V:=by
 obtain⟨e1,e2⟩:=h.two;have hp:=h.pow;have iN:B^(n+1)=B^n*B:=dD ..;have hVd:=jx V (B^n);have hVm:=cJ V hp;rcases hc with ⟨hq,hc⟩|hr
 ·refine⟨hq,?_⟩;have h1:q*(V/B^n)<=U/B^n:=by rw[e1,e2,<-g.eq,oU,fF,<-fU];omega
  have h2:q*(V/B^n)*B^n<=U:=(C7 hp).1 h1;have h3:q*V=q*(V/B^n)*B^n+q*(V%B^n):=by rw[fU,<-oU,cP (V/B^n),hVd]
  have h4:q*(V%B^n)<V:=by
   have h5:q*(V%B^n)<=(B-1)*B^n:=xi o_ (jV hVm);have h6:v1*B^(n+1)<=V:=by rw[h.kN];exact C8 _ _
   have h7:1*B^(n+1)<=v1*B^(n+1):=eh _ (by have:=h.top;have:=h.hB;omega);have h8:(B-1)*B^n<B^(n+1):=by rw[iN,cP (B^n)];exact Bh (by have:=h.hB;omega) hp
   omega
  omega
 ·have xo:V<(v1+1)*B^(n+1):=by rw[h.kN];have iQ:0<B^(n+1):=cI (by have:=h.hB;omega);exact(iG iQ).1 (Hy _)
  have iQ:0<B^(n+1):=cI (by have:=h.hB;omega);have hTU:T*B^(n+1)<=U:=by rw[h.hT];exact C8 _ _
  have aAr:T<(v1+1)*B:=by rw[h.hT,iG iQ];refine cF h.hU ?_;rw[fU,cP B,<-fU];exact eh _ (jV xo)
  have hqB:q<B:=by
   have h1:q*v1<B*v1:=by have:=g.eq;rw[fF,ql,cP v1]at aAr;omega
   exact aJw h1
  refine⟨hqB,?_⟩;have h2:q*V<=q*((v1+1)*B^(n+1)):=jJ _ (jV xo);have h3:q*((v1+1)*B^(n+1))<=T*B^(n+1):=by rw[<-fU];refine eh _ ?_;have:=g.eq;rw[oU,gC];omega
  have ri:0<V:=by
   rcases nF V with e|e
   ·have:=h.hU;rw[e]at this;omega
   ·exact e
  omega
theorem mh.aJx(h:mh B n U V T u2 v1 v2)(r:Nat):B<=r+v1+v1:=by have:=h.top;omega
theorem mh.aJy(h:mh B n U V T u2 v1 v2){r:Nat}(g:Bg U V T v1 q r):q<=B*2+1:=by
 have iQ:0<B^(n+1):=cI (by have:=h.hB;omega);have xo:V<(v1+1)*B^(n+1):=by rw[h.kN];exact(iG iQ).1 (Hy _)
 have aAr:T<(v1+1)*B:=by rw[h.hT,iG iQ];refine cF h.hU ?_;rw[fU,cP B,<-fU];exact eh _ (jV xo)
 have hv:0<v1:=by have:=h.top;have:=h.hB;omega
 have h1:q*v1<(B*2)*v1:=by
  have:=g.eq;have h2:(v1+1)*B<=(B*2)*v1:=by
   rw[fF,ql,fU,cP v1];have:B*1<=B*v1:=jJ _ hv;have e:B*(2*v1)=B*v1+B*v1:=by rw[Nat.two_mul,oU]
   omega
  omega
 have:=aJw h1;omega
def oe(B q V i:Nat):Nat:=q*(V%B^i)/B^i
theorem aJz:oe B q V 0=0:=by simp[oe,tL]
theorem aAs(hB:0<B)(q V i:Nat):oe B q V i+q*(V/B^i%B)=q*(V%B^(i+1))/B^i:=by have hp:0<B^i:=cI hB;rw[pE,oU,<-fU,pF _ _ hp];rfl
theorem aJA(hB:0<B)(q V i:Nat):(oe B q V i+q*(V/B^i%B))/B=oe B q V (i+1):=by rw[aAs hB,kT,<-dD];rfl
theorem aAt(hB:0<B)(q V i:Nat):(oe B q V i+q*(V/B^i%B))%B=q*V/B^i%B:=by
 have hp:0<B^i:=cI hB;rw[aAs hB];have e:q*V=q*(V%B^(i+1))+(q*(V/B^(i+1))*B)*B^i:=by
  have h1:=jx V (B^(i+1));have h2:q*(V/B^(i+1))*B*B^i=q*(B^(i+1)*(V/B^(i+1))):=by rw[dD];simp only[cP,mS,fU]
  rw[h2,<-oU,mR,h1]
 rw[e,pF _ _ hp,C5]
theorem aAu(hB:0<B)(hq:q<B)(V i:Nat):oe B q V i<B:=by have hp:0<B^i:=cI hB;unfold oe;rw[iG hp];have h1:q*(V%B^i)<=q*B^i:=jJ _ (jV (cJ _ hp));exact eV h1 (Bh hq hp)
end
section
variable{B:Nat}
def gn(B j R D:Nat):Nat:=R%B^j+D*B^j
theorem xq(hB:0<B)(j R D i:Nat):gn B j R D/B^(j+i)%B=D/B^i%B:=by have hp:0<B^j:=cI hB;unfold gn;rw[eP,<-kT,pF _ _ hp,mf (cJ _ hp),ko]
theorem Tp(hB:0<B){t:Nat}(ht:t<j)(R D:Nat):gn B j R D/B^t%B=R/B^t%B:=by
 unfold gn;obtain⟨s,rfl⟩:∃ s,j=t+1+s:=⟨j-(t+1),by omega⟩;have hp:0<B^t:=cI hB;have e1:R%B^(t+1+s)/B^t%B=R/B^t%B:=by
  have e:B^(t+1+s)=B^t*(B*B^s):=by rw[eP,dD,fU]
  rw[e,A7,J4]
 have e2:D*B^(t+1+s)=(D*B^s*B)*B^t:=by rw[eP,dD];simp only[cP,mS,fU]
 rw[e2,pF _ _ hp,C5,e1]
theorem Hz(hB:0<B)(R:Nat)(h:D<B^m):gn B j R D<B^(j+m):=by have hp:0<B^j:=cI hB;unfold gn;have h1:=cJ R hp;have h2:(D+1)*B^j<=B^m*B^j:=eh _ h;rw[fF,ql]at h2;rw[eP,cP (B^j)];omega
theorem aAv(hB:0<B)(j R D E:Nat):gn B j (gn B j R D) E=gn B j R E:=by unfold gn;rw[C5,Nat.mod_mod]
theorem aJB(j R:Nat):gn B j R (R/B^j)=R:=by unfold gn;rw[cP,mR];exact jx R (B^j)
theorem HA(j R i:Nat):R/B^(j+i)%B=R/B^j/B^i%B:=by rw[eP,kT]
theorem N0(hB:0<B)(L j R D:Nat):dc B L j (gn B j R D) R=ae B L R:=by
 unfold dc ae;refine wU λt _=>?_;by_cases h:t<j
 ·rw[ax h,Tp hB h]
 ·rw[ao h]
theorem Fo(hB:0<B){L R S:Nat}(hR:R<B^m)(hS:S<B^m):dc B L m S R=ae B L S:=by
 unfold dc ae;refine wU λt _=>?_;by_cases h:t<m
 ·rw[ax h]
 ·rw[ao h,rf hR o_ hB,rf hS o_ hB]
def gg(B m U V q:Nat):Nat:=(U+B^(m+1)-q*V)%B^(m+1)
section
variable{m U V q:Nat}
theorem Tq(hB:0<B):gg B m U V q<B^(m+1):=cJ _ (cI hB)
theorem aAw(hB:0<B)(h:i<k):a%B^k/B^i%B=a/B^i%B:=by have:=Tp hB h a 0;unfold gn at this;rw[kS,jd]at this;exact this
theorem aJC(hB:0<B)(h:i<k):(a+B^k)/B^i%B=a/B^i%B:=by
 have e:B^k=B^(k-i-1)*B*B^i:=by rw[<-dD,<-eP];congr 1;omega
 rw[e,pF _ _ (cI hB),C5]
theorem aJD(h:i<=k):(a+B^k)%B^i=a%B^i:=by
 have e:B^k=B^i*B^(k-i):=by rw[<-eP];congr 1;omega
 rw[e,E5]
def oY(B U V q i:Nat):Nat:=kU B U (q*V) i
theorem aJE(h:i<=k):kU B (a+B^k) b i=kU B a b i:=by unfold kU;rw[aJD h]
theorem aJF(hB:0<B)(hq:q*V<=U+B^(m+1))(hi:i<=m):
  (U/B^i%B+2*B-(oe B q V i+q*(V/B^i%B))%B-oY B U V q i)%B=gg B m U V q/B^i%B:=by
 unfold gg oY;rw[aAw hB o_,aAt hB,<-aJC hB (show i<m+1 by omega),<-aJE (show i<=m+1 by omega)];exact SQ hB hq i
theorem aJG(hB:0<B)(i:Nat):(if U/B^i%B<(oe B q V i+q*(V/B^i%B))%B+oY B U V q i then 1 else 0)=oY B U V q (i+1):=by unfold oY;rw[aAt hB];exact SP hB _ _ _
theorem aJH(hB:0<B)(hq:q<B)(hV:V<B^m):q*V<B^(m+1):=by rw[dD,cP (B^m)];exact eV (eh _ (jV hq)) (ZE hV hB)
theorem aJI(hB:0<B)(hq:q<B)(hV:V<B^m)(hU:U<V*B):oY B U V q (m+1)=if U<q*V then 1 else 0:=by
 have C9:U<B^(m+1):=by rw[dD];exact cF hU (eh _ (jV hV))
 unfold oY kU;rw[dU C9,dU (aJH hB hq hV)]
theorem aAx(hB:0<B)(hV:V<B^m)(hU:U<V*B)(hle:U/V<=q)(h:¬U<q*V):q=U/V/\gg B m U V q=U%V:=by
 have C9:U<B^(m+1):=by rw[dD];exact cF hU (eh _ (jV hV))
 have ri:0<V:=by
  rcases nF V with e|e
  ·rw[e]at hU;omega
  ·exact e
 have e:q=U/V:=by have:=(C7 ri).2 (Kc.1 h);omega
 refine⟨e,?_⟩;unfold gg;have h1:=jx U V;rw[cP]at h1;rw[<-e]at h1;have h2:U+B^(m+1)-q*V=U%V+B^(m+1):=by omega
 rw[h2,Kd,dU (eV (JW _ _) C9)]
theorem aAy(hB:0<B)(hV:V<B^m)(hU:U<V*B)(hb:q*V<U+V)(h:U<q*V):q=U/V+1/\(gg B m U V q+V)%B^(m+1)=U%V:=by
 have C9:U<B^(m+1):=by rw[dD];exact cF hU (eh _ (jV hV))
 have ri:0<V:=by
  rcases nF V with e|e
  ·rw[e]at hU;omega
  ·exact e
 have pI:0<q:=by
  rcases nF q with e|e
  ·rw[e,kS]at h;omega
  ·exact e
 obtain⟨p,rfl⟩:∃ p,q=p+1:=⟨q-1,by omega⟩;rw[fF,ql]at h hb;have e:p=U/V:=by have h1:p<=U/V:=(C7 ri).2 o_;have h2:U/V<p+1:=(iG ri).2 (by rw[fF,ql];exact h);omega
 refine⟨by rw[e],?_⟩;unfold gg;have h1:=jx U V;rw[cP,<-e]at h1;rw[Nat.mod_add_mod,fF,ql];have hpV:p*V<=U:=by omega
 have Tr:V<=B^(m+1):=di (jV hV) (df hB o_);have h2:U+B^(m+1)-(p*V+V)+V=U%V+B^(m+1):=by omega
 rw[h2,Kd,dU (eV (JW _ _) C9)]
theorem Ts(hB:0<B)(hi:i<=m):(D/B^i%B+V/B^i%B+eZ B D V i)%B=(D+V)%B^(m+1)/B^i%B:=by rw[aAw hB o_];exact Hh hB D V i
end
theorem aAz(hB:0<B)(A V j:Nat):gn B j (A%(V*B^(j+1))) (A%(V*B^(j+1))/B^j%V)=A%(V*B^j):=by
 have hp:0<B^j:=cI hB;have h1:A%(V*B^j)=A%(V*B^(j+1))%(B^j*V):=by rw[cP (B^j),dD,<-fU,J4]
 rw[h1];generalize A%(V*B^(j+1))=R;rw[Ns];unfold gn;rw[cP (B^j) (_%V)]
theorem aAA(A V j:Nat):A%(V*B^(j+1))/B^j/V=A/V/B^j%B:=by rw[kT,dD,<-fU,cP (B^j) V,A7,kT]
theorem aAB{V:Nat}(hB:0<B)(hV:0<V)(A j:Nat):A%(V*B^(j+1))/B^j<V*B:=by have hp:0<B^j:=cI hB;rw[iG hp,fU,cP B,<-dD];exact cJ _ (rj hV (cI hB))
theorem aAC{B X:Nat}(hB:0<B)(hk:∃ c,B=2^k*c):((X/B^(i+1)%B*B+X/B^i%B)/2^k)%B=X/2^k/B^i%B:=by
 obtain⟨c,hc⟩:=hk;have h2:0<2^k:=cI d_;have e1:X/B^i=X/B^(i+1)*B+X/B^i%B:=xc X i;have e2:X/B^(i+1)=X/B^(i+1)/B*B+X/B^(i+1)%B:=by rw[cP];exact(jx _ _).symm
 have e3:X/2^k/B^i=X/B^i/2^k:=by rw[kT,kT,cP]
 rw[e3];generalize X/B^i%B=x0 at *;generalize X/B^i=Y at *;generalize X/B^(i+1)%B=x1 at *;generalize X/B^(i+1)/B=H at *;generalize X/B^(i+1)=Z at *;subst e1;subst e2;have e4:(H*B+x1)*B+x0=(x1*B+x0)+H*B*c*2^k:=by
  rw[fF];have:H*B*c*2^k=H*B*B:=by rw[fU (H*B),cP c,<-hc]
  omega
 have e5:H*B*c=H*c*B:=by rw[fU,cP B c,<-fU]
 rw[e4,pF _ _ h2,e5,C5]
end
section
variable{Bs:aa}{N:Nat}
def qx(x:Obj)(a:Nat):Prop:=x.reads=true/\∃ M,nd base a<=M/\x.cells=aj (ae base M a)
theorem Bi(hm:aM Bs ι c w){x:Obj}{v:i_}(hk:c k=some x)(hx:qx x a)(hv:aK ι (sl k (nd base a)) v):iH w v a:=by
 obtain⟨h1,M,h2,h3⟩:=hx;have:=oS (len:=nd base a) hm hk h1 (by rw[h3];exact fG _) (λh=>h) hv;rw[h3,mg]at this;have e:(aj (ae base M a)).take (nd base a)=aj (ae base (nd base a) a):=by unfold aj;rw[<-CI,JS h2]
 rw[e]at this;exact this
def uU(a:Nat):Obj:=.row (aj (ae base (nd base a) a)) 179 1
theorem sG(a:Nat):qx (uU a) a:=⟨rfl,_,bA _,rfl⟩
theorem xt(a:Nat):qx (.view (aj (ae base (nd base a) a))) a:=⟨rfl,_,bA _,rfl⟩
theorem N1{y:m_}{c:Nat}(ho:dC o.op=some y)(eY:fN prog f=true)(dK:∀ v∈args,flat v=true)
  (h:∀ w,Calls prog f args.toArray w λe w'=>∃ v,e=.returned v/\jT w w' v c/\Below w.heap.size w w') (k:Nat) :
  cA prog Bs o (.func (.func f) #[] #[]::args) [(k,none)] (sl k (nd base c)) [(k,uU c)]:=by
 refine j7 (fi:=[]) (ca:=[]) ho eY λι cc w hm hn args' aY=>?_;rw[jG,jh]at aY;rw[nC aY dK];refine(h w).mono ?_
 rintro e w' ⟨v,rfl,h1,h2⟩
 obtain⟨ay,q1,q2,q3⟩:=E2 hm h2 (k:=k) (hn _ (aP ..)) h1 (fG _);exact⟨ay,v,rfl,q1,q3,q2⟩
theorem Tt{y:m_}{c:Nat}(ho:dC o.op=some y)(eY:fN prog f=true)(hx:qx x1 a)(gU:qx x2 b)
  (h:∀ w va vb,iH w va a->iH w vb b->Calls prog f #[va,vb] w λe w'=>∃ v,e=.returned v/\jT w w' v c/\Below w.heap.size w w') (k:Nat) :
  cA prog Bs o [.func (.func f) #[] #[],sl k1 (nd base a),sl k2 (nd base b)] [(k1,some x1),(k2,some x2),(k,none)] (sl k (nd base c)) [(k,uU c)]:=by
 refine j7 (fi:=[]) (ca:=[]) ho eY λι cc w hm hn args' aY=>?_;rw[jG,jh]at aY;obtain⟨va,vb,rfl,hv,iF⟩:=js aY;refine(h w va vb (Bi hm (hn (k1,some x1) s_) hx hv) (Bi hm (hn (k2,some x2) s_) gU iF)).mono ?_
 rintro e w' ⟨v,rfl,h1,h2⟩
 obtain⟨ay,q1,q2,q3⟩:=E2 hm h2 (k:=k) (hn (k,none) s_) h1 (fG _);exact⟨ay,v,rfl,q1,q3,q2⟩
theorem HB{y:m_}(ho:dC o.op=some y)(eY:fN prog f=true)(hx:qx x1 a)(SY:∀ v∈post,flat v=true)(AV:flat res=true)
  (h:∀ w va,iH w va a->Calls prog f (va::post).toArray w λe w'=>e=.returned res/\Below w.heap.size w w') :
  cA prog Bs o (.func (.func f) #[] #[]::sl k1 (nd base a)::post) [(k1,some x1)] res []:=by
 refine j7 (fi:=[]) (ca:=[]) ho eY λι cc w hm hn args' aY=>?_;rw[jG,jh]at aY;cases aY with
 |cons hv hp=>
 rw[nC hp SY];refine(h w _ (Bi hm (hn _ (aP ..)) hx hv)).mono ?_
 rintro e w' ⟨rfl,h2⟩
 exact⟨ι,res,rfl,Map.le.refl _,.same AV,hm.call h2⟩
theorem N2{y:m_}(ho:dC o.op=some y)(eY:fN prog f=true)(hx:qx x1 a)(gU:qx x2 b)(AV:flat res=true)
  (h:∀ w va vb,iH w va a->iH w vb b->Calls prog f #[va,vb] w λe w'=>e=.returned res/\Below w.heap.size w w') :
  cA prog Bs o [.func (.func f) #[] #[],sl k1 (nd base a),sl k2 (nd base b)] [(k1,some x1),(k2,some x2)] res []:=by
 refine j7 (fi:=[]) (ca:=[]) ho eY λι cc w hm hn args' aY=>?_;rw[jG,jh]at aY;obtain⟨va,vb,rfl,hv,iF⟩:=js aY;refine(h w va vb (Bi hm (hn (k1,some x1) s_) hx hv) (Bi hm (hn (k2,some x2) s_) gU iF)).mono ?_
 rintro e w' ⟨rfl,h2⟩
 exact⟨ι,res,rfl,Map.le.refl _,.same AV,hm.call h2⟩
end
def oh(a:Nat):Value:=.string (BA (cG a))
def Bj(neg:Bool)(a:Nat):Value:=.agg #[.bool (neg&&decide (a≠0)),oh a]
theorem qy(a:Nat):((BA (cG a)).toList==(ByteArray.mk #[]).toList)=decide (a=0):=by rw[Fb,pD];exact aJe
theorem aAD{neg:Bool}(gm:iH w va a)(h1:nd base a<35184372088832):
  Calls prog 158 #[va,.bool neg] w λe w'=>e=.returned (Bj neg a)/\Below w.heap.size w w':=by
 have hl:∀ s∈[cz.row va (nd base a) (aj (ae base (nd base a) a)),.plain (.bool neg)],s.OK w:=by
  intro s hs;simp at hs;rcases hs with rfl|rfl
  ·exact⟨gm,fG _⟩
  ·exact rfl
 cases neg with
 |false=>
  exact lN (Q:=λe w'=>e=.returned (Bj false a)/\Below w.heap.size w w') mixed func158 [cz.row va (nd base a) (aj (ae base (nd base a) a)),.plain a_] hl 100 (N:=15) k_
   (rs:=[(.step 7 (aA f158 7) _ _ _ _ (HB (y:=.func 200) (k1:=0) (post:=[]) k_ k_ (xt a) n_ rfl λw va h=>aAp h h1):aU prog (aa.at w) 15)])
   (v:=.agg #[.bool false,oh a]) (ms:=[]) k_ λay b9 v' w' hc bF _ _=>⟨by rw[hc.fk rfl];rfl,bF.base⟩
 |true=>
  have e:(!((BA (cG a)).toList==(ByteArray.mk #[]).toList))=decide (a≠0):=by rw[qy];simp
  exact lN (Q:=λe w'=>e=.returned (Bj true a)/\Below w.heap.size w w') mixed func158 [cz.row va (nd base a) (aj (ae base (nd base a) a)),.plain b_] hl 100 (N:=15) k_
   (rs:=[(.step 7 (aA f158 7) _ _ _ _ (HB (y:=.func 200) (k1:=0) (post:=[]) k_ k_ (xt a) n_ rfl λw va h=>aAp h h1):aU prog (aa.at w) 15),.rw 11 (.bool (!((BA (cG a)).toList==(ByteArray.mk #[]).toList))) (.bool (decide (a≠0))) (by rw[e])])
   (v:=.agg #[.bool (decide (a≠0)),oh a]) (ms:=[]) k_ λay b9 v' w' hc bF _ _=>⟨by rw[hc.fk rfl];simp[Bj],bF.base⟩
section
variable{Bs:aa}{n a k:Nat}
theorem aJJ{B L X:Nat}(h:i+1<L)(h0:d=n2/B^i%B)(h1:e=n2/B^(i+1)%B)(ho:∀ t,t≠i->t≠i+1->X/B^t%B=n2/B^t%B):((ae B L X).set i d).set (i+1) e=ae B L n2:=by
 refine Tu λt=>?_;rw[List.getElem?_set,List.getElem?_set];by_cases ht:t<L
 ·rw[eM ht,eM ht];by_cases h2:i+1=t
  ·subst h2;rw[ax rfl,ax (by simp[oT];omega),h1]
  ·rw[ao h2];by_cases h3:i=t
   ·subst h3;rw[ax rfl,ax (by rw[oT];omega),h0]
   ·rw[ao h3,ho t (λe=>h3 e.symm) (λe=>h2 e.symm)]
 ·have e1:(ae B L X)[t]?=none:=AM (by rw[oT];omega);have e2:(ae B L n2)[t]?=none:=AM (by rw[oT];omega);rw[e1,e2,ao o_,ao o_]
theorem aJK{x c k:Nat}(hk:k<=31)(hx:x<base)(hc:c<2^k):(c||| (x*2^k%base))=(c+x*2^k)%base/\(c+x*2^k)/base=x*2^k/base/\x*2^k/base<2^k:=by
 obtain⟨m,hm⟩:∃ m,base=m*2^k:=⟨2^(32-k),by rw[<-eP,show 32-k+k=32 by omega]⟩;have hp:0<2^k:=cI d_;have rk:0<m:=by
  rcases nF m with e|e
  ·rw[e,kS]at hm;exact absurd hm d_
  ·exact e
 have e1:x*2^k%base=x%m*2^k:=by rw[hm,aAE]
 have e2:x*2^k/base=x/m:=by rw[hm,aAF _ _ hp]
 have e3:(c+x*2^k)/base=x/m:=by rw[hm,cP m,<-kT,pF _ _ hp,mf hc,ko]
 have e4:(c+x*2^k)%base=c+x%m*2^k:=by
  have h1:=jx (c+x*2^k) base;rw[e3]at h1;have h2:=jx x m;have h3:x*2^k=base*(x/m)+x%m*2^k:=by
   rw[hm]
   conv=>lhs;rw[<-h2]
   rw[fF,Bk]
  generalize base*(x/m)=z at h1 h3;omega
 refine⟨?_,e3.trans e2.symm,?_⟩
 ·have:=NJ (i:=k) hc (x%m);rw[e1,e4,Nat.or_comm,cP,<-this];omega
 ·rw[e2,iG rk,cP,<-hm];exact hx
theorem aJL(hk:k<=31):(a%base^i*2^k)/base^i%base=(a%base^i*2^k)/base^i/\(a%base^i*2^k)/base^i<2^k:=by
 have hp:0<base^i:=cI d_;have h1:(a%base^i*2^k)/base^i<2^k:=by rw[iG hp,cP];exact ZE (cJ _ hp) (cI d_)
 refine⟨dU (cF h1 ?_),h1⟩;exact di (df d_ hk) d_
theorem aJM:(a%base^(i+1)*2^k)/base^i=(a%base^i*2^k)/base^i+a/base^i%base*2^k:=by have hp:0<base^i:=cI d_;rw[pE,fF,Bk,pF _ _ hp]
def sH(n a k i:Nat):aN:=[(14,vI i),(13,vI n),(12,sl 0 n),(5,sl 1 (n+1)),(1,vI k)]
def oZ(n a k i:Nat):aH:=[(0,.view (aj (ae base n a))),(1,.row (aj (ae base (n+1) (a%base^i*2^k))) 179 1)]
theorem Tv(hi:i<n)(hk:k<=31)(h63:n<35184372088832):
  af prog Bs 40 (aF (ag f223 0)) (sH n a k i) (oZ n a k i) 2 ⟨.normal,sH n a k (i+1),oZ n a k (i+1),2⟩:=by
 have hx:=gZ (B:=base) d_ a i;obtain⟨s1,s2⟩:=aJL (a:=a) (k:=k) (i:=i) hk;have s3:=aJM (a:=a) (k:=k) (i:=i);have iI:(aj (ae base (n+1) (a%base^i*2^k)))[i]?=some (aR ((a%base^i*2^k)/base^i)):=by rw[<-s1];exact kV (eM o_)
 have jE:∀ d e,d=(a%base^(i+1)*2^k)/base^i%base->e=(a%base^(i+1)*2^k)/base^(i+1)%base->((ae base (n+1) (a%base^i*2^k)).set i d).set (i+1) e=ae base (n+1) (a%base^(i+1)*2^k):=by
  intro d e hd he;refine aJJ o_ hd he λt h1 h2=>?_;rcases fm t i with h|h
  ·have e1:a%base^(i+1)*2^k=gn base i (a%base^i*2^k) ((a%base^i*2^k)/base^i+a/base^i%base*2^k):=by unfold gn;rw[pE,fF,fF,<-uI,Nat.mod_add_div',Bk]
   rw[e1,Tp d_ h]
  ·have hp:0<base^i:=cI d_;have b1:a%base^i*2^k<base^(i+1):=by rw[dD];exact aAG (cJ _ hp) (di (df d_ hk) d_) d_
   have b2:a%base^(i+1)*2^k<base^(i+2):=by rw[dD _ (i+1)];exact aAG (cJ _ (cI d_)) (di (df d_ hk) d_) d_
   rw[rf b1 o_ d_,rf b2 o_ d_]
 generalize hc:(a%base^i*2^k)/base^i=c at *;generalize HC:a/base^i%base=x at *;obtain⟨t1,t2,t3⟩:=aJK hk hx s2;have hd:(c||| x*2^k%base)=(a%base^(i+1)*2^k)/base^i%base:=by rw[s3,t1]
 have he:x*2^k/base=(a%base^(i+1)*2^k)/base^(i+1)%base:=by
  have e5:∀ Z:Nat,Z/base^(i+1)=Z/base^i/base:=λZ=>by rw[dD,kT]
  rw[e5,s3,t2];exact(dU (cF t3 (di (df d_ hk) d_))).symm
 have jE:=jE _ _ hd he;have h64:x*2^k<18446744073709551616:=by have h1:x*2^k<=(base-1)*2^31:=xi o_ (df d_ hk);exact eV h1 d_
 have w25:IntKind.u32.wrap ((x:Int)*2^(min k IntKind.u32.bits))=((x*2^k%base:Nat):Int):=by
  have e:(x:Int)*2^k=((x*2^k:Nat):Int):=by simp
  rw[show min k IntKind.u32.bits=k from nZ (by show k<=32;omega),nG,e];unfold base;omega
 have w34:IntKind.u64.wrap ((x:Int)*2^(min k IntKind.u64.bits))=((x*2^k:Nat):Int):=by
  have e:(x:Int)*2^k=((x*2^k:Nat):Int):=by simp
  rw[show min k IntKind.u64.bits=k from nZ (by show k<=64;omega),j9,e];omega
 have q1:x*2^k%base<base:=cJ _ d_;have q2:c<base:=cF s2 (di (df d_ hk) d_);have q3:x*2^k/base<base:=cF t3 (di (df d_ hk) d_);have Ke:e9 prog 179 (aj (ae base (n+1) (a%base^i*2^k))) i (aR (c||| x*2^k%base))=some (aj ((ae base (n+1) (a%base^i*2^k)).set i (c||| x*2^k%base))):=by rw[y7 _ _ _ (by simp[aj,oT];omega),y8]
 have Tw:e9 prog 179 (aj ((ae base (n+1) (a%base^i*2^k)).set i (c||| x*2^k%base))) (i+1) (aR (x*2^k/base))=some (aj (ae base (n+1) (a%base^(i+1)*2^k))):=by rw[y7 _ _ _ (by simp[aj,oT];omega),y8,jE]
 generalize x*2^k=y at *;generalize lj:(c||| y%base)=d at *;exact aC [.lt 15 i n true (by simp[hi]),.ix f223 17 0 n i hi k_,.ld f223 18 179 0 i (.view (aj (ae base n a))) (aR x) rfl (by rw[fV,<-HC];exact kV (eM hi)) k_,.ix f223 21 1 (n+1) i o_ k_,.ld f223 22 179 1 i (.row (aj (ae base (n+1) (a%base^i*2^k))) 179 1) (aR c) rfl (by rw[fV];exact iI) k_,.shl f223 25 .u32 (x:Int) ((y%base:Nat):Int) k w25 k_,.quo 26 .u32 _ ((d:Nat):Int) ((SS q2 q1).trans (by rw[lj])),.ix f223 27 1 (n+1) i o_ k_,.st f223 100027 179 1 i (.row (aj (ae base (n+1) (a%base^i*2^k))) 179 1) (aR d) (.row (aj ((ae base (n+1) (a%base^i*2^k)).set i d)) 179 1) rfl Ke rfl k_,.sum 30 i 1 (i+1) rfl o_,.wr 32 .u64 (x:Int) (x:Int) (by rw[j9];unfold base at hx;omega),.shl f223 34 .u64 (x:Int) (y:Int) k w34 k_,.quo 35 .u64 ((y:Int).fdiv ((2:Int)^32)) ((y/base:Nat):Int) (by rw[sB _ d_];unfold base;omega),.wr 36 .u32 ((y/base:Nat):Int) ((y/base:Nat):Int) (by rw[nG];unfold base at q3 ⊢;omega),.ix f223 37 1 (n+1) (i+1) o_ k_,.st f223 100037 179 1 (i+1) (.row (aj ((ae base (n+1) (a%base^i*2^k)).set i d)) 179 1) (aR (y/base)) (.row (aj (ae base (n+1) (a%base^(i+1)*2^k))) 179 1) rfl Tw rfl k_,.sum 38 i 1 (i+1) rfl o_]
theorem Tx(hk:k<=31)(h63:n<35184372088832):
  af prog Bs 40 (.block 0 (ag f223 0)) (sH n a k 0) (oZ n a k 0) 2 ⟨.normal,sH n a k n,oZ n a k n,2⟩:=
 bO (ch (b:=aF (ag f223 0)) (r:=⟨.exit 0,sH n a k n,oZ n a k n,2⟩) n (sH n a k) (oZ n a k) (λi t _=>j6 (l:=oZ n a k i) (m:=oZ n a k 0) rfl t) (λi hi=>Tv hi hk h63)
  (aC [.lt 15 n n false s_]) n_)
end
def aAH(w w':h_)(v:i_)(n a:Nat):Prop:=w'.ownsRow w.heap.size 179 1 v n (aj (ae base n a))
theorem aJN(gm:iH w va a)(hk:k<=31)(h1:nd base a<35184372088832):
  Calls prog 223 #[va,vI k] w λe w'=>∃ v,e=.returned v/\aAH w w' v (nd base a+1) (a*2^k)/\Below w.heap.size w w':=by
 have ak:=ek (B:=base) d_ a;have hl:∀ s∈[cz.row va (nd base a) (aj (ae base (nd base a) a)),.plain (vI k)],s.OK w:=by
  intro s hs;simp at hs;rcases hs with rfl|rfl
  ·exact⟨gm,fG _⟩
  ·exact rfl
 unfold iH at gm;generalize nd base a=n at *;have aY:a%base^n=a:=dU ak
 refine lN (Q:=λe w'=>∃ v,e=.returned v/\aAH w w' v (n+1) (a*2^k)/\Below w.heap.size w w') mixed func223 [cz.row va n (aj (ae base n a)),.plain (vI k)] hl 100 (N:=40) k_
  (rs:=[(aU.sum 10 n 1 (n+1) rfl o_:aU prog (aa.at w) 40),.qj f223 11 1 (n+1) 179 4 (aR 0) (aj (ae base (n+1) (a%base^0*2^k))) (by rw[sC,tL,kS,S1,E6]) rfl rfl o_ (by simp[maxLen];omega) k_,.code 0 _ _ _ _ _ (Tx (n:=n) (a:=a) hk h1)])
  (v:=sl 1 (n+1)) (ms:=[(1,.row (aj (ae base (n+1) (a%base^n*2^k))) 179 1)]) k_ λay b9 v' w' hc bF dQ _=>⟨v',rfl,?_,bF.base⟩
 have:=wZ bF (dQ _ (aP ..)) hc (by simp[aj,oT]) (fG _);rw[j8 (by simp[aj,oT]),aY]at this;exact this
def bl(x:Nat):Nat:=if x=0 then 0 else x.log2+1
theorem Ty{x:Nat}(h:2^k<=x):bl x=bl (x/2^k)+k:=by
 have hp:0<2^k:=cI d_;have hx:x≠0:=by omega
 have hq:0<x/2^k:=N3 h hp;unfold bl;rw[ao hx,ao o_];have h1:=aAI (n:=x/2^k) o_;have h2:=Nat.lt_log2_self (n:=x/2^k);have e:x.log2=(x/2^k).log2+k:=by
  rw[Nat.log2_eq_iff hx];constructor
  ·rw[eP];exact(C7 hp).1 h1
  ·rw[show(x/2^k).log2+k+1=((x/2^k).log2+1)+k by omega,eP];exact(iG hp).1 h2
 omega
theorem aAJ{x n:Nat}(h:x<2^n):bl x<=n:=by
 unfold bl;split
 ·omega
 ·rename_i hx;have:=aAI hx;rcases fm x.log2 n with h1|h1
  ·omega
  ·have:=df (show 0<2 by decide) h1;omega
theorem aJO{x:Nat}(h:x≠0):∃ k,bl x=k+1/\2^k<=x/\x<2^(k+1):=by refine⟨x.log2,by unfold bl;rw[ao h],aAI h,Nat.lt_log2_self⟩
section
variable{P:j_}{B:aa}{N:Nat}
theorem aJP(ho:Hn P o=true){kd:IntKind}{s:ByteArray}{c:UInt8}(hc:s[i]?=some c):cA P B o [.string s,.int kd i] [] (.int .u8 (c.toNat:Int)) []:=by
 unfold Hn at ho;split at ho
 ·rename_i t p q bY;split at ho
  ·rename_i ht;refine(Cu (λu hu=>by simp at hu;rcases hu with rfl|rfl<;>rfl) rfl λρ fY w _=>?_).step;rw[bY]at fY;simp[Op.operands]at fY;have h0:(0:Int)<=(i:Int):=by omega
   simp[execOp,bY,fY.1,fY.2,Instr.index,asIntOf,jF ht,h0,hc]
  ·cases ho
 ·cases ho
def aU.N4(fn:Func)(key:Nat)(kd:IntKind)(s:ByteArray)(i:Nat)(c:UInt8)(hc:s[i]?=some c)(ho:Hn P (aA fn key)=true):aU P B N:=
 .step key (aA fn key) [.string s,.int kd i] [] (.int .u8 (c.toNat:Int)) [] (aJP ho hc)
end
noncomputable def HD:ByteArray:=match (aA f235 16).op with|.index _ (.const (.string s)) _=>s|_=>default
theorem aJQ:∀ i,i<256->HD[i]?=some (UInt8.ofNat (bl i)):=by decide +kernel
theorem aJR{x:Nat}(hx:x<base):aB prog 235 [aR x] (vI (bl x)):=by
 have fin:∀ z,z<256->∃ c:UInt8,HD[z]?=some c/\c.toNat=bl z:=λz hz=>⟨_,aJQ z hz,by have:=aAJ (x:=z) (n:=8) hz;rw[NU];exact dU o_⟩
 have w8:∀ z,z<256->IntKind.u8.wrap ((z:Nat):Int)=(z:Int):=λz h=>by rw[aAo];omega
 have shr:∀(z k:Nat),(z:Int).fdiv ((2:Int)^k)=((z/2^k:Nat):Int):=λz k=>by rw[sB _ (Hw d_),tO,Hx];rfl
 by_cases h1:65536<=x
 ·have e1:=Ty (k:=16) h1;obtain⟨y,hy⟩:∃ y,y=x/2^16:=⟨_,rfl⟩;have G2:y<65536:=by rw[hy];unfold base at hx;omega
  by_cases h2:256<=y
  ·have e2:=Ty (x:=y) (k:=8) h2;obtain⟨z,hz⟩:∃ z,z=y/2^8:=⟨_,rfl⟩;have Bl:z<256:=by rw[hz];omega
   obtain⟨c,c1,c2⟩:=fin z Bl;have e:bl x=24+c.toNat:=by rw[e1,<-hy,e2,<-hz,c2];omega
   rw[e];exact bo func235 (λ_=>[.ge 4 x 65536 true (by simp[h1]),.quo 6 .u32 ((x:Int).fdiv ((2:Int)^16)) (y:Int) (by rw[shr,hy]),.ge 8 y 256 true (by simp[h2]),.quo 10 .u32 ((y:Int).fdiv ((2:Int)^8)) (z:Int) (by rw[shr,hz]),.wr 15 .u8 (z:Int) (z:Int) (w8 z Bl),.N4 f235 16 .u8 HD z c c1 k_,.wr 17 .i64 (c.toNat:Int) (c.toNat:Int) (by rw[dX];have:=c.toNat_lt;omega),.sum 18 24 c.toNat (24+c.toNat) rfl (by have:=c.toNat_lt;omega)])
  ·obtain⟨c,c1,c2⟩:=fin y o_;have e:bl x=16+c.toNat:=by rw[e1,<-hy,c2];omega
   rw[e];exact bo func235 (λ_=>[.ge 4 x 65536 true (by simp[h1]),.quo 6 .u32 ((x:Int).fdiv ((2:Int)^16)) (y:Int) (by rw[shr,hy]),.ge 8 y 256 false (by simp;omega),.wr 15 .u8 (y:Int) (y:Int) (w8 y o_),.N4 f235 16 .u8 HD y c c1 k_,.wr 17 .i64 (c.toNat:Int) (c.toNat:Int) (by rw[dX];have:=c.toNat_lt;omega),.sum 18 16 c.toNat (16+c.toNat) rfl (by have:=c.toNat_lt;omega)])
 ·by_cases h2:256<=x
  ·have e2:=Ty (x:=x) (k:=8) h2;obtain⟨z,hz⟩:∃ z,z=x/2^8:=⟨_,rfl⟩;have Bl:z<256:=by rw[hz];omega
   obtain⟨c,c1,c2⟩:=fin z Bl;have e:bl x=8+c.toNat:=by rw[e2,<-hz,c2];omega
   rw[e];exact bo func235 (λ_=>[.ge 4 x 65536 false (by simp;omega),.ge 8 x 256 true (by simp[h2]),.quo 10 .u32 ((x:Int).fdiv ((2:Int)^8)) (z:Int) (by rw[shr,hz]),.wr 15 .u8 (z:Int) (z:Int) (w8 z Bl),.N4 f235 16 .u8 HD z c c1 k_,.wr 17 .i64 (c.toNat:Int) (c.toNat:Int) (by rw[dX];have:=c.toNat_lt;omega),.sum 18 8 c.toNat (8+c.toNat) rfl (by have:=c.toNat_lt;omega)])
  ·obtain⟨c,c1,c2⟩:=fin x o_;have e:bl x=0+c.toNat:=by rw[c2];omega
   rw[e];exact bo func235 (λ_=>[.ge 4 x 65536 false (by simp;omega),.ge 8 x 256 false (by simp;omega),.wr 15 .u8 (x:Int) (x:Int) (w8 x o_),.N4 f235 16 .u8 HD x c c1 k_,.wr 17 .i64 (c.toNat:Int) (c.toNat:Int) (by rw[dX];have:=c.toNat_lt;omega),.sum 18 0 c.toNat (0+c.toNat) rfl (by have:=c.toNat_lt;omega)])
theorem aJS{x:Nat}(hx:x<base):aB prog 222 [aR x] (vI (32-bl x)):=
 bo func222 (λ_=>[(aJR hx).at 4,.fh 5 32 (bl x) (32-bl x) (by have:=aAJ (x:=x) (n:=32) hx;omega) o_])
def qz(x:Nat):Value:=.int .u64 (x:Int)
theorem rl{x:Nat}(h:x<18446744073709551616):IntKind.u64.wrap (x:Int)=(x:Int):=by rw[j9];omega
theorem Tz{x:Nat}(h:x<base):IntKind.u64.wrap ((x:Int)*2^32)=((x*base:Nat):Int):=by
 have e:(x:Int)*2^32=((x*base:Nat):Int):=by rw[nY];rfl
 rw[e];exact rl (by have:=Bh (k:=base) h d_;exact cF this d_)
theorem TA{x y:Nat}(hx:x<base)(hy:y<base):IntKind.u64.wrap (((BitVec.ofInt IntKind.u64.bits ((x*base:Nat):Int))||| (BitVec.ofInt IntKind.u64.bits (y:Int))).toNat:Int)=((x*base+y:Nat):Int):=by
 have h1:x*base<18446744073709551616:=by have:=Bh (k:=base) hx d_;exact cF this d_
 have h2:=NJ (i:=32) hy x;rw[S6 h1 (lO hy d_),cP x base];exact cL _ h2.symm
section
variable{Bs:aa}{j m L R V T v1 v2 u2:Nat}
def us(j m:Nat):Value:=.slice (some ⟨0,j,some 7⟩) (m+1) j
def kW(j m q r:Nat):aN:=[(7,qz q),(8,qz r),(5,vI m),(0,us j m),(1,sl 1 m)]
def hY(L R m V:Nat):aH:=[(0,.row (aj (ae base L R)) 179 1),(1,.view (aj (ae base m V)))]
structure DG(j e L R V T v1 v2 u2:Nat):Prop where
 ds:mh base e (R/base^j) V T u2 v1 v2
 hL:j+(e+2)+1<=L
 hV:V<base^(e+2)
 h63:L<35184372088832
section
variable{e:Nat}(h:DG j e L R V T v1 v2 u2)
include h
theorem DG.hR:R/base^j<base^(e+3):=by have h1:=h.ds.hU;have h2:V*base<=base^(e+2)*base:=eh _ (jV h.hV);rw[<-dD]at h2;exact cF h1 h2
theorem DG.ud(hi:i<=e+2):(aj (ae base L R))[j+i]?=some (aR (R/base^j/base^i%base)):=by rw[<-HA];exact kV (eM (by have:=h.hL;omega))
omit h in
theorem DG.vd(hi:i<e+2):(aj (ae base (e+2) V))[i]?=some (aR (V/base^i%base)):=kV (eM hi)
theorem DG.TB:V/base^(e+1)%base=v1:=by rw[h.ds.kN];exact E3 h.hV
theorem DG.aAK:R/base^j/base^(e+2)%base*base+R/base^j/base^(e+1)%base=T:=by rw[E3 (h.hR),h.ds.hT,<-xc]
theorem DG.u2d:R/base^j/base^e%base=u2:=h.ds.hu.symm
theorem DG.v2d:V/base^e%base=v2:=h.ds.iF.symm
end
noncomputable def TC(h:DG j e L R V T v1 v2 u2)(q r:Nat)(HE:q<base)(hr:r<base)(tr:Bool)(hq:tr=decide (r*base+u2<q*v2))(more:bL prog Bs 159):bL prog Bs 159:=
 have iF:v2<base:=by rw[h.ds.iF];exact cJ _ d_
 have eX:u2<base:=by rw[h.ds.hu];exact cJ _ d_
 have hp:q*v2<18446744073709551616:=cF (qk HE iF) d_;
  .ge 48 q 4294967296 false (by simp;exact HE)::.fh 53 (e+2) 2 e rfl (by have:=h.hL;have:=h.h63;omega)::.ix f224 54 1 (e+2) e o_ k_::
  .ld f224 55 179 1 e (.view (aj (ae base (e+2) V))) (aR v2) rfl (by rw[fV,<-h.v2d];exact DG.vd o_) k_::.wr 56 .u64 (v2:Int) (v2:Int) (rl (lO iF d_))::
  .wr 57 .u64 ((q:Int)*(v2:Int)) ((q*v2:Nat):Int) (by rw[<-nY];exact rl hp)::.wr 59 .u64 ((r:Int)*2^32) ((r*base:Nat):Int) (Tz hr)::
  .fh 62 (e+2) 2 e rfl (by have:=h.hL;have:=h.h63;omega)::.w7 f224 63 0 j (e+3) j e o_ k_::
  .ld f224 64 179 0 (j+e) (.row (aj (ae base L R)) 179 1) (aR u2) rfl (by rw[fV,<-h.u2d];exact h.ud o_) k_::.wr 65 .u64 (u2:Int) (u2:Int) (rl (lO eX d_))::
  .quo 66 .u64 _ ((r*base+u2:Nat):Int) (TA hr eX)::.gt 67 (q*v2) (r*base+u2) tr hq.symm::more
noncomputable def N5(h:DG j e L R V T v1 v2 u2)(q r:Nat)(hq:0<q/\q<18446744073709551616)(hr:r<base)(tr:Bool)(ht:tr=decide (base<=r+v1)):bL prog Bs 159:=
 have kN:v1<base:=h.ds.C6;
 [.wr 70 .u64 ((q:Int)-1) ((q-1:Nat):Int) (by rw[j9];omega),.fh 74 (e+2) 1 (e+1) rfl (by have:=h.hL;have:=h.h63;omega),.ix f224 75 1 (e+2) (e+1) o_ k_,.ld f224 76 179 1 (e+1) (.view (aj (ae base (e+2) V))) (aR v1) rfl (by rw[fV,<-h.TB];exact DG.vd o_) k_,.wr 77 .u64 (v1:Int) (v1:Int) (rl (lO kN d_)),.wr 78 .u64 ((r:Int)+(v1:Int)) ((r+v1:Nat):Int) (by rw[<-vM];exact rl (by unfold base at hr kN;omega)),.ge 80 (r+v1) 4294967296 tr ht.symm]
section
variable{e:Nat}(h:DG j e L R V T v1 v2 u2)
include h
theorem aAL{r:Nat}(HE:q<base)(hr:r<base)(hq:q*v2<=r*base+u2):
  af prog Bs 159 (aF (ag f224 0)) (kW j (e+2) q r) (hY L R (e+2) V) 2 ⟨.exit 0,kW j (e+2) q r,hY L R (e+2) V,2⟩:=
 aC (TC h q r HE hr false (by simp;omega) [])
theorem aJT{r:Nat}(hq:0<q/\q<18446744073709551616)(hr:r<base)(hc:base<=q\/r*base+u2<q*v2)(ht:r+v1<base):
  af prog Bs 159 (aF (ag f224 0)) (kW j (e+2) q r) (hY L R (e+2) V) 2 ⟨.normal,kW j (e+2) (q-1) (r+v1),hY L R (e+2) V,2⟩:=by
 by_cases hb:base<=q
 ·exact aC (.ge 48 q 4294967296 true (by simp;exact hb)::N5 h q r hq hr false (by simp;omega))
 ·exact aC (TC h q r o_ hr true (by simp[hc.resolve_left hb]) (N5 h q r hq hr false (by simp;omega)))
theorem aAM{r:Nat}(hq:0<q/\q<18446744073709551616)(hr:r<base)(hc:base<=q\/r*base+u2<q*v2)(ht:base<=r+v1):
  af prog Bs 159 (aF (ag f224 0)) (kW j (e+2) q r) (hY L R (e+2) V) 2 ⟨.exit 0,kW j (e+2) (q-1) (r+v1),hY L R (e+2) V,2⟩:=by
 by_cases hb:base<=q
 ·exact aC (.ge 48 q 4294967296 true (by simp;exact hb)::N5 h q r hq hr true (by simp;omega))
 ·exact aC (TC h q r o_ hr true (by simp[hc.resolve_left hb]) (N5 h q r hq hr true (by simp;omega)))
theorem aJU:∃ q r,af prog Bs 159 (.block 0 (ag f224 0)) (kW j (e+2) (T/v1) (T%v1)) (hY L R (e+2) V) 2 ⟨.normal,kW j (e+2) q r,hY L R (e+2) V,2⟩/\q<base/\q*V<R/base^j+V/\R/base^j/V<=q:=by
 have kN:v1<base:=h.ds.C6;have xu:=h.ds.top;have Fp:0<v1:=by unfold base at xu;omega
 have oj:T%v1<v1:=cJ _ Fp;have g0:=h.ds.start;have sm:∀{q r},Bg (R/base^j) V T v1 q r->q<18446744073709551616:=λg=>eV (h.ds.aJy g) d_;have one:∀{q r q' r':Nat},af prog Bs 159 (.loop (aF (ag f224 0))) (kW j (e+2) q r) (hY L R (e+2) V) 2 ⟨.exit 0,kW j (e+2) q' r',hY L R (e+2) V,2⟩->
   af prog Bs 159 (.block 0 (ag f224 0)) (kW j (e+2) q r) (hY L R (e+2) V) 2 ⟨.normal,kW j (e+2) q' r',hY L R (e+2) V,2⟩:=λg=>bO (id:=0) g
 have zero:∀{q r:Nat} {o:lK},o.ex≠.normal->af prog Bs 159 (aF (ag f224 0)) (kW j (e+2) q r) (hY L R (e+2) V) 2 o->af prog Bs 159 (.loop (aF (ag f224 0))) (kW j (e+2) q r) (hY L R (e+2) V) 2 o:=λ{q r o} ho g=>
  ch (P:=prog) (B:=Bs) (N:=159) (b:=aF (ag f224 0)) (next:=2) 0 (λ_=>kW j (e+2) q r) (λ_=>hY L R (e+2) V) (λ_ _ _=>Iff.rfl) (λi hi=>by omega) g ho
 generalize T/v1=q0 at *;generalize T%v1=r0 at *;by_cases c1:base<=q0\/r0*base+u2<q0*v2
 ·obtain⟨p1,g1⟩:=h.ds.less g0 c1;by_cases t1:base<=r0+v1
  ·obtain⟨a1,a2⟩:=h.ds.fin g1 (.inr t1);exact⟨_,_,one (zero n_ (aAM h ⟨p1,sm g0⟩ o_ c1 t1)),a1,a2,g1.le⟩
  ·have t1:=Nat.not_le.1 t1;have two:∀{o:lK},o.ex≠.normal->af prog Bs 159 (aF (ag f224 0)) (kW j (e+2) (q0-1) (r0+v1)) (hY L R (e+2) V) 2 o->af prog Bs 159 (.loop (aF (ag f224 0))) (kW j (e+2) q0 r0) (hY L R (e+2) V) 2 o:=λ{o} ho g=>
    ch (P:=prog) (B:=Bs) (N:=159) (b:=aF (ag f224 0)) (next:=2) 1 (λi=>if i=0 then kW j (e+2) q0 r0 else kW j (e+2) (q0-1) (r0+v1)) (λ_=>hY L R (e+2) V) (λ_ _ _=>Iff.rfl) (λi hi=>by
     have:i=0:=by omega
     subst this;exact aJT h ⟨p1,sm g0⟩ o_ c1 t1) g ho
   by_cases c2:base<=q0-1\/(r0+v1)*base+u2<(q0-1)*v2
   ·obtain⟨p2,g2⟩:=h.ds.less g1 c2;have t2:=h.ds.aJx r0;obtain⟨a1,a2⟩:=h.ds.fin g2 (.inr t2);exact⟨_,_,one (two n_ (aAM h ⟨p2,sm g1⟩ t1 c2 t2)),a1,a2,g2.le⟩
   ·have TD:q0-1<base/\(q0-1)*v2<=(r0+v1)*base+u2:=by
     constructor
     ·exact Nat.not_le.1 λhh=>c2 (.inl hh)
     ·exact Kc.1 λhh=>c2 (.inr hh)
    obtain⟨a1,a2⟩:=h.ds.fin g1 (.inl TD);exact⟨_,_,one (two n_ (aAL h TD.1 t1 TD.2)),a1,a2,g1.le⟩
 ·have TE:q0<base/\q0*v2<=r0*base+u2:=by
   constructor
   ·exact Nat.not_le.1 λhh=>c1 (.inl hh)
   ·exact Kc.1 λhh=>c1 (.inr hh)
  obtain⟨a1,a2⟩:=h.ds.fin g0 (.inl TE);exact⟨_,_,one (zero n_ (aAL h TE.1 o_ TE.2)),a1,a2,g0.le⟩
end
end
section
variable{Bs:aa}{j L R V T v1 v2 u2:Nat}
theorem HF{L R S t:Nat}(ht:t<L)(h:i<=t):(aj (dc base L i S R))[t]?=some (aR (R/base^t%base)):=kV (CL ht h)
theorem Kf{L R S:Nat}(hi:i<L)(hd:d=S/base^i%base):e9 prog 179 (aj (dc base L i S R)) i (aR d)=some (aj (dc base L (i+1) S R)):=by rw[y7 _ i _ (by simp[aj,xb];omega),y8,y0 hi hd]
def gh(j m R V q:Nat):Nat:=gn base j R (gg base m (R/base^j) V q)
def Da(j m R V q i:Nat):aN:=
 [(83,vI i),(82,vI m),(81,sl 1 m),(7,qz q),(9,qz (oe base q V i)),(10,aR (oY base (R/base^j) V q i)),(5,vI m),(0,us j m),(1,sl 1 m)]
def Bm(j m L R V q i:Nat):aH:=[(0,.row (aj (dc base L (j+i) (gh j m R V q) R)) 179 1),(1,.view (aj (ae base m V)))]
section
variable{e q:Nat}(h:DG j e L R V T v1 v2 u2)(hq:q<base)(qi:q*V<R/base^j+V)
include h hq qi
omit hq in
theorem DG.qle:q*V<=R/base^j+base^(e+3):=by have h1:V<=base^(e+3):=di (jV h.hV) (df d_ o_);omega
omit hq in
theorem DG.sub(hi:i<=e+2):aB prog 219 [aR (R/base^j/base^i%base),aR ((oe base q V i+q*(V/base^i%base))%base),aR (oY base (R/base^j) V q i)]
  (.tuple #[aR (gh j (e+2) R V q/base^(j+i)%base),aR (oY base (R/base^j) V q (i+1))]):=by
 have hb:oY base (R/base^j) V q i<=1:=Nu _ _ _;have:=ZR (x:=R/base^j/base^i%base) (y:=(oe base q V i+q*(V/base^i%base))%base) (b:=oY base (R/base^j) V q i) (cJ _ d_) (cJ _ d_) hb;rw[aJF d_ (h.qle qi) hi,aJG d_]at this;unfold gh;rw[xq d_];exact this
theorem aJV(hi:i<e+2):
  af prog Bs 159 (aF (ag f224 2)) (Da j (e+2) R V q i) (Bm j (e+2) L R V q i) 2 ⟨.normal,Da j (e+2) R V q (i+1),Bm j (e+2) L R V q (i+1),2⟩:=by
 have hL:=h.hL;have h63:=h.h63;have xg:=h.sub qi (show i<=e+2 by omega);have hc:=aAu (B:=base) d_ hq V i;have tD:=aJA (B:=base) d_ q V i;have hv:V/base^i%base<base:=cJ _ d_;have bT:e9 prog 179 (aj (dc base L (j+i) (gh j (e+2) R V q) R)) (j+i) (aR (gh j (e+2) R V q/base^(j+i)%base))=some (aj (dc base L (j+(i+1)) (gh j (e+2) R V q) R)):=Kf o_ rfl;have TF:=DG.vd (V:=V) hi;have TG:(aj (dc base L (j+i) (gh j (e+2) R V q) R))[j+i]?=some (aR (R/base^j/base^i%base)):=by rw[<-HA];exact HF o_ (bA _)
 generalize R/base^j/base^i%base=x at *;generalize V/base^i%base=y at *;generalize hC:oe base q V i=C at *;have hp:q*y<18446744069414584321:=by have h1:q*y<=(base-1)*(base-1):=xi o_ o_;exact eV h1 d_
 have hs:C+q*y<18446744073709551616:=by unfold base at hc;omega
 have e1:Da j (e+2) R V q i=[(83,vI i),(82,vI (e+2)),(81,sl 1 (e+2)),(7,qz q),(9,qz C),(10,aR (oY base (R/base^j) V q i)),(5,vI (e+2)),(0,us j (e+2)),(1,sl 1 (e+2))]:=by unfold Da;rw[hC]
 rw[e1];generalize hP:q*y=W at *;exact aC [.lt 84 i (e+2) true (by simp[hi]),.ix f224 86 1 (e+2) i hi k_,.ld f224 87 179 1 i (.view (aj (ae base (e+2) V))) (aR y) rfl (by rw[fV];exact TF) k_,.wr 91 .u64 (y:Int) (y:Int) (rl (lO hv d_)),.wr 92 .u64 ((q:Int)*(y:Int)) (W:Int) (by rw[<-nY,hP];exact rl o_),.wr 93 .u64 ((C:Int)+(W:Int)) ((C+W:Nat):Int) (by rw[<-vM];exact rl hs),.w7 f224 99 0 j (e+3) j i o_ k_,.ld f224 100 179 0 (j+i) (.row (aj (dc base L (j+i) (gh j (e+2) R V q) R)) 179 1) (aR x) rfl (by rw[fV];exact TG) k_,.wr 102 .u32 ((C+W:Nat):Int) (((C+W)%base:Nat):Int) (by rw[nG];unfold base;omega),xg.at 104,.w7 f224 107 0 j (e+3) j i o_ k_,.st f224 100107 179 0 (j+i) (.row (aj (dc base L (j+i) (gh j (e+2) R V q) R)) 179 1) (aR (gh j (e+2) R V q/base^(j+i)%base)) (.row (aj (dc base L (j+(i+1)) (gh j (e+2) R V q) R)) 179 1) rfl bT rfl k_,.quo 109 .u64 (((C+W:Nat):Int).fdiv ((2:Int)^32)) ((oe base q V (i+1):Nat):Int) (by rw[sB _ d_,<-tD];unfold base;omega),.sum 110 i 1 (i+1) rfl o_]
omit h hq qi in
theorem aJW:Bm j (e+2) L R V q 0=hY L R (e+2) V:=by unfold Bm hY gh;rw[jd,N0 d_]
theorem aJX:af prog Bs 159 (.block 2 (ag f224 2)) (Da j (e+2) R V q 0) (hY L R (e+2) V) 2 ⟨.normal,Da j (e+2) R V q (e+2),Bm j (e+2) L R V q (e+2),2⟩:=by
 rw[<-aJW (q:=q)];exact bO (id:=2) (ch (b:=aF (ag f224 2)) (r:=⟨.exit 2,Da j (e+2) R V q (e+2),Bm j (e+2) L R V q (e+2),2⟩) (e+2) (Da j (e+2) R V q) (Bm j (e+2) L R V q) (λi t _=>j6 (l:=Bm j (e+2) L R V q i) (m:=Bm j (e+2) L R V q 0) rfl t)
  (λi hi=>aJV h hq qi hi) (aC [.lt 84 (e+2) (e+2) false s_]) n_)
end
def nI(j m R V q:Nat):Nat:=gn base j R ((gg base m (R/base^j) V q+V)%base^(m+1))
def HG(j m R V q i:Nat):aN:=
 [(131,vI i),(130,vI m),(129,sl 1 m),(13,aR (eZ base (gg base m (R/base^j) V q) V i)),(7,qz (q-1)),(5,vI m),(0,us j m),(1,sl 1 m)]
def Bn(j m L R V q i:Nat):aH:=[(0,.row (aj (dc base L (j+i) (nI j m R V q) (gh j m R V q))) 179 1),(1,.view (aj (ae base m V)))]
section
variable{e q:Nat}(h:DG j e L R V T v1 v2 u2)
include h
theorem aJY(hi:i<e+2):
  af prog Bs 159 (aF (ag f224 4)) (HG j (e+2) R V q i) (Bn j (e+2) L R V q i) 2 ⟨.normal,HG j (e+2) R V q (i+1),Bn j (e+2) L R V q (i+1),2⟩:=by
 have hL:=h.hL;have h63:=h.h63;have hc:=A3 (B:=base) d_ (gg base (e+2) (R/base^j) V q) V i;have zf:=JY (x:=gg base (e+2) (R/base^j) V q/base^i%base) (y:=V/base^i%base) (c:=eZ base (gg base (e+2) (R/base^j) V q) V i) (cJ _ d_) (cJ _ d_) (eV hc d_);rw[Ts d_ (show i<=e+2 by omega),E4 d_]at zf;have bT:e9 prog 179 (aj (dc base L (j+i) (nI j (e+2) R V q) (gh j (e+2) R V q))) (j+i) (aR ((gg base (e+2) (R/base^j) V q+V)%base^(e+2+1)/base^i%base))=some (aj (dc base L (j+(i+1)) (nI j (e+2) R V q) (gh j (e+2) R V q))):=
  Kf o_ (by unfold nI;rw[xq d_])
 have TF:=DG.vd (V:=V) hi;have TG:(aj (dc base L (j+i) (nI j (e+2) R V q) (gh j (e+2) R V q)))[j+i]?=some (aR (gg base (e+2) (R/base^j) V q/base^i%base)):=by have:=HF (L:=L) (i:=j+i) (R:=gh j (e+2) R V q) (S:=nI j (e+2) R V q) (t:=j+i) o_ (bA _);rw[this];unfold gh;rw[xq d_]
 exact aC [.lt 132 i (e+2) true (by simp[hi]),.ix f224 134 1 (e+2) i hi k_,.ld f224 135 179 1 i (.view (aj (ae base (e+2) V))) (aR (V/base^i%base)) rfl (by rw[fV];exact TF) k_,.w7 f224 141 0 j (e+3) j i o_ k_,.ld f224 142 179 0 (j+i) (.row (aj (dc base L (j+i) (nI j (e+2) R V q) (gh j (e+2) R V q))) 179 1) (aR (gg base (e+2) (R/base^j) V q/base^i%base)) rfl (by rw[fV];exact TG) k_,zf.at 145,.w7 f224 148 0 j (e+3) j i o_ k_,.st f224 100148 179 0 (j+i) (.row (aj (dc base L (j+i) (nI j (e+2) R V q) (gh j (e+2) R V q))) 179 1) (aR ((gg base (e+2) (R/base^j) V q+V)%base^(e+2+1)/base^i%base)) (.row (aj (dc base L (j+(i+1)) (nI j (e+2) R V q) (gh j (e+2) R V q))) 179 1) rfl bT rfl k_,.sum 149 i 1 (i+1) rfl o_]
omit h in
theorem aJZ:Bn j (e+2) L R V q 0=hY L (gh j (e+2) R V q) (e+2) V:=by unfold Bn hY nI;rw[jd,<-aAv (B:=base) d_ j R (gg base (e+2) (R/base^j) V q)];unfold gh;rw[N0 d_]
theorem aJ0:af prog Bs 159 (.block 4 (ag f224 4)) (HG j (e+2) R V q 0) (hY L (gh j (e+2) R V q) (e+2) V) 2 ⟨.normal,HG j (e+2) R V q (e+2),Bn j (e+2) L R V q (e+2),2⟩:=by
 rw[<-aJZ (q:=q)];exact bO (id:=4) (ch (b:=aF (ag f224 4)) (r:=⟨.exit 4,HG j (e+2) R V q (e+2),Bn j (e+2) L R V q (e+2),2⟩) (e+2) (HG j (e+2) R V q) (Bn j (e+2) L R V q) (λi t _=>j6 (l:=Bn j (e+2) L R V q i) (m:=Bn j (e+2) L R V q 0) rfl t)
  (λi hi=>aJY h hi) (aC [.lt 132 (e+2) (e+2) false s_]) n_)
end
noncomputable def aAN{r:Nat}(h:DG j e L R V T v1 v2 u2)(hq:q<base)(qi:q*V<R/base^j+V)
  (hg:af prog Bs 159 (.block 0 (ag f224 0)) (kW j (e+2) (T/v1) (T%v1)) (hY L R (e+2) V) 2 ⟨.normal,kW j (e+2) q r,hY L R (e+2) V,2⟩) (more:bL prog Bs 159):bL prog Bs 159:=
 have hL:=h.hL;have h63:=h.h63;have hx:R/base^j/base^(e+2)%base<base:=cJ _ d_;have hy:R/base^j/base^(e+1)%base<base:=cJ _ d_;have kN:v1<base:=h.ds.C6;have Fp:(v1:Int)≠0:=by have:=h.ds.top;unfold base at this;omega
 have hT:T<18446744073709551616:=by
  rw[<-h.aAK];have:R/base^j/base^(e+2)%base*base<=(base-1)*base:=eh _ o_;have e3:(base-1)*base=18446744069414584320:=by decide
  rw[e3]at this;clear e3;unfold base at *;omega
 have hc:=aAu (B:=base) d_ hq V (e+2);have h0:V/base^(e+2)%base=0:=rf h.hV (bA _) d_;have xg:=h.sub qi (bA (e+2))
 have aJ1:aB prog 219 [aR (R/base^j/base^(e+2)%base),aR (oe base q V (e+2)),aR (oY base (R/base^j) V q (e+2))]
   (.tuple #[aR (gh j (e+2) R V q/base^(j+(e+2))%base),aR (oY base (R/base^j) V q (e+3))]):=by
  rw[h0,Nat.mul_zero,jd (oe base q V (e+2)),dU hc]at xg;exact xg
 have iI:(aj (dc base L (j+(e+2)) (gh j (e+2) R V q) R))[j+(e+2)]?=some (aR (R/base^j/base^(e+2)%base)):=by rw[<-HA];exact HF o_ (bA _)
 have bT:e9 prog 179 (aj (dc base L (j+(e+2)) (gh j (e+2) R V q) R)) (j+(e+2)) (aR (gh j (e+2) R V q/base^(j+(e+2))%base))=some (aj (ae base L (gh j (e+2) R V q))):=by
  rw[Kf o_ rfl,show j+(e+2)+1=j+(e+3)by omega,Fo d_]
  ·have:=h.hR;have h2:=Hz (B:=base) d_ (j:=j) R this;rw[aJB]at h2;exact h2
  ·exact Hz d_ R (Tq d_);
 .w7 f224 20 0 j (e+3) j (e+2) o_ k_::.ld f224 21 179 0 (j+(e+2)) (.row (aj (ae base L R)) 179 1) (aR (R/base^j/base^(e+2)%base)) rfl (by rw[fV];exact h.ud (bA _)) k_::
 .wr 22 .u64 ((R/base^j/base^(e+2)%base:Nat):Int) ((R/base^j/base^(e+2)%base:Nat):Int) (rl (lO hx d_))::
 .wr 23 .u64 (((R/base^j/base^(e+2)%base:Nat):Int)*2^32) ((R/base^j/base^(e+2)%base*base:Nat):Int) (Tz hx)::.fh 26 (e+2) 1 (e+1) rfl o_::
 .w7 f224 27 0 j (e+3) j (e+1) o_ k_::.ld f224 28 179 0 (j+(e+1)) (.row (aj (ae base L R)) 179 1) (aR (R/base^j/base^(e+1)%base)) rfl (by rw[fV];exact h.ud o_) k_::
 .wr 29 .u64 ((R/base^j/base^(e+1)%base:Nat):Int) ((R/base^j/base^(e+1)%base:Nat):Int) (rl (lO hy d_))::.quo 30 .u64 _ ((T:Nat):Int) ((TA hx hy).trans (by rw[h.aAK]))::
 .fh 34 (e+2) 1 (e+1) rfl o_::.ix f224 35 1 (e+2) (e+1) o_ k_::.ld f224 36 179 1 (e+1) (.view (aj (ae base (e+2) V))) (aR v1) rfl (by rw[fV,<-h.TB];exact DG.vd o_) k_::
 .wr 37 .u64 (v1:Int) (v1:Int) (rl (lO kN d_))::.vK f224 38 .u64 (T:Int) v1 ((T/v1:Nat):Int) Fp (by rw[A8 o_,<-tO];exact rl (eV (tP _ _) hT)) k_::
 .fh 42 (e+2) 1 (e+1) rfl o_::.ix f224 43 1 (e+2) (e+1) o_ k_::.ld f224 44 179 1 (e+1) (.view (aj (ae base (e+2) V))) (aR v1) rfl (by rw[fV,<-h.TB];exact DG.vd o_) k_::
 .wr 45 .u64 (v1:Int) (v1:Int) (rl (lO kN d_))::.E9 f224 46 .u64 (T:Int) v1 ((T%v1:Nat):Int) Fp (by rw[zk o_];rfl) k_::
 .code 0 _ _ _ _ _ hg::.rw 9 (.int .u64 0) (qz (oe base q V 0)) (by rw[aJz];rfl)::.rw 10 (.int .u32 0) (aR (oY base (R/base^j) V q 0)) (by unfold oY;rw[SO];rfl)::
 .code 2 _ _ _ _ _ (aJX h hq qi)::.w7 f224 116 0 j (e+3) j (e+2) o_ k_::.ld f224 117 179 0 (j+(e+2)) (.row (aj (dc base L (j+(e+2)) (gh j (e+2) R V q) R)) 179 1) (aR (R/base^j/base^(e+2)%base)) rfl (by rw[fV];exact iI) k_::
 .wr 119 .u32 ((oe base q V (e+2):Nat):Int) ((oe base q V (e+2):Nat):Int) (by rw[nG];unfold base at hc ⊢;omega)::aJ1.at 121::.w7 f224 124 0 j (e+3) j (e+2) o_ k_::
 .st f224 100124 179 0 (j+(e+2)) (.row (aj (dc base L (j+(e+2)) (gh j (e+2) R V q) R)) 179 1) (aR (gh j (e+2) R V q/base^(j+(e+2))%base)) (.row (aj (ae base L (gh j (e+2) R V q))) 179 1) rfl bT rfl k_::more
theorem aJ2{g c':Nat}{vv:i_}(h:DG j e L R V T v1 v2 u2)(hg:w.heap[g]?=some (.cells cur 179 (0,0)))(hn:e+3<=c')(mL:j+c'=cap)(jP:cap<=maxLen)(bC:cur.size=cap*1)
  (hc:cur.toList.take (aj (ae base L R)).length=aj (ae base L R)) (hv:dp w vv (e+2) (aj (ae base (e+2) V))) (bj:∀ b o c,vv=.slice (some ⟨b,o,none⟩) (e+2) c->b≠g) :
  Calls prog 224 #[.slice (some ⟨g,j,none⟩) (e+3) c',vv] w λex w'=>ex=.returned (aR (R/base^j/V))/\A4 g w w'/\∃ fX,w'.heap[g]?=some (.cells fX 179 (0,0))/\fX.size=cap*1/\
   fX.toList.take (aj (ae base L (gn base j R (R/base^j%V)))).length=aj (ae base L (gn base j R (R/base^j%V))):=by
 obtain⟨q,r,HH,hq,qi,hle⟩:=aJU (Bs:=aa.vJ w g) h;have hU:=h.ds.hU;have lp:=aJI (B:=base) d_ hq h.hV hU;have hL:=h.hL;have h63:=h.h63;have aVP:q<18446744073709551616:=lO hq d_;have key:∀(qq:Nat) (S:Nat) (rs:bL prog (aa.vJ w g) 159),qq=R/base^j/V->S=gn base j R (R/base^j%V)->
   oQ (gO (P:=prog) f224 100 (us j (e+2)::sn 1 [cz.row vv (e+2) (aj (ae base (e+2) V))]) ((0,.row (aj (ae base L R)) 179 1)::uP 1 [cz.row vv (e+2) (aj (ae base (e+2) V))]) (tJ 1 [cz.row vv (e+2) (aj (ae base (e+2) V))]) rs) [(0,.row (aj (ae base L S)) 179 1)] =
    oR (gO f224 100 (us j (e+2)::sn 1 [cz.row vv (e+2) (aj (ae base (e+2) V))]) ((0,.row (aj (ae base L R)) 179 1)::uP 1 [cz.row vv (e+2) (aj (ae base (e+2) V))]) (tJ 1 [cz.row vv (e+2) (aj (ae base (e+2) V))]) rs) (aR qq) [(0,.row (aj (ae base L S)) 179 1)]->
   Calls prog 224 #[.slice (some ⟨g,j,none⟩) (e+3) c',vv] w λex w'=>ex=.returned (aR (R/base^j/V))/\A4 g w w'/\∃ fX,w'.heap[g]?=some (.cells fX 179 (0,0))/\fX.size=cap*1/\
    fX.toList.take (aj (ae base L (gn base j R (R/base^j%V)))).length=aj (ae base L (gn base j R (R/base^j%V))):=by
  rintro qq S rs rfl rfl ES
  exact aJp (ms:=[]) (cells':=aj (ae base L (gn base j R (R/base^j%V)))) (v:=aR (R/base^j/V)) mixed func224 hg jP bC hc (fG _) (fG _) hn mL [cz.row vv (e+2) (aj (ae base (e+2) V))]
   (λs hs=>by simp at hs;subst hs;exact⟨hv,fG _⟩) (λs hs=>by simp at hs;subst hs;exact bj) 100 (N:=159) k_ ES λay Tn v' w' _ km h1 h2 _ _=>⟨by rw[km.fk rfl],h1,h2⟩
 by_cases hb:R/base^j<q*V
 ·rw[ax hb]at lp;obtain⟨e1,e2⟩:=aAy (B:=base) (m:=e+2) d_ h.hV hU qi hb;have e3:nI j (e+2) R V q=gn base j R (R/base^j%V):=by unfold nI;rw[e2]
  have h0:V/base^(e+2)%base=0:=rf h.hV (bA _) d_;have Kg:=Ts (B:=base) (m:=e+2) (V:=V) (D:=gg base (e+2) (R/base^j) V q) d_ (bA (e+2));rw[h0,jd (gg base (e+2) (R/base^j) V q/base^(e+2)%base)]at Kg;have iI:(aj (dc base L (j+(e+2)) (nI j (e+2) R V q) (gh j (e+2) R V q)))[j+(e+2)]?=some (aR (gg base (e+2) (R/base^j) V q/base^(e+2)%base)):=by have:=HF (L:=L) (i:=j+(e+2)) (R:=gh j (e+2) R V q) (S:=nI j (e+2) R V q) (t:=j+(e+2)) o_ (bA _);rw[this];unfold gh;rw[xq d_]
  have bT:e9 prog 179 (aj (dc base L (j+(e+2)) (nI j (e+2) R V q) (gh j (e+2) R V q))) (j+(e+2)) (aR ((gg base (e+2) (R/base^j) V q+V)%base^(e+2+1)/base^(e+2)%base))=some (aj (ae base L (nI j (e+2) R V q))):=by
   rw[Kf o_ (by unfold nI;rw[xq d_]),show j+(e+2)+1=j+(e+3)by omega,Fo d_]
   ·exact Hz d_ R (Tq d_)
   ·exact Hz d_ R (cJ _ (cI d_))
  have hd:gg base (e+2) (R/base^j) V q/base^(e+2)%base<base:=cJ _ d_;have gw:=A3 (B:=base) d_ (gg base (e+2) (R/base^j) V q) V (e+2);have hbk:=aJ0 (Bs:=aa.vJ w g) (q:=q) h;have Bo:q-1=R/base^j/V:=by rw[e1,NZ]
  have pI:0<q:=by rw[e1];exact TH _
  refine key (q-1) (nI j (e+2) R V q) (aAN h hq qi HH [.rw 126 (.bool (((oY base (R/base^j) V q (e+3):Nat):Int)!=0)) b_ (by rw[show e+3=e+2+1 from rfl,lp];rfl),.wr 128 .u64 ((q:Int)-1) ((q-1:Nat):Int) (by rw[j9];omega),.rw 13 (.int .u32 0) (aR (eZ base (gg base (e+2) (R/base^j) V q) V 0)) (by rw[Nt];rfl),.code 4 _ _ _ _ _ hbk,.w7 f224 152 0 j (e+3) j (e+2) o_ k_,.ld f224 153 179 0 (j+(e+2)) (.row (aj (dc base L (j+(e+2)) (nI j (e+2) R V q) (gh j (e+2) R V q))) 179 1) (aR (gg base (e+2) (R/base^j) V q/base^(e+2)%base)) rfl (by rw[fV];exact iI) k_,.wr 155 .u32 (((gg base (e+2) (R/base^j) V q/base^(e+2)%base:Nat):Int)+((eZ base (gg base (e+2) (R/base^j) V q) V (e+2):Nat):Int)) (((gg base (e+2) (R/base^j) V q+V)%base^(e+2+1)/base^(e+2)%base:Nat):Int)
    (by rw[<-Kg,<-vM,nG];unfold base;omega),.w7 f224 156 0 j (e+3) j (e+2) o_ k_,
   .st f224 100156 179 0 (j+(e+2)) (.row (aj (dc base L (j+(e+2)) (nI j (e+2) R V q) (gh j (e+2) R V q))) 179 1) (aR ((gg base (e+2) (R/base^j) V q+V)%base^(e+2+1)/base^(e+2)%base)) (.row (aj (ae base L (nI j (e+2) R V q))) 179 1) rfl bT rfl k_,
   .wr 158 .u32 ((q-1:Nat):Int) ((q-1:Nat):Int) (by rw[nG];unfold base at hq;omega)]) Bo e3 k_
 ·rw[ao hb]at lp;obtain⟨e1,e2⟩:=aAx (B:=base) (m:=e+2) d_ h.hV hU hle hb;have e3:gh j (e+2) R V q=gn base j R (R/base^j%V):=by unfold gh;rw[e2]
  exact key q (gh j (e+2) R V q) (aAN h hq qi HH [.rw 126 (.bool (((oY base (R/base^j) V q (e+3):Nat):Int)!=0)) a_ (by rw[show e+3=e+2+1 from rfl,lp];rfl),.wr 158 .u32 (q:Int) (q:Int) (by rw[nG];unfold base at hq;omega)]) e1 e3 k_
end
section
variable{Bs:aa}{N:Nat}
theorem N6{y:m_}(ho:dC o.op=some y){n M:Nat}{x:Obj}(hx:x.reads=true)(hc:x.cells=aj (ae base M a))(hnM:n<=M)(ha:a<base^n)(h63:n<=9223372036854775807)(hd:nd base a=d):
  cA prog Bs o [.func (.func 199) #[] #[],sl k n] [(k,some x)] (sl k d) []:=by
 subst hd;refine j7 (fi:=[]) (ca:=[]) ho k_ λι c w hm hn args' dK=>?_;obtain⟨v,rfl,h1⟩:=nB dK;have hk:c k=some x:=hn _ (aP ..);have hr:=oS (len:=n) hm hk hx (by rw[hc];exact fG _) (λh=>h) h1;have e:(aj (ae base M a)).take n=aj (ae base n a):=by unfold aj;rw[<-CI,JS hnM]
 rw[hc,mg,e]at hr;refine(ZK hr ha h63).mono ?_
 rintro e w' ⟨rfl,hb⟩
 refine⟨ι,_,rfl,Map.le.refl _,?_,hm.call hb⟩;have jK:=jv (B:=base) d_ ha;rcases h1.hZ rfl with ⟨q1,q2,_,_,q5⟩|⟨b,oo,cap,c',q1,q2,q3,q5⟩
 ·rw[q5];have:nd base a=0:=by omega
  rw[this];exact .slcN q1
 ·rw[q5];exact .slc q1 o_ q3
theorem aAO{y:m_}(ho:dC o.op=some y){n:Nat}(hx:qx x1 a)(hk:k<=31)(h1:nd base a<35184372088832)(oN:nd base a=n)(kn:Nat):
  cA prog Bs o [.func (.func 223) #[] #[],sl k1 n,vI k] [(k1,some x1),(kn,none)] (sl kn (n+1)) [(kn,.row (aj (ae base (n+1) (a*2^k))) 179 1)]:=by
 subst oN;refine j7 (fi:=[]) (ca:=[]) ho k_ λι cc w hm hn args' aY=>?_;rw[jG,jh]at aY;obtain⟨va,vb,rfl,hv,iF⟩:=js aY;rw[iF.fk rfl];refine(aJN (Bi hm (hn _ (aP ..)) hx hv) hk h1).mono ?_
 rintro e w' ⟨v,rfl,h1,h2⟩
 obtain⟨ay,q1,q2,q3⟩:=E2 hm h2 (k:=kn) (hn _ (bH _ (aP ..))) h1 (fG _);exact⟨ay,v,rfl,q1,q3,q2⟩
def aU.part(fn:Func)(key k n l h s m off:Nat)(yM:l*s=off)(hh:h<=n)(hm:l+m=h)(h0:0<m)(ho:su P (aA fn key)=some (true,true,s)):aU P B N:=
 .step key (aA fn key) [sl k n,vI l,vI h] [] (.slice (some ⟨k,off,some 7⟩) m l) [] (by
  subst yM;have:=Hd (B:=B) ho (k:=k) (off:=0) (n:=n) (cc:=0) (l:=l) (h:=h) n_ n_ o_ hh (.inl o_);have e1:h-l=m:=by omega
  rw[e1,ko,ko]at this;exact this)
end
structure DV(e L A V:Nat):Prop where
 hV:V<base^(e+2)
 top:base<=2*(V/base^(e+1))
 hL:e+2+1<=L
 hA:A<V*base^(L-(e+2))
 h63:L<35184372088832
theorem DV.pos{L V:Nat}(h:DV e L A V):0<V:=by
 rcases nF V with e1|e1
 ·have:=h.hA;rw[e1,kS]at this;omega
 ·exact e1
theorem DV.dg{L V:Nat}(h:DV e L A V)(hj:j+(e+2)+1<=L):
  DG j e L (A%(V*base^(j+1))) V (A%(V*base^(j+1))/base^j/base^(e+1)) (V/base^(e+1)) (V/base^e%base) (A%(V*base^(j+1))/base^j/base^e%base) where
 ds:={ hB:=by decide,hU:=aAB d_ h.pos A j,hT:=rfl,hu:=rfl,kN:=rfl,iF:=rfl,top:=h.top,C6:=by have:=h.hV;rw[iG (cI d_),cP,<-dD];exact this }
 hL:=hj
 hV:=h.hV
 h63:=h.h63
section
variable{Bs:aa}{e L A V M:Nat}
def HI(e L p j:Nat):aN:=[(13,du j),(12,sl 4 p),(10,sl 3 L),(9,sl 2 (e+2)),(11,vI (e+2))]
def Bp(L A V M p j:Nat):aH:=[(3,.row (aj (ae base L (A%(V*base^j)))) 179 1),(4,.row (aj (gF base p j (A/V))) 179 1),(2,.row (aj (ae base M V)) 179 1)]
theorem aJ3(h:DV e L A V)(hM:e+2<=M){p:Nat}(hp:p+(e+2)=L)(hj:j<p):
  af prog Bs 110 (aF (ag f197 0)) (HI e L p (j+1)) (Bp L A V M p (j+1)) 5 ⟨.normal,HI e L p j,Bp L A V M p j,5⟩:=by
 have h63:=h.h63;have hdg:=h.dg (j:=j) o_;have hr:=aAz (B:=base) d_ A V j;have hq:=aAA (B:=base) A V j;have bT:e9 prog 179 (aj (gF base p (j+1) (A/V))) j (aR (A/V/base^j%base))=some (aj (gF base p j (A/V))):=by rw[y7 _ _ _ (by simp[aj,Ny];exact hj),y8,NA hj rfl]
 have Db:(aj (ae base M V)).take (e+2)=aj (ae base (e+2) V):=by unfold aj;rw[<-CI,JS hM]
 have hw:cA prog Bs (aA f197 76) [.func (.func 224) #[] #[],.slice (some ⟨3,j,some 7⟩) (e+3) j,sl 2 (e+2)] [(3,some (.row (aj (ae base L (A%(V*base^(j+1))))) 179 1)),(2,some (.row (aj (ae base M V)) 179 1))]
   (aR (A/V/base^j%base)) [(3,.row (aj (ae base L (A%(V*base^j)))) 179 1)]:=by
  refine aJr (x:=.func 224) (To:=e+2) k_ k_ d_ o_ (fG _) (fG _) rfl rfl (fG _) o_ λw g cap cur c' v2 hg lJ mL jP bC hc hv bj=>?_;have hv:dp w v2 (e+2) ((aj (ae base M V)).take (e+2)):=hv;rw[Db]at hv;have:=aJ2 hdg hg lJ mL jP bC hc hv bj;rw[hq,hr]at this;exact this
 exact aC [.rw 62 (du (j+1)) (vI j) (ew j),.ge 63 j 0 true s_,.rw 67 (du (j+1)) (vI j) (ew j),.rw 69 (du (j+1)) (vI j) (ew j),.rw 70 (du (j+1)) (vI j) (ew j),.sum 72 j (e+2) (j+(e+2)) rfl o_,.sum 73 (j+(e+2)) 1 (j+(e+3)) rfl o_,.part f197 74 3 L j (j+(e+3)) 1 (e+3) j (gC j) o_ rfl o_ k_,.step 76 _ _ _ _ _ hw,.ix f197 77 4 p j hj k_,.st f197 100077 179 4 j (.row (aj (gF base p (j+1) (A/V))) 179 1) (aR (A/V/base^j%base)) (.row (aj (gF base p j (A/V))) 179 1) rfl bT rfl k_,.rw 64 (du (j+1)) (vI j) (ew j),.wr 65 .i64 ((j:Int)-1) ((j:Int)-1) (oW o_)]
theorem aJ4(h:DV e L A V)(hM:e+2<=M){p:Nat}(hp:p+(e+2)=L):
  af prog Bs 110 (.block 0 (ag f197 0)) (HI e L p p) (Bp L A V M p p) 5 ⟨.normal,HI e L p 0,Bp L A V M p 0,5⟩:=by
 have:=ch (P:=prog) (B:=Bs) (N:=110) (b:=aF (ag f197 0)) (next:=5) (r:=⟨.exit 0,HI e L p 0,Bp L A V M p 0,5⟩) p (λi=>HI e L p (p-i)) (λi=>Bp L A V M p (p-i)) (λi t _=>j6 (l:=Bp L A V M p (p-i)) (m:=Bp L A V M p (p-0)) rfl t)
  (λi hi=>by
   have e1:p-i=(p-(i+1))+1:=by omega
   simp only[e1];exact aJ3 h hM hp o_)
  (by simp only[vL];exact aC [.rw 63 (.bool (decide (((0:Nat):Int)-1>=0))) a_ rfl]) n_
 exact bO (id:=0) this
section
variable{m X k p:Nat}
def HJ(m L k i:Nat):aN:=[(83,vI i),(82,vI m),(14,sl 3 m),(10,sl 3 L),(8,vI k)]
def zt(L X k i:Nat):aH:=[(3,.row (aj (dc base L i (X/2^k) X)) 179 1)]
theorem aJ5(hi:i<m)(hmL:m+1<=L)(hk:k<=31)(h63:L<35184372088832):
  af prog Bs 110 (aF (ag f197 2)) (HJ m L k i) (zt L X k i) 5 ⟨.normal,HJ m L k (i+1),zt L X k (i+1),5⟩:=by
 have vB:(aj (dc base L i (X/2^k) X))[i+1]?=some (aR (X/base^(i+1)%base)):=HF o_ o_;have tC:(aj (dc base L i (X/2^k) X))[i]?=some (aR (X/base^i%base)):=HF o_ o_;have hd:=aAC (B:=base) (k:=k) (X:=X) (i:=i) d_ ⟨2^(32-k),by rw[<-eP,show k+(32-k)=32 by omega]⟩;have bT:e9 prog 179 (aj (dc base L i (X/2^k) X)) i (aR (X/2^k/base^i%base))=some (aj (dc base L (i+1) (X/2^k) X)):=Kf o_ rfl;have hx:X/base^(i+1)%base<base:=cJ _ d_;have hy:X/base^i%base<base:=cJ _ d_;generalize X/base^(i+1)%base=x at *;generalize X/base^i%base=y at *;have hb:(x*base+y)/2^k<18446744073709551616:=eV (tP _ _) (by unfold base at *;omega);have lj:=TA hx hy;have hs:((x*base+y:Nat):Int).fdiv (2^(min k IntKind.u64.bits))=(((x*base+y)/2^k:Nat):Int):=by rw[show min k IntKind.u64.bits=k from nZ (by show k<=64;omega),sB _ (Hw d_),tO,Hx];rfl
 generalize (x*base+y)/2^k=z at *;exact aC [.lt 84 i m true (by simp[hi]),.sum 90 i 1 (i+1) rfl o_,.ix f197 91 3 L (i+1) o_ k_,.ld f197 92 179 3 (i+1) (.row (aj (dc base L i (X/2^k) X)) 179 1) (aR x) rfl (by rw[fV];exact vB) k_,.wr 93 .u64 (x:Int) (x:Int) (rl (lO hx d_)),.wr 94 .u64 ((x:Int)*2^32) ((x*base:Nat):Int) (Tz hx),.ix f197 97 3 L i o_ k_,.ld f197 98 179 3 i (.row (aj (dc base L i (X/2^k) X)) 179 1) (aR y) rfl (by rw[fV];exact tC) k_,.wr 99 .u64 (y:Int) (y:Int) (rl (lO hy d_)),.quo 100 .u64 _ ((x*base+y:Nat):Int) lj,.shr f197 102 .u64 ((x*base+y:Nat):Int) (z:Int) k hs k_,.wr 103 .u32 (z:Int) ((X/2^k/base^i%base:Nat):Int) (by rw[nG,<-hd];unfold base;omega),.ix f197 104 3 m i hi k_,.st f197 100104 179 3 i (.row (aj (dc base L i (X/2^k) X)) 179 1) (aR (X/2^k/base^i%base)) (.row (aj (dc base L (i+1) (X/2^k) X)) 179 1) rfl bT rfl k_,.sum 105 i 1 (i+1) rfl o_]
theorem aJ6(hX:X<base^m)(hmL:m+1<=L)(hk:k<=31)(h63:L<35184372088832):
  af prog Bs 110 (.block 2 (ag f197 2)) (HJ m L k 0) [(3,.row (aj (ae base L X)) 179 1)] 5 ⟨.normal,HJ m L k m,[(3,.row (aj (ae base L (X/2^k))) 179 1)],5⟩:=by
 have e0:zt L X k 0=[(3,.row (aj (ae base L X)) 179 1)]:=by unfold zt dc ae;simp
 have e1:zt L X k m=[(3,.row (aj (ae base L (X/2^k))) 179 1)]:=by unfold zt;rw[Fo d_ hX (eV (tP _ _) hX)]
 rw[<-e0,<-e1];exact bO (id:=2) (ch (b:=aF (ag f197 2)) (r:=⟨.exit 2,HJ m L k m,zt L X k m,5⟩) m (HJ m L k) (zt L X k) (λi t _=>j6 (l:=zt L X k i) (m:=zt L X k 0) rfl t)
  (λi hi=>aJ5 hi hmL hk h63) (aC [.lt 84 m m false s_]) n_)
end
end
section
variable{Bs:aa}{N:Nat}
theorem aJ7{y:m_}(ho:dC o.op=some y){n:Nat}(hx:qx x1 a)(hd:0<d)(mT:d<base)(h1:nd base a<35184372088832)(oN:nd base a=n)(kn:Nat):
  cA prog Bs o [.func (.func 221) #[] #[],sl k1 n,aR d] [(k1,some x1),(kn,none)] (.tuple #[sl kn (nd base (a/d)),aR (a%d)]) [(kn,uU (a/d))]:=by
 subst oN;refine j7 (fi:=[]) (ca:=[]) ho k_ λι cc w hm hn args' aY=>?_;rw[jG,jh]at aY;obtain⟨va,vb,rfl,hv,iF⟩:=js aY;rw[iF.fk rfl];refine(aIW (Bi hm (hn _ (aP ..)) hx hv) hd mT h1).mono ?_
 rintro e w' ⟨v,rfl,h1,h2⟩
 obtain⟨ay,q1,q2,q3⟩:=E2 hm h2 (k:=kn) (hn _ (bH _ (aP ..))) h1 (fG _);exact⟨ay,_,rfl,q1,.tup (.cons q3 (.cons (.same rfl) .nil)),q2⟩
end
theorem aAP(h:a<base):ae base 1 a=[a]:=by simp[ae,dU h]
theorem TI{vb:i_}(gm:iH w va a)(ll:iH w vb b)(bZ:a<b)(h1:nd base a<35184372088832)(h2:nd base b<35184372088832):
  Calls prog 197 #[va,vb] w λe w'=>e=.returned (.tuple #[.slice none 0 0,va])/\Below w.heap.size w w':=by
 have hl:∀ s∈[cz.row va (nd base a) (aj (ae base (nd base a) a)),cz.row vb (nd base b) (aj (ae base (nd base b) b))],s.OK w:=by
  intro s hs;simp at hs;rcases hs with rfl|rfl
  ·exact⟨gm,fG _⟩
  ·exact⟨ll,fG _⟩
 have hc:qp a b<0:=by have:=@NN a b;omega
 refine lN (Q:=λe w'=>e=.returned (.tuple #[.slice none 0 0,va])/\Below w.heap.size w w') mixed func197 [cz.row va (nd base a) (aj (ae base (nd base a) a)),cz.row vb (nd base b) (aj (ae base (nd base b) b))] hl 100 (N:=110) k_
  (rs:=[(.step 18 (aA f197 18) _ _ _ _ (N2 (y:=.func 193) (k1:=0) (k2:=1) k_ k_ (xt a) (xt b) rfl λw va vb ha hb=>NO ha hb h1 h2):aU prog (aa.at w) 110),.rw 19 (.bool (decide (qp a b<0))) b_ (by rw[aE hc])])
  (v:=.tuple #[.slice none 0 0,sl 0 (nd base a)]) (ms:=[]) k_ λay b9 v' w' km bF _ dK=>⟨?_,bF.base⟩
 obtain⟨cQ,rfl,aY⟩:=km.uD;obtain⟨p,q,hp,h3,h4⟩:=js aY;cases dK with
 |cons h5 _=>
 have:q=va:=JM h4 h5;have e:cQ=#[p,q]:=vF.1 (by rw[hp]);rw[e,h3.fk rfl,this]
theorem TJ{vb:i_}(gm:iH w va a)(ll:iH w vb b)(bZ:b<=a)(kX:b≠0)(hb:b<base)(h1:nd base a<35184372088832):
  Calls prog 197 #[va,vb] w λe w'=>∃ vq vr,e=.returned (.tuple #[vq,vr])/\jT w w' vq (a/b)/\jT w w' vr (a%b)/\Below w.heap.size w w':=by
 have c7:nd base b=1:=by have h3:=jv (B:=base) (n:=1) d_ (by rw[Bb];exact hb);have h4:=w9 (B:=base) d_ kX;omega
 have Fq:dp w vb 1 (aj (ae base 1 b)):=by have:=ll;unfold iH at this;rw[c7]at this;exact this
 have hl:∀ s∈[cz.row va (nd base a) (aj (ae base (nd base a) a)),cz.row vb 1 (aj (ae base 1 b))],s.OK w:=by
  intro s hs;simp at hs;rcases hs with rfl|rfl
  ·exact⟨gm,fG _⟩
  ·exact⟨Fq,fG _⟩
 have hc:¬qp a b<0:=by have:=@NN a b;omega
 have uV:qx (.view (aj (ae base 1 b))) b:=by have:=xt b;rw[c7]at this;exact this
 have hr:a%b<base:=lO (cJ _ (tK kX)) hb;have TK:cA prog (aa.at w) (aA f197 18) [.func (.func 193) #[] #[],sl 0 (nd base a),sl 1 1] [(0,some (.view (aj (ae base (nd base a) a)))),(1,some (.view (aj (ae base 1 b))))] (.int .i64 (qp a b)) []:=by have:=N2 (Bs:=aa.at w) (o:=aA f197 18) (f:=193) (y:=.func 193) (k1:=0) (k2:=1) (res:=.int .i64 (qp a b)) k_ k_ (xt a) uV rfl λw va vb ha hb=>NO ha hb h1 o_;rw[c7]at this;exact this
 refine lN (Q:=λe w'=>∃ vq vr,e=.returned (.tuple #[vq,vr])/\jT w w' vq (a/b)/\jT w w' vr (a%b)/\Below w.heap.size w w') mixed func197 [cz.row va (nd base a) (aj (ae base (nd base a) a)),cz.row vb 1 (aj (ae base 1 b))] hl 100 (N:=110) k_
  (rs:=[(.step 18 (aA f197 18) _ _ _ _ TK:aU prog (aa.at w) 110),.rw 19 (.bool (decide (qp a b<0))) a_ (by rw[aO hc]),.ld f197 28 179 1 0 (.view (aj (ae base 1 b))) (aR b) rfl (by rw[fV,aAP hb];rfl) k_,.step 29 (aA f197 29) _ _ _ _ (aJ7 (y:=.func 221) (k1:=0) k_ (xt a) (tK kX) hb h1 rfl 2),.bs f197 34 3 1 179 1 [0] (aR 0) [aR (a%b)] #[aR (a%b)] (.row (aj (ae base 1 (a%b))) 179 1) (by rw[aAP hr];rfl) (λv hv=>by simp at hv;subst hv;rfl) (λv hv=>by simp at hv;subst hv;rfl) k_ rfl o_ o_ k_,.step 35 (aA f197 35) _ _ _ _ (N6 (y:=.func 199) (k:=3) (n:=1) (M:=1) (a:=a%b) (x:=.row (aj (ae base 1 (a%b))) 179 1) k_ rfl rfl (bA 1) (by rw[Bb];exact hr) o_ rfl)])
  (v:=.tuple #[sl 2 (nd base (a/b)),sl 3 (nd base (a%b))]) (ms:=[(2,uU (a/b)),(3,.row (aj (ae base 1 (a%b))) 179 1)]) k_ λay b9 v' w' km bF dQ _=>?_
 obtain⟨cQ,rfl,aY⟩:=km.uD;obtain⟨p,q,hp,h3,h4⟩:=js aY;have e:cQ=#[p,q]:=vF.1 (by rw[hp]);subst e;exact⟨p,q,rfl,xe bF (dQ _ (aP ..)) (ek d_ _) h3,xe bF (dQ _ (bH _ (aP ..))) (by rw[Bb];exact hr) h4,bF.base⟩
theorem norm(bZ:b<=a)(hb:nd base b=e+2)(h1:nd base a<35184372088831):
  ∃ k,k<=31/\32-bl (b/base^(e+1)%base)=k/\DV e (nd base a+1) (a*2^k) (b*2^k)/\nd base (b*2^k)=e+2/\b*2^k<base^(e+3):=by
 have ak:=ek (B:=base) d_ b;rw[hb]at ak;have fR:base^(e+1)<=b:=ZB d_ o_;have hp:0<base^(e+1):=cI d_;have hd:b/base^(e+1)%base=b/base^(e+1):=E3 ak;obtain⟨d,lR⟩:∃ d,d=b/base^(e+1):=⟨_,rfl⟩;have mT:d<base:=by rw[lR,<-hd];exact cJ _ d_
 have Dc:d≠0:=by have:=N3 fR hp;omega
 obtain⟨t,t1,t2,t3⟩:=aJO Dc;have ht:t<=31:=by
  rcases fm t 32 with h|h
  ·omega
  ·have:=df (show 0<2 by decide) h;have e32:(2:Nat)^32=base:=by decide
   omega
 have gv:0<2^(31-t):=cI d_;have hV1:d*2^(31-t)<=b*2^(31-t)/base^(e+1):=by rw[C7 hp,Bk];refine eh _ ?_;rw[lR];exact C8 _ _
 have xu:base<=2*(b*2^(31-t)/base^(e+1)):=by
  have h3:2^t*2^(31-t)<=d*2^(31-t):=eh _ t2;rw[<-eP,show t+(31-t)=31 by omega]at h3;have e31:base=2*2^31:=by decide
  omega
 have xo:b*2^(31-t)<base^(e+2):=by
  have h3:b<(d+1)*base^(e+1):=by rw[lR];exact(iG hp).1 (Hy _)
  have h4:(d+1)*2^(31-t)<=base:=by have:(d+1)*2^(31-t)<=2^(t+1)*2^(31-t):=eh _ t3;rw[<-eP,show t+1+(31-t)=32 by omega]at this;exact this
  have h5:b*2^(31-t)<(d+1)*base^(e+1)*2^(31-t):=Bh h3 gv;rw[Bk]at h5;have h6:(d+1)*2^(31-t)*base^(e+1)<=base*base^(e+1):=eh _ h4;rw[cP base,<-dD]at h6;exact cF h5 h6
 have Ft:e+2<=nd base a:=by rw[<-hb];exact jw d_ bZ
 refine⟨31-t,by omega,by rw[hd,<-lR,t1];omega,{ hV:=xo,top:=xu,hL:=by omega,hA:=?_,h63:=by omega },?_,cF xo (df d_ o_)⟩
 ·have ha:=ek (B:=base) d_ a;have h3:a*2^(31-t)<base^nd base a*2^(31-t):=Bh ha gv;have h4:2^(31-t)*base^(e+1)<=b*2^(31-t):=by rw[cP];exact eh _ fR
  have h5:2^(31-t)*base^(e+1)*base^(nd base a+1-(e+2))<=b*2^(31-t)*base^(nd base a+1-(e+2)):=eh _ h4;rw[fU,<-eP,show e+1+(nd base a+1-(e+2))=nd base a by omega,cP]at h5;exact cF h3 h5
 ·refine aAh (jv d_ xo) ?_;rw[<-hb];exact jw d_ (Ff _ gv)
theorem TL{vb:i_}(gm:iH w va a)(ll:iH w vb b)(bZ:b<=a)(hb:nd base b=e+2)(h1:nd base a<35184372088831):
  Calls prog 197 #[va,vb] w λe w'=>∃ vq vr,e=.returned (.tuple #[vq,vr])/\jT w w' vq (a/b)/\jT w w' vr (a%b)/\Below w.heap.size w w':=by
 obtain⟨k,hk,hlz,HK,N7,hV3⟩:=norm bZ hb h1;have qh:nd base b<35184372088831:=eV (jw d_ bZ) h1;have ak:=ek (B:=base) d_ b;have aVQ:=ek (B:=base) d_ a;rw[hb]at ak;have EH:0<2^k:=cI d_;have Kh:0<b:=by
  rcases nF b with h|h
  ·rw[h,od]at hb;omega
  ·exact h
 have Fq:dp w vb (e+2) (aj (ae base (e+2) b)):=by have:=ll;unfold iH at this;rw[hb]at this;exact this
 have hl:∀ s∈[cz.row va (nd base a) (aj (ae base (nd base a) a)),cz.row vb (e+2) (aj (ae base (e+2) b))],s.OK w:=by
  intro s hs;simp at hs;rcases hs with rfl|rfl
  ·exact⟨gm,fG _⟩
  ·exact⟨Fq,fG _⟩
 have hc:¬qp a b<0:=by have:=@NN a b;omega
 have uV:qx (.view (aj (ae base (e+2) b))) b:=by have:=xt b;rw[hb]at this;exact this
 have TK:cA prog (aa.at w) (aA f197 18) [.func (.func 193) #[] #[],sl 0 (nd base a),sl 1 (e+2)] [(0,some (.view (aj (ae base (nd base a) a)))),(1,some (.view (aj (ae base (e+2) b))))] (.int .i64 (qp a b)) []:=by have:=N2 (Bs:=aa.at w) (o:=aA f197 18) (f:=193) (y:=.func 193) (k1:=0) (k2:=1) (res:=.int .i64 (qp a b)) k_ k_ (xt a) uV rfl λw va vb ha hb=>NO ha hb o_ o_;rw[hb]at this;exact this
 have Ft:e+2<=nd base a:=by rw[<-hb];exact jw d_ bZ
 have aVR:nd base a=nd base a:=rfl;have lz:=aJS (x:=b/base^(e+1)%base) (cJ _ d_);rw[hlz]at lz;have gW:2<=e+2:=by omega
 obtain⟨p,hp⟩:∃ p,p+(e+2)=nd base a+1:=⟨nd base a+1-(e+2),by omega⟩;have N8:=aJ4 (Bs:=aa.at w) (M:=e+3) HK o_ hp;have hA:=HK.hA;rw[show nd base a+1-(e+2)=p by omega]at hA;have TM:a*2^k%(b*2^k*base^p)=a*2^k:=dU hA;have TN:a*2^k%(b*2^k*base^0)=a%b*2^k:=by rw[sC,gC,aAE]
 have hQ:a*2^k/(b*2^k)=a/b:=aAF _ _ EH;have aJ8:a%b*2^k<base^(e+2):=by refine cF (Bh (cJ _ Kh) EH) (jV HK.hV)
 have yT:=aJ6 (Bs:=aa.at w) (L:=nd base a+1) (k:=k) aJ8 o_ hk o_;rw[SR _ EH]at yT;have Ki:a/b<base^p:=by rw[<-hQ,iG HK.pos,cP (base^p)];exact hA
 have HL:a%b<base^(e+2):=lO (cJ _ Kh) ak;unfold Bp at N8;rw[TM,TN,hQ,Nz,JX]at N8;generalize hn:nd base a=n at *
 refine lN (Q:=λe w'=>∃ vq vr,e=.returned (.tuple #[vq,vr])/\jT w w' vq (a/b)/\jT w w' vr (a%b)/\Below w.heap.size w w') mixed func197 [cz.row va n (aj (ae base n a)),cz.row vb (e+2) (aj (ae base (e+2) b))] hl 100 (N:=110) k_
  (rs:=[(.step 18 (aA f197 18) _ _ _ _ TK:aU prog (aa.at w) 110),.rw 19 (.bool (decide (qp a b<0))) a_ (by rw[aO hc]),.fZ 23 (e+2) 1 false s_,.fh 39 (e+2) 1 (e+1) rfl o_,.ix f197 40 1 (e+2) (e+1) o_ k_,.ld f197 41 179 1 (e+1) (.view (aj (ae base (e+2) b))) (aR (b/base^(e+1)%base)) rfl (by rw[fV];exact DG.vd o_) k_,lz.at 42,.step 45 (aA f197 45) _ _ _ _ (aAO (y:=.func 223) (k1:=1) k_ uV hk o_ hb 2),.step 46 (aA f197 46) _ _ _ _ (N6 (y:=.func 199) (k:=2) (n:=e+3) (M:=e+3) (a:=b*2^k) (x:=.row (aj (ae base (e+3) (b*2^k))) 179 1) k_ rfl rfl (bA _) hV3 o_ N7),.step 49 (aA f197 49) _ _ _ _ (aAO (y:=.func 223) (k1:=0) (x1:=.view (aj (ae base n a))) k_ (by have:=xt a;rw[hn]at this;exact this) hk o_ hn 3),.fh 55 (n+1) (e+2) p o_ o_,.qj f197 56 4 p 179 4 (aR 0) (aj (List.replicate p 0)) (E6 _) rfl rfl o_ (by simp[maxLen];omega) k_,.fh 60 (n+1) (e+2) p o_ o_,.wr 61 .i64 ((p:Int)-1) ((p:Int)-1) (oW o_),.code 0 _ _ _ _ _ N8,.upto f197 80 3 (n+1) (e+2) 1 o_ k_,.code 2 _ _ _ _ _ yT,.step 107 (aA f197 107) _ _ _ _ (N6 (y:=.func 199) (k:=4) (n:=p) (M:=p) (a:=a/b) (x:=.row (aj (ae base p (a/b))) 179 1) k_ rfl rfl (bA _) Ki o_ rfl),.step 109 (aA f197 109) _ _ _ _ (N6 (y:=.func 199) (k:=3) (n:=e+2) (M:=n+1) (a:=a%b) (x:=.row (aj (ae base (n+1) (a%b))) 179 1) k_ rfl rfl o_ HL o_ rfl)])
  (v:=.tuple #[sl 4 (nd base (a/b)),sl 3 (nd base (a%b))]) (ms:=[(4,.row (aj (ae base p (a/b))) 179 1),(3,.row (aj (ae base (n+1) (a%b))) 179 1)]) k_ λay b9 v' w' km bF dQ _=>?_
 obtain⟨cQ,rfl,aY⟩:=km.uD;obtain⟨p,q,hp,h3,h4⟩:=js aY;have e:cQ=#[p,q]:=vF.1 (by rw[hp]);subst e;exact⟨p,q,rfl,xe bF (dQ _ (aP ..)) Ki h3,xe bF (dQ _ (bH _ (aP ..))) (cF HL (df d_ o_)) h4,bF.base⟩
def sv(neg:Bool)(m:Nat):Value:=.agg #[.bool neg,oh m]
def sg(neg:Bool)(m:Nat):Int:=if neg then -(m:Int)else m
def aV(z:Int):Value:=sv (decide (z<0)) z.natAbs
theorem vN(neg:Bool)(m:Nat):Bj neg m=aV (sg neg m):=by
 cases neg
 ·have e:decide ((m:Int)<0)=false:=by simp
  show Value.agg #[.bool false,oh m]=Value.agg #[.bool (decide ((m:Int)<0)),oh (m:Int).natAbs];rw[e];rfl
 ·have e:(decide (-(m:Int)<0))=decide (m≠0):=by rw[pD];omega
  show Value.agg #[.bool (decide (m≠0)),oh m]=Value.agg #[.bool (decide (-(m:Int)<0)),oh (-(m:Int)).natAbs];rw[e,Kj];rfl
theorem sI{C:Int->Value->Prop}(h0:∀ m:Nat,C m (sv false m))(h1:∀ m:Nat,m≠0->C (-(m:Int)) (sv true m))(z:Int):C z (aV z):=by
 by_cases hz:z<0
 ·obtain⟨m,rfl⟩:∃ m:Nat,z=-(m:Int):=⟨z.natAbs,by omega⟩;have:=h1 m o_;have e:aV (-(m:Int))=sv true m:=by unfold aV;rw[aE hz,Kj];rfl
  rw[e];exact this
 ·obtain⟨m,rfl⟩:∃ m:Nat,z=(m:Int):=⟨z.natAbs,by omega⟩;have e:aV (m:Int)=sv false m:=by unfold aV;rw[aO hz];rfl
  rw[e];exact h0 m
theorem xw{n:Nat}(h:m<2^n):nd base m<=n:=jv d_ (cF h (aAQ d_ n))
theorem vO{n:Nat}(h:m<2^n):nd 256 m<=n:=jv d_ (cF h (aAQ d_ n))
theorem aAR{n:Nat}(h:m<2^n)(hn:n<=1099511627776):Calls prog 191 #[oh m] w λe w'=>∃ v,e=.returned v/\jT w w' v m/\Below w.heap.size w w':=by have e:kC (BA (cG m))=m:=Fj m;have:=aIO (w:=w) (s:=BA (cG m)) (by rw[oV,tS];have:=vO h;omega);rw[e]at this;exact this
section
variable{Bs:aa}{N:Nat}
def aU.of(fn:Func)(key k m n:Nat)(h:m<2^n)(hn:n<=1099511627776){y:m_}(ho:dC (aA fn key).op=some y):aU prog Bs N:=
 .step key (aA fn key) [.func (.func 191) #[] #[],oh m] [(k,none)] (sl k (nd base m)) [(k,uU m)] (N1 ho k_ (λv hv=>by simp at hv;subst hv;rfl) (λ_=>aAR h hn) k)
def aU.add(fn:Func)(key k k1 k2 a b:Nat)(h1:nd base a<35184372088832)(h2:nd base b<35184372088832){y:m_}(ho:dC (aA fn key).op=some y):aU prog Bs N:=
 .step key (aA fn key) _ _ _ _ (Tt (f:=192) (k1:=k1) (k2:=k2) ho k_ (sG a) (sG b) (λ_ _ _ ha hb=>aIm ha hb h1 h2) k)
def aU.less(fn:Func)(key k k1 k2 a b:Nat)(bZ:b<=a)(h1:nd base a<35184372088832){y:m_}(ho:dC (aA fn key).op=some y):aU prog Bs N:=
 .step key (aA fn key) _ _ _ _ (Tt (f:=194) (k1:=k1) (k2:=k2) ho k_ (sG a) (sG b) (λ_ _ _ ha hb=>aIr ha hb bZ h1) k)
def aU.mul(fn:Func)(key k k1 k2 a b:Nat)(h1:nd base a<1099511627777)(h2:nd base b<1099511627777){y:m_}(ho:dC (aA fn key).op=some y):aU prog Bs N:=
 .step key (aA fn key) _ _ _ _ (Tt (f:=195) (k1:=k1) (k2:=k2) ho k_ (sG a) (sG b) (λ_ _ _ ha hb=>aIE ha hb o_) k)
def aU.cmp(fn:Func)(key k1 k2 a b:Nat)(h1:nd base a<35184372088832)(h2:nd base b<35184372088832){y:m_}(ho:dC (aA fn key).op=some y):aU prog Bs N:=
 .step key (aA fn key) _ _ _ _ (N2 (f:=193) (k1:=k1) (k2:=k2) (res:=.int .i64 (qp a b)) ho k_ (sG a) (sG b) rfl λ_ _ _ ha hb=>NO ha hb h1 h2)
def aU.Dd(fn:Func)(key k a:Nat)(x:Obj)(hx:qx x a)(neg:Bool)(h1:nd base a<35184372088832){y:m_}(ho:dC (aA fn key).op=some y):aU prog Bs N:=
 .step key (aA fn key) _ _ _ _ (HB (f:=158) (k1:=k) (post:=[.bool neg]) (res:=Bj neg a) ho k_ hx (λv hv=>by simp at hv;subst hv;rfl) rfl λ_ _ h=>aAD h h1)
end
def xx(neg:Bool):List UInt8->Bool
 |[]=>!neg
 |c::_=>decide (c≠0)
theorem sJ(neg:Bool)(l:List UInt8):aB prog 106 [.agg #[.bool neg,.string (BA l)]] (.bool (xx neg l)):=by
 cases l with
 |nil=>exact bo func106 (λ_=>[.rw 5 (.bool ((BA []).toList==(ByteArray.mk #[]).toList)) b_ (by rw[Fb];rfl)])
 |cons c l=>
  have e:(((c.toNat:Nat):Int)!=0)=decide (c≠0):=by
   by_cases h:c=0
   ·subst h;rfl
   ·rw[aE h,rh];intro h2;exact h (NL.1 (by simpa using h2))
  exact bo func106 (λ_=>[.rw 5 (.bool ((BA (c::l)).toList==(ByteArray.mk #[]).toList)) a_ (by rw[Fb];rfl),.sx f106 11 (BA (c::l)) 0 c (by rw[J5];rfl) k_,.rw 12 (.bool (((c.toNat:Nat):Int)!=0)) (.bool (decide (c≠0))) (by rw[e])])
theorem il(neg:Bool)(h:neg=true->m≠0):aB prog 106 [sv neg m] b_:=by
 have:=sJ neg (cG m);have e:xx neg (cG m)=true:=by
  by_cases hm:m=0
  ·subst hm;rw[C4];cases neg
   ·rfl
   ·exact absurd rfl (h rfl)
  ·obtain⟨c,l,h1,h2⟩:=NV hm;rw[h1];exact aE h2
 rw[e]at this;exact this
theorem ke(h:z.natAbs<9223372036854775808):aB prog 109 [.int .i64 z] (aV z):=by
 have jK:nd base z.natAbs<35184372088832:=by have:=xw (m:=z.natAbs) (n:=63) o_;omega
 by_cases hz:z<0
 ·have e:=vN true z.natAbs;have e2:sg true z.natAbs=z:=by show -((z.natAbs:Nat):Int)=z;omega
  rw[e2]at e;rw[<-e];exact bo func109 (λ_=>[.rw 4 (.bool (decide (z<0))) b_ (by rw[aE hz]),.wr 6 .u64 z (z+18446744073709551616) (by rw[j9];omega),.wr 7 .u64 (0-(z+18446744073709551616)) (z.natAbs:Int) (by rw[j9];omega),.step 8 (aA f109 8) _ _ _ _ (N1 (y:=.func 157) (args:=[.int .u64 (z.natAbs:Int)]) k_ k_ (λv hv=>by simp at hv;subst hv;rfl) (λ_=>S9 (n:=z.natAbs) o_) 1),.Dd f109 9 1 z.natAbs (uU z.natAbs) (sG _) true jK (y:=.func 158) k_])
 ·have e:=vN false z.natAbs;have e2:sg false z.natAbs=z:=by show((z.natAbs:Nat):Int)=z;omega
  rw[e2]at e;rw[<-e];exact bo func109 (λ_=>[.rw 4 (.bool (decide (z<0))) a_ (by rw[aO hz]),.wr 11 .u64 z (z.natAbs:Int) (by rw[j9];omega),.step 12 (aA f109 12) _ _ _ _ (N1 (y:=.func 157) (args:=[.int .u64 (z.natAbs:Int)]) k_ k_ (λv hv=>by simp at hv;subst hv;rfl) (λ_=>S9 (n:=z.natAbs) o_) 1),.Dd f109 13 1 z.natAbs (uU z.natAbs) (sG _) false jK (y:=.func 158) k_])
theorem om(z:Int):aB prog 107 [aV z] (.int .i64 z.sign):=by
 refine sI (C:=λz v=>aB prog 107 [v] (.int .i64 z.sign)) (λm=>?_) (λm hm=>?_) z
 ·by_cases h:m=0
  ·subst h;exact bo func107 (λ_=>[(il false (m:=0) n_).at 5,.rw 10 (.bool ((BA (cG 0)).toList==(ByteArray.mk #[]).toList)) b_ (by rw[qy];rfl)])
  ·have e:((m:Nat):Int).sign=1:=zu o_;rw[e];exact bo func107 (λ_=>[(il false (m:=m) n_).at 5,.rw 10 (.bool ((BA (cG m)).toList==(ByteArray.mk #[]).toList)) a_ (by rw[qy,aO h])])
 ·have e:(-(m:Int)).sign=-1:=Fu o_;rw[e];exact bo func107 (λ_=>[(il true (m:=m) (λ_=>hm)).at 5,.rw 10 (.bool ((BA (cG m)).toList==(ByteArray.mk #[]).toList)) a_ (by rw[qy,aO hm])])
theorem oq(z:Int):aB prog 152 [aV z] (aV (-z)):=by
 refine sI (C:=λz v=>aB prog 152 [v] (aV (-z))) (λm=>?_) (λm hm=>?_) z
 ·have e:=vN true m;rw[<-show sg true m=-(m:Int)from rfl,<-e];have e:(!((BA (cG m)).toList==(ByteArray.mk #[]).toList))=decide (m≠0):=by rw[qy];simp
  exact bo func152 (λ_=>[(il false (m:=m) n_).at 4,.rw 13 (.bool (!((BA (cG m)).toList==(ByteArray.mk #[]).toList))) (.bool (decide (m≠0))) (by rw[e])])
 ·have e:=vN false m;rw[Kk,<-show sg false m=(m:Int)from rfl,<-e];exact bo func152 (λ_=>[(il true (m:=m) (λ_=>hm)).at 4])
theorem TO{n1 n2:Bool}{p:Nat}(v1:n1=true->m1≠0)(v2:n2=true->m2≠0)(h1:m1<2^p)(h2:m2<2^q)(hp:p<=1099511627776)(hq:q<=1099511627776):
  aB prog 147 [sv n1 m1,sv n2 m2] (aV (sg n1 m1+sg n2 m2)):=by
 have b1:=xw h1;have b2:=xw h2;have bp:nd base (m1+m2)<35184372088832:=by
  have:=xw (m:=m1+m2) (n:=p+q+1) (by have e1:=df (show 0<2 by decide) (show p<=p+q by omega);have e2:=df (show 0<2 by decide) (show q<=p+q by omega);rw[dD];omega)
  omega
 have k1:=jw (B:=base) d_ (Fv m1 m2);have k2:=jw (B:=base) d_ (Fv m2 m1);obtain⟨ge,a,b,fR,bZ,ha,e⟩:∃(ge:Bool) (a b:Nat),decide (m2<=m1)=ge/\b<=a/\(a=bif ge then m1 else m2)/\(b=bif ge then m2 else m1):=by
  by_cases h:m2<=m1
  ·exact⟨true,m1,m2,aE h,h,rfl,rfl⟩
  ·exact⟨false,m2,m1,aO h,by omega,rfl,rfl⟩
 subst ha e;have bm:nd base ((bif ge then m1 else m2)-bif ge then m2 else m1)<35184372088832:=by cases ge<;>(dsimp only[cond];omega)
 have ba:nd base (bif ge then m1 else m2)<35184372088832:=by cases ge<;>(dsimp only[cond];omega)
 have hc:decide (qp m1 m2>=0)=ge:=by rw[<-fR];exact pD.2 NN
 have e:aV (sg n1 m1+sg n2 m2)=bif n1==n2 then Bj n1 (m1+m2)else Bj (bif ge then n1 else n2) ((bif ge then m1 else m2)-bif ge then m2 else m1):=by rw[vN,vN];cases n1<;>cases n2<;>cases ge<;>simp[sg]at fR bZ ⊢<;>congr 1<;>omega
 rw[e];refine eF mixed func147 100 (λ_=>[(il _ v1).at 8,(il _ v2).at 12,.of f147 18 3 m1 p h1 hp (y:=.func 191) k_,.of f147 21 4 m2 q h2 hq (y:=.func 191) k_]++
   bif n1==n2 then[.add f147 30 5 3 4 m1 m2 o_ o_ (y:=.func 192) k_,.Dd f147 33 5 (m1+m2) (uU (m1+m2)) (sG _) n1 bp (y:=.func 158) k_]else
   [.cmp f147 37 3 4 m1 m2 o_ o_ (y:=.func 193) k_,.rw 38 (.bool (decide (qp m1 m2>=0))) (.bool ge) (by rw[hc])]++
   bif ge then[.less f147 41 5 3 4 _ _ bZ ba (y:=.func 194) k_,.Dd f147 44 5 _ (uU _) (sG _) n1 bm (y:=.func 158) k_]else
   [.less f147 47 5 4 3 _ _ bZ ba (y:=.func 194) k_,.Dd f147 50 5 _ (uU _) (sG _) n2 bm (y:=.func 158) k_]) (λ_=>?_) k_ ?_<;>cases n1<;>cases n2<;>cases ge<;>kernel_rfl
theorem Fw{C:Int->Int->Value->Value->Prop}(h:∀(n1 n2:Bool) (m1 m2:Nat),(n1=true->m1≠0)->(n2=true->m2≠0)->C (sg n1 m1) (sg n2 m2) (sv n1 m1) (sv n2 m2))(x y:Int):C x y (aV x) (aV y):=
 sI (C:=λx v=>C x y v (aV y)) (λm=>sI (C:=λy u=>C m y (sv false m) u) (λk=>h false false m k n_ n_) (λk hk=>h false true m k n_ (λ_=>hk)) y)
  (λm hm=>sI (C:=λy u=>C (-(m:Int)) y (sv true m) u) (λk=>h true false m k (λ_=>hm) n_) (λk hk=>h true true m k (λ_=>hm) (λ_=>hk)) y) x
theorem qA(n:Bool)(m:Nat):(sg n m).natAbs=m:=by cases n<;>simp[sg]
theorem zv{x y:Int}{p:Nat}(h1:x.natAbs<2^p)(h2:y.natAbs<2^q)(hp:p<=1099511627776)(hq:q<=1099511627776):aB prog 147 [aV x,aV y] (aV (x+y)):=by revert h1 h2;refine Fw (C:=λx y v u=>x.natAbs<2^p->y.natAbs<2^q->aB prog 147 [v,u] (aV (x+y))) (λn1 n2 m1 m2 v1 v2 h1 h2=>?_) x y;rw[qA]at h1 h2;exact TO v1 v2 h1 h2 hp hq
theorem kf(z:Int):aB prog 106 [aV z] b_:=
 sI (C:=λ_ v=>aB prog 106 [v] b_) (λ_=>il false n_) (λ_ hm=>il true λ_=>hm) z
theorem Fx{x y:Int}{p:Nat}(h1:x.natAbs<2^p)(h2:y.natAbs<2^q)(hp:p<=1099511627776)(hq:q<=1099511627776):aB prog 167 [aV x,aV y] (aV (x-y)):=
 bo func167 (λ_=>[(kf x).at 6,(kf y).at 10,(oq y).at 16,(zv h1 (by rw[Kj];exact h2) hp hq).at 17])
theorem TP{x y:Int}{p:Nat}(h1:x.natAbs<2^p)(h2:y.natAbs<2^q)(hp:p<=1099511627776)(hq:q<=1099511627776):aB prog 202 [aV x,aV y] (.int .i64 (x-y).sign):=
 bo func202 (λ_=>[(Fx h1 h2 hp hq).at 7,(om (x-y)).at 8])
theorem mW{x y:Int}{p:Nat}(h1:x.natAbs<2^p)(h2:y.natAbs<2^q)(hp:p<=1099511627776)(hq:q<=1099511627776):aB prog 148 [aV x,aV y] (aV (x*y)):=by
 revert h1 h2;refine Fw (C:=λx y v u=>x.natAbs<2^p->y.natAbs<2^q->aB prog 148 [v,u] (aV (x*y))) (λn1 n2 m1 m2 v1 v2 h1 h2=>?_) x y;rw[qA]at h1 h2;have b1:=xw h1;have b2:=xw h2;have bs:nd base (m1*m2)<35184372088832:=by have:=xw (m:=m1*m2) (n:=p+q) (by rw[eP];exact qk h1 h2);omega
 have e:sg n1 m1*sg n2 m2=sg (n1 !=n2) (m1*m2):=by cases n1<;>cases n2<;>simp[sg,HM,HN]
 rw[e,<-vN];refine eF mixed func148 100 (λ_=>[(il _ v1).at 6,(il _ v2).at 10,.of f148 16 3 m1 p h1 hp (y:=.func 191) k_,.of f148 19 4 m2 q h2 hq (y:=.func 191) k_,.mul f148 20 5 3 4 m1 m2 o_ o_ (y:=.func 195) k_,.Dd f148 26 5 (m1*m2) (uU (m1*m2)) (sG _) (n1 !=n2) bs (y:=.func 158) k_]) (λ_=>?_) k_ ?_<;>cases n1<;>cases n2<;>kernel_rfl
section
variable{Bs:aa}{N:Nat}
theorem N9(hm:aM Bs ι c w){n:Nat}{v:i_}(hk:c k=none)(h:w.ownsRow n2 ty size v n xs)(cK:∀ u∈xs,flat u=true)
  (dE:∀ j y b o cap,c j=some y->y.owns=true->ι j=some (.at b o cap)->b<n2) :
  ∃ ay,Map.le ι ay/\aM Bs ay (bh c k (.view xs)) w/\aK ay (.slice (some ⟨k,0,some 7⟩) n 0) v:=by
 refine yV hm hk (.Zx h) cK λb o c' e j y o' bE hj hy he=>?_;have h1:=dE j y b o' bE hj hy he;rcases h.2 with ⟨h2,_⟩|⟨g,cap,cur,h2,h3,_⟩
 ·rw[h2]at e;cases e
 ·rw[h2]at e;injection e with e1 e2;injection e1 with e1;injection e1 with e1;omega
def ku(a:Nat):Obj:=.view (aj (ae base (nd base a) a))
theorem Oa(hm:aM Bs ι c w):∀ j y b o cap,c j=some y->y.owns=true->ι j=some (.at b o cap)->b<w.heap.size:=λj y b o cap h1 h2 h3=>(hm.own j y b o cap h1 h2 h3).1
theorem aAS(hm:aM Bs ι c w)(hle:Map.le ι ay)(h:∀ j y b o cap,c j=some y->y.owns=true->ι j=some (.at b o cap)->b<n2):
  ∀ j y b o cap,bh c k (.view xs) j=some y->y.owns=true->ay j=some (.at b o cap)->b<n2:=by
 intro j y b o cap hj hy hb;unfold bh at hj;by_cases bX:j=k
 ·rw[ax bX]at hj;injection hj with hj;subst hj;cases hy
 ·rw[ao bX]at hj;obtain⟨l,e1,_⟩:=hm.born j y hj;have:=hle j l e1;rw[hb]at this;injection this with this;subst this;exact h j y b o cap hj hy e1
theorem aJ9{y:m_}{c:Nat}(ho:dC o.op=some y)(eY:fN prog f=true)(dK:∀ v∈args,flat v=true)
  (h:∀ w,Calls prog f args.toArray w λe w'=>∃ v,e=.returned v/\jT w w' v c/\Below w.heap.size w w') (k:Nat) :
  cA prog Bs o (.func (.func f) #[] #[]::args) [(k,none)] (sl k (nd base c)) [(k,ku c)]:=by
 refine j7 (fi:=[]) (ca:=[]) ho eY λι cc w hm hn args' aY=>?_;rw[jG,jh]at aY;rw[nC aY dK];refine(h w).mono ?_
 rintro e w' ⟨v,rfl,h1,h2⟩
 obtain⟨ay,q1,q2,q3⟩:=Zy hm h2 (k:=k) (hn _ (aP ..)) h1 (fG _);exact⟨ay,v,rfl,q1,q3,q2⟩
def aU.zw(fn:Func)(key k m n:Nat)(h:m<2^n)(hn:n<=1099511627776){y:m_}(ho:dC (aA fn key).op=some y):aU prog Bs N:=
 .step key (aA fn key) [.func (.func 191) #[] #[],oh m] [(k,none)] (sl k (nd base m)) [(k,ku m)] (aJ9 ho k_ (λv hv=>by simp at hv;subst hv;rfl) (λ_=>aAR h hn) k)
theorem uW(a:Nat):qx (ku a) a:=xt a
theorem Ob{y:m_}(ho:dC o.op=some y){kq kr:Nat}(hk:kr≠kq)(uV:qx x1 a)(kN:x1.jN=true)(gU:qx x2 b)(kX:b≠0)(h1:nd base a<35184372088831)(h2:nd base b<35184372088831):
  cA prog Bs o [.func (.func 197) #[] #[],sl k1 (nd base a),sl k2 (nd base b)] [(k1,some x1),(k2,some x2),(kq,none),(kr,none)] (.tuple #[sl kq (nd base (a/b)),sl kr (nd base (a%b))]) [(kr,ku (a%b)),(kq,ku (a/b))]:=by
 refine j7 (fi:=[]) (ca:=[]) ho k_ λι c w hm hn args' aY=>?_;rw[jG,jh]at aY;obtain⟨va,vb,rfl,hv,iF⟩:=js aY;have gY:c k1=some x1:=hn (k1,some x1) s_;have gv:c k2=some x2:=hn (k2,some x2) s_;have Kl:c kq=none:=hn (kq,none) s_;have TQ:c kr=none:=hn (kr,none) s_;have ha:=Bi hm gY uV hv;have hb:=Bi hm gv gU iF;have fin:∀(w':h_) (vq vr:i_),Below w.heap.size w w'->(∃ bP,Map.le ι bP/\aM Bs bP (bh c kq (ku (a/b))) w'/\aK bP (sl kq (nd base (a/b))) vq/\∃ dG,Map.le bP dG/\aM Bs dG (bh (bh c kq (ku (a/b))) kr (ku (a%b))) w'/\aK dG (sl kr (nd base (a%b))) vr)->
   ∃ ay v',Ending.returned (.tuple #[vq,vr])=.returned v'/\Map.le ι ay/\aK ay (.tuple #[sl kq (nd base (a/b)),sl kr (nd base (a%b))]) v'/\aM Bs ay (lI c [(kr,ku (a%b)),(kq,ku (a/b))]) w':=by
  rintro w' vq vr iB ⟨bP,q1,q2,q3,dG,s1,s2,s3⟩
  exact⟨dG,_,rfl,q1.trans s1,.tup (.cons (q3.mono s1) (.cons s3 .nil)),s2⟩
 have Km:∀ x,bh c kq x kr=none:=λx=>by unfold bh;rw[ao hk];exact TQ
 have new:∀(w':h_) (vq vr:i_),Below w.heap.size w w'->jT w w' vq (a/b)->jT w w' vr (a%b)->(∃ bP,Map.le ι bP/\aM Bs bP (bh c kq (ku (a/b))) w'/\aK bP (sl kq (nd base (a/b))) vq/\∃ dG,Map.le bP dG/\aM Bs dG (bh (bh c kq (ku (a/b))) kr (ku (a%b))) w'/\aK dG (sl kr (nd base (a%b))) vr):=by intro w' vq vr iB h3 h4;have bF:=hm.call iB;obtain⟨bP,q1,q2,q3⟩:=N9 bF Kl h3 (fG _) (Oa hm);obtain⟨dG,s1,s2,s3⟩:=N9 q2 (Km _) h4 (fG _) (aAS bF q1 (Oa hm));exact⟨bP,q1,q2,q3,dG,s1,s2,s3⟩
 by_cases bZ:a<b
 ·have e1:a/b=0:=mf bZ;have e2:a%b=a:=dU bZ;refine(TI ha hb bZ o_ o_).mono ?_
  rintro e w' ⟨rfl,iB⟩
  refine fin w' _ _ iB ?_;have bF:=hm.call iB;obtain⟨bP,q1,q2,q3⟩:=yV (xs:=[]) (n:=0) (v:=.slice none 0 0) bF Kl (.inl ⟨rfl,rfl,rfl⟩) n_ n_;have ez:ku (a/b)=.view []:=by unfold ku;rw[e1,od];rfl
  have en:nd base (a/b)=0:=by rw[e1,od]
  rw[ez,en,e2];have TR:dp w' va (nd base a) (aj (ae base (nd base a) a)):=dp.jO ha iB;obtain⟨dG,s1,s2,s3⟩:=yV q2 (Km _) TR (fG _) (λb o c' e j y o' bE hj hy he=>by
   have Bf:c j=some y:=by
    unfold bh at hj;by_cases bX:j=kq
    ·rw[ax bX]at hj;injection hj with hj;subst hj;cases hy
    ·rw[ao bX]at hj;exact hj
   obtain⟨l,e1,_⟩:=hm.born j y Bf;have e2:=q1 j l e1;rw[he]at e2;injection e2 with e2;subst e2;subst e;rcases hv.hZ rfl with ⟨_,_,_,_,e⟩|⟨b',o2,qb,c2,gW,_,_,e⟩
   ·cases e
   ·injection e with e _ _;injection e with e;injection e with e _ _;subst e;exact(hm.seen k1 x1 _ _ _ gY kN gW).2 j y _ _ Bf hy e1)
  exact⟨bP,q1,q2,q3,dG,s1,s2,s3⟩
 ·have Kn:b<=a:=Kc.1 bZ;have go:Calls prog 197 #[va,vb] w λe w'=>∃ vq vr,e=.returned (.tuple #[vq,vr])/\jT w w' vq (a/b)/\jT w w' vr (a%b)/\Below w.heap.size w w':=by
   by_cases ak:b<base
   ·exact TJ ha hb Kn kX ak o_
   ·have h3:2<=nd base b:=by
     rcases fm (nd base b) 2 with h|h
     ·have h4:=ek (B:=base) d_ b;have h5:base^nd base b<=base^1:=df d_ o_;rw[Bb]at h5;omega
     ·exact h
    exact TL (e:=nd base b-2) ha hb Kn o_ h1
  refine go.mono ?_
  rintro e w' ⟨vq,vr,rfl,h3,h4,iB⟩
  exact fin w' _ _ iB (new w' vq vr iB h3 h4)
end
def eu(x y:Nat):Nat->Nat×Nat
 |0=>(x,y)
 |i+1=>((eu x y i).2,(eu x y i).1%(eu x y i).2)
theorem Ko(x y:Nat):∀ i,Nat.gcd (eu x y i).1 (eu x y i).2=Nat.gcd x y
 |0=>rfl
 |i+1=>by rw[<-Ko x y i];show Nat.gcd (eu x y i).2 ((eu x y i).1%(eu x y i).2)=_;rw[HO,<-Nat.gcd_rec,HO]
theorem TS(x y:Nat):∀ i,(eu x y i).1<=max x y/\(eu x y i).2<=max x y
 |0=>⟨Nat.le_max_left ..,Nat.le_max_right ..⟩
 |i+1=>by obtain⟨h1,h2⟩:=TS x y i;exact⟨h2,di (JW _ _) h1⟩
theorem Oc(x y:Nat)(p:Nat->Nat->Bool)(hp:∀ u v,p u v=true->v≠0):∃ n,p (eu x y n).1 (eu x y n).2=false/\∀ i,i<n->p (eu x y i).1 (eu x y i).2=true:=by
 have key:∃ n,p (eu x y n).1 (eu x y n).2=false:=by
  apply jI;intro fT;have all:∀ i,p (eu x y i).1 (eu x y i).2=true:=λi=>by
   cases h:p (eu x y i).1 (eu x y i).2 with
   |true=>rfl
   |false=>exact absurd ⟨i,h⟩ fT
  have dec:∀ i,(eu x y i).2+i<=y:=by
   intro i;induction i with
   |zero=>exact bA _
   |succ i ih=>
    have h0:=hp _ _ (all i);have h1:(eu x y (i+1)).2<(eu x y i).2:=cJ _ (tK h0);omega
  have h1:=dec (y+1);omega
 obtain⟨n,hn⟩:=key;obtain⟨e,h1,h2,h3⟩:=yZ (λi=>p (eu x y i).1 (eu x y i).2=false) n hn;exact⟨e,h2,λi hi=>by
  cases h:p (eu x y i).1 (eu x y i).2 with
  |true=>rfl
  |false=>exact absurd h (h3 i hi)⟩
def zx(u v:Nat):Bool:=decide (2<nd base v)||(decide (2<nd base u)&&decide (0<nd base v))
section
variable{Bs:aa}
def De(u v:Nat):aN:=[(5,sl 5 (nd base u)),(6,sl 6 (nd base v))]
def Bq(u v:Nat):List Obj:=[ku u,ku v]
theorem aKa{u v:Nat}(h:zx u v=true)(h0:v≠0)(h1:nd base u<35184372088831)(h2:nd base v<35184372088831):
  af prog Bs 65 (aF (ag f156 0)) (De u v) ([]++marks 5 (Bq u v)) 7 ⟨.normal,fj 5 [some 6,some 8] (De v (u%v)),[]++dB [some 6,some 8] (Bq v (u%v)),9⟩:=by
 have hd:=Ob (Bs:=Bs) (o:=aA f156 42) (y:=.func 197) k_ (k1:=5) (k2:=6) (kq:=7) (kr:=8) d_ (uW u) rfl (uW v) h0 h1 h2;unfold zx at h;by_cases c1:2<nd base v
 ·exact aC [.gt 28 (nd base v) 2 true (by simp[c1]),.step 42 _ _ _ _ _ hd]
 ·simp[c1]at h;exact aC [.gt 28 (nd base v) 2 false (by simp;omega),.gt 32 (nd base u) 2 true (by simp[h.1]),.gt 36 (nd base v) 0 true (by simp[h.2]),.step 42 _ _ _ _ _ hd]
theorem aKb{u v:Nat}(h:zx u v=false):
  af prog Bs 65 (aF (ag f156 0)) (De u v) ([]++marks 5 (Bq u v)) 7 ⟨.exit 0,De u v,marks 5 (Bq u v),7⟩:=by
 unfold zx at h;by_cases c1:2<nd base v
 ·simp[c1]at h
 ·by_cases c2:2<nd base u
  ·by_cases c3:0<nd base v
   ·simp[c2,c3]at h
   ·exact aC [.gt 28 (nd base v) 2 false (by simp;omega),.gt 32 (nd base u) 2 true (by simp[c2]),.gt 36 (nd base v) 0 false (by simp;omega)]
  ·exact aC [.gt 28 (nd base v) 2 false (by simp;omega),.gt 32 (nd base u) 2 false (by simp;omega)]
theorem aKc{x y n:Nat}(hn:zx (eu x y n).1 (eu x y n).2=false)(hi:∀ i,i<n->zx (eu x y i).1 (eu x y i).2=true)(h1:nd base (max x y)<35184372088831):
  af prog Bs 65 (.block 0 (ag f156 0)) (fj 5 [some 3,some 4] (De x y)) ([]++dB [some 3,some 4] (Bq x y)) 5 ⟨.normal,De (eu x y n).1 (eu x y n).2,marks 5 (Bq (eu x y n).1 (eu x y n).2),7⟩:=by
 have:=pH (P:=prog) (B:=Bs) (N:=65) (b:=aF (ag f156 0)) (next:=5) (p:=2) (r:=⟨.exit 0,De (eu x y n).1 (eu x y n).2,marks 5 (Bq (eu x y n).1 (eu x y n).2),7⟩) n (λi=>De (eu x y i).1 (eu x y i).2) (λ_=>[]) (λi=>Bq (eu x y i).1 (eu x y i).2) [some 3,some 4] (λ_ _=>rfl)
  (λi _=>⟨λq hq=>(by cases hq),λz hz=>by simp[Bq]at hz;rcases hz with rfl|rfl<;>exact Hs (fG _)⟩) k_ k_
  (λi ak=>⟨[some 6,some 8],9,k_,by have hg:=hi i ak;have hle:=TS x y i;refine aKa hg (λe=>?_) (eV (jw d_ hle.1) h1) (eV (jw d_ hle.2) h1);rw[e]at hg;unfold zx at hg;rw[od]at hg;simp at hg⟩) (aKb hn) n_
 exact bO (id:=0) this
def xy(u v:Nat):aN:=[(9,qz u),(10,qz v)]
theorem TT{x y:Nat}:∃ g,g=Nat.gcd x y/\af prog Bs 65 (.block 2 (ag f156 2)) (xy x y) [] 7 ⟨.normal,[(9,qz g)],[],7⟩:=by
 obtain⟨n,hn,hi⟩:=Oc x y (λ_ v=>decide (v≠0)) (λu v h=>jz h);have hz:(eu x y n).2=0:=by have:=Df hn;omega
 have hg:=Ko x y n;rw[hz,TU]at hg;refine⟨_,hg,bO (id:=2) (ch (P:=prog) (B:=Bs) (N:=65) (b:=aF (ag f156 2)) (next:=7) (r:=⟨.exit 2,[(9,qz (eu x y n).1)],[],7⟩) n (λi=>xy (eu x y i).1 (eu x y i).2) (λ_=>[]) (λ_ _ _=>Iff.rfl) (λi ak=>?_) ?_ n_)⟩
 ·have h0:(eu x y i).2≠0:=jz (hi i ak);show af _ _ _ _ (xy (eu x y i).1 (eu x y i).2) [] 7 ⟨.normal,xy (eu x y i).2 ((eu x y i).1%(eu x y i).2),[],7⟩;generalize (eu x y i).1=u at *;generalize (eu x y i).2=v at *;exact aC [.rw 57 (.bool ((v:Int)!=0)) b_ (by congr 1;rw[rh];omega),.E9 f156 61 .u64 (u:Int) v ((u%v:Nat):Int) o_ (by rw[zk o_];rfl) k_]
 ·rw[hz];exact aC [.rw 57 (.bool (((0:Nat):Int)!=0)) a_ rfl]
end
theorem TV{n1 n2:Bool}{p:Nat}(v1:n1=true->m1≠0)(v2:n2=true->m2≠0)(h1:m1<2^p)(h2:m2<2^q)(hp:p<=1099511627776)(hq:q<=1099511627776):
  aB prog 156 [sv n1 m1,sv n2 m2] (aV (Nat.gcd m1 m2:Nat)):=by
 have b1:=xw h1;have b2:=xw h2;have bm:nd base (max m1 m2)<35184372088831:=by rcases Od m1 m2 with h|h<;>simp[h]<;>omega
 obtain⟨n,hn,hi⟩:=Oc m1 m2 zx (λu v h e=>by rw[e]at h;unfold zx at h;rw[od]at h;simp at h)
 have hg:=Ko m1 m2 n;have hle:=TS m1 m2 n;have hl:=λw=>aKc (Bs:=aa.at w) hn hi bm;have bU:nd base (eu m1 m2 n).1<35184372088831:=eV (jw d_ hle.1) bm;have bV:nd base (eu m1 m2 n).2<35184372088831:=eV (jw d_ hle.2) bm;rw[<-hg];generalize (eu m1 m2 n).1=U at *;generalize (eu m1 m2 n).2=V at *;have e:=vN false (Nat.gcd U V);rw[show sg false (Nat.gcd U V)=((Nat.gcd U V:Nat):Int)from rfl]at e;rw[<-e];by_cases hV:V=0
 ·subst hV;rw[TU];exact bo func156 (λw=>[(il n1 v1).at 12,(il n2 v2).at 16,.zw f156 22 3 m1 p h1 hp (y:=.func 191) k_,.zw f156 25 4 m2 q h2 hq (y:=.func 191) k_,.code 0 _ _ _ _ _ (hl w),.rw 49 (.bool (((nd base 0:Nat):Int)==0)) b_ (by rw[od];rfl),.Dd f156 51 5 U (ku U) (uW U) false o_ (y:=.func 158) k_])
 ·have ri:=w9 (B:=base) d_ hV;unfold zx at hn;have c1:nd base V<=2/\nd base U<=2:=by simp at hn;exact⟨hn.1,Kc.1 λh=>by have:=hn.2 h;omega⟩
  have aAT:∀ t,nd base t<=2->t<18446744073709551616:=λt ht=>by have h1:=ek (B:=base) d_ t;have h2:base^nd base t<=base^2:=df d_ ht;exact cF h1 (di h2 d_)
  have aKd:=aAT U c1.2;have aAU:=aAT V c1.1;have Oe:∀ w,∃ g,g=Nat.gcd U V/\af prog (aa.at w) 65 (.block 2 (ag f156 2)) (xy U V) [] 7 ⟨.normal,[(9,qz g)],[],7⟩:=λw=>TT;have Oe:∀ w,af prog (aa.at w) 65 (.block 2 (ag f156 2)) (xy U V) [] 7 ⟨.normal,[(9,qz (Nat.gcd U V))],[],7⟩:=λw=>by obtain⟨g,rfl,h⟩:=Oe w;exact h
  have aKe:Nat.gcd U V<18446744073709551616:=eV (Nat.gcd_le_right U (tK hV)) aAU;have bG:nd base (Nat.gcd U V)<35184372088832:=by have:=jw (B:=base) d_ (Nat.gcd_le_right U (tK hV));omega
  exact bo func156 (λw=>[(il n1 v1).at 12,(il n2 v2).at 16,.zw f156 22 3 m1 p h1 hp (y:=.func 191) k_,.zw f156 25 4 m2 q h2 hq (y:=.func 191) k_,.code 0 _ _ _ _ _ (hl w),.fZ 49 (nd base V) 0 false (by simp;omega),.step 53 (aA f156 53) _ _ _ _ (HB (f:=198) (y:=.func 198) (k1:=5) (post:=[]) (res:=qz U) k_ k_ (uW U) n_ rfl λ_ _ h=>Z7 h aKd o_),.step 55 (aA f156 55) _ _ _ _ (HB (f:=198) (y:=.func 198) (k1:=6) (post:=[]) (res:=qz V) k_ k_ (uW V) n_ rfl λ_ _ h=>Z7 h aAU o_),.code 2 _ _ _ _ _ (Oe w),.step 63 (aA f156 63) _ _ _ _ (N1 (y:=.func 157) (args:=[qz (Nat.gcd U V)]) k_ k_ (λv hv=>by simp at hv;subst hv;rfl) (λ_=>S9 aKe) 7),.Dd f156 64 7 (Nat.gcd U V) (uU (Nat.gcd U V)) (sG _) false bG (y:=.func 158) k_])
theorem Fy{x y:Int}{p:Nat}(h1:x.natAbs<2^p)(h2:y.natAbs<2^q)(hp:p<=1099511627776)(hq:q<=1099511627776):aB prog 156 [aV x,aV y] (aV (Nat.gcd x.natAbs y.natAbs:Nat)):=by revert h1 h2;refine Fw (C:=λx y v u=>x.natAbs<2^p->y.natAbs<2^q->aB prog 156 [v,u] (aV (Nat.gcd x.natAbs y.natAbs:Nat))) (λn1 n2 m1 m2 v1 v2 h1 h2=>?_) x y;rw[qA]at h1 h2;rw[qA,qA];exact TV v1 v2 h1 h2 hp hq
theorem Of{a b q r:Int}(h:a=q*b+r)(hr:(0<b/\0<=r/\r<b)\/(b<0/\b<r/\r<=0)):a.fdiv b=q/\a.fmod b=r:=by
 have key:a.fdiv b=q:=by
  rcases hr with ⟨h1,h2,h3⟩|⟨h1,h2,h3⟩
  ·rw[sB _ o_,h,Int.add_comm,aAV _ _ o_,Int.ediv_eq_zero_of_lt h2 h3];omega
  ·have e:a.fdiv b=(-a).fdiv (-b):=(Int.neg_fdiv_neg a b).symm;have e2:-a=-r+q*-b:=by rw[h,HN];omega
   rw[e,sB _ o_,e2,aAV _ _ o_,Int.ediv_eq_zero_of_lt o_ o_];omega
 refine⟨key,?_⟩;have:=Int.mul_fdiv_add_fmod a b;rw[key,TW]at this;omega
section
variable{Bs:aa}{N:Nat}
def aU.HP(fn:Func)(key k a:Nat)(x:Obj)(hx:qx x a)(neg:Bool)(h1:nd base a<35184372088832){y:m_}(ho:dC (aA fn key).op=some y):aU prog Bs N:=
 .step key (aA fn key) _ _ _ _ (HB (f:=158) (k1:=k) (post:=[.bool neg]) (res:=aV (sg neg a)) ho k_ hx (λv hv=>by simp at hv;subst hv;rfl) rfl λ_ _ h=>by rw[<-vN];exact aAD h h1)
end
theorem TX{x y:Int}{p:Nat}(hy:y≠0)(h1:x.natAbs<2^p)(h2:y.natAbs<2^q)(hp:p<=1099511627774)(hq:q<=1099511627774):
  aB prog 196 [aV x,aV y] (.tuple #[aV (x.fdiv y),aV (x.fmod y),.int .i64 0]):=by
 obtain⟨m1,c7⟩:∃ m,m=x.natAbs:=⟨_,rfl⟩;obtain⟨m2,dF⟩:∃ m,m=y.natAbs:=⟨_,rfl⟩;rw[<-c7]at h1;rw[<-dF]at h2;have HQ:m2≠0:=by omega
 have b1:=xw h1;have b2:=xw h2;obtain⟨s,hs⟩:∃ s,s=(decide (x<0)!=decide (y<0)):=⟨_,rfl⟩;obtain⟨n1,CE⟩:∃ n,n=decide (x<0):=⟨_,rfl⟩;obtain⟨Q,hQ⟩:∃ Q,Q=m1/m2:=⟨_,rfl⟩;obtain⟨R,hR⟩:∃ R,R=m1%m2:=⟨_,rfl⟩;have Kp:m1=Q*m2+R:=by rw[hQ,hR,cP];exact(jx _ _).symm
 have Fz:R<m2:=by rw[hR];exact cJ _ (tK HQ)
 have TY:Q<=m1:=by rw[hQ];exact tP _ _
 have bQ:nd base (m1/m2)<35184372088832:=by have:=jw (B:=base) d_ TY;rw[<-hQ];omega
 have bR:nd base (m1%m2)<35184372088832:=by have:=jw (B:=base) d_ (jV Fz);rw[<-hR];omega
 have ex:x=sg n1 m1:=by rw[CE,c7];unfold sg;by_cases h:x<0<;>simp[h]<;>omega
 have ey:y=sg (n1 !=s) m2:=by rw[CE,hs,dF];unfold sg;by_cases h:x<0<;>by_cases h':y<0<;>simp[h,h']<;>omega
 have Kq:(decide (x<0)!=decide (y<0))=s:=hs.symm;have v1:=kf x;have v2:=kf y;have TZ:((BA (cG y.natAbs)).toList==(ByteArray.mk #[]).toList)=false:=by rw[qy,<-dF,aO HQ]
 have T0:(!((BA (cG (sg n1 R).natAbs)).toList==(ByteArray.mk #[]).toList))=decide (R≠0):=by rw[qy,qA];simp
 have oM:x.natAbs<2^p:=by rw[<-c7];exact h1
 have zy:y.natAbs<2^q:=by rw[<-dF];exact h2
 rw[show m1/m2=Q from hQ.symm]at bQ;rw[show m1%m2=R from hR.symm]at bR;have hd:∀ w,cA prog (aa.at w) (aA f196 33) [.func (.func 197) #[] #[],sl 4 (nd base x.natAbs),sl 5 (nd base y.natAbs)] [(4,some (ku x.natAbs)),(5,some (ku y.natAbs)),(6,none),(7,none)] (.tuple #[sl 6 (nd base Q),sl 7 (nd base R)]) [(7,ku R),(6,ku Q)]:=λw=>by have:=Ob (Bs:=aa.at w) (o:=aA f196 33) (y:=.func 197) k_ (k1:=4) (k2:=5) (kq:=6) (kr:=7) d_ (uW x.natAbs) rfl (uW y.natAbs) o_ (by rw[<-c7];omega) (by rw[<-dF];omega);rw[<-c7,<-dF,<-hQ,<-hR]at this;rw[<-c7,<-dF];exact this
 have T1:(Value.bool (decide (x<0)))=.bool n1:=by rw[CE]
 by_cases Og:R≠0/\s=true
 ·obtain⟨uX,bT⟩:=Og;have fin:=Of (a:=x) (b:=y) (q:=sg s Q-1) (r:=sg n1 R+y) (by
    rw[ex,ey,bT,Kp];have e:sg true Q=-(Q:Int):=rfl;rw[e];have iQ:((Q*m2:Nat):Int)=(Q:Int)*m2:=nY ..;cases n1<;>simp only[sg,Oh,Oi,J1,qS,uT,uR,vM,iQ,Int.sub_mul,HM,HN,Kk,Oj]<;>omega)
   (by
    rw[ey,bT];cases n1
    ·right;simp only[sg,Oh,qS,uT,uR];omega
    ·left;simp only[sg,Oi,J1,qS,uT,uR];omega)
  rw[fin.1,fin.2];have s1:(sg s Q).natAbs<2^p:=by rw[qA];omega
  have s2:(1:Int).natAbs<2^1:=by decide
  have s3:(sg n1 R).natAbs<2^q:=by rw[qA];omega
  have sb:=Fx (x:=sg s Q) (y:=1) s1 s2 o_ o_;have ad:=zv (x:=sg n1 R) (y:=y) s3 zy o_ o_;exact bo func196 (λw=>[v1.at 11,v2.at 15,.rw 23 (.bool ((BA (cG y.natAbs)).toList==(ByteArray.mk #[]).toList)) a_ (by rw[TZ]),.zw f196 29 4 x.natAbs p oM o_ (y:=.func 191) k_,.zw f196 32 5 y.natAbs q zy o_ (y:=.func 191) k_,.step 33 _ _ _ _ _ (hd w),.rw 41 (.bool (decide (x<0)!=decide (y<0))) (.bool s) (by rw[Kq]),.HP f196 42 6 Q (ku Q) (uW Q) s bQ (y:=.func 158) k_,.rw 45 (.bool (decide (x<0))) (.bool n1) T1,.HP f196 46 7 R (ku R) (uW R) n1 bR (y:=.func 158) k_,.rw 49 (.bool (!((BA (cG (sg n1 R).natAbs)).toList==(ByteArray.mk #[]).toList))) b_ (by rw[T0,aE uX]),.rw 55 (.bool (decide (x<0)!=decide (y<0))) b_ (by rw[Kq,bT]),(ke (z:=1) d_).at 58,sb.at 59,ad.at 62])
 ·have fin:=Of (a:=x) (b:=y) (q:=sg s Q) (r:=sg n1 R) (by
    rw[ex,ey,Kp];have iQ:((Q*m2:Nat):Int)=(Q:Int)*m2:=nY ..;cases n1<;>cases s<;>simp only[sg,Oh,Oi,J1,NF,qS,uT,uR,vM,iQ,HM,HN,Kk]<;>omega)
   (by
    rw[ey];cases n1<;>cases s
    ·left;simp only[sg,Oh,uT,uR];omega
    ·right;have uX:R=0:=jI λh=>Og ⟨h,rfl⟩;simp only[sg,Oh,qS,uT,uR];omega
    ·right;simp only[sg,Oi,NF,qS];omega
    ·left;have uX:R=0:=jI λh=>Og ⟨h,rfl⟩;simp only[sg,Oi,J1,qS,uT,uR];omega)
  rw[fin.1,fin.2];by_cases uX:R=0
  ·exact bo func196 (λw=>[v1.at 11,v2.at 15,.rw 23 (.bool ((BA (cG y.natAbs)).toList==(ByteArray.mk #[]).toList)) a_ (by rw[TZ]),.zw f196 29 4 x.natAbs p oM o_ (y:=.func 191) k_,.zw f196 32 5 y.natAbs q zy o_ (y:=.func 191) k_,.step 33 _ _ _ _ _ (hd w),.rw 41 (.bool (decide (x<0)!=decide (y<0))) (.bool s) (by rw[Kq]),.HP f196 42 6 Q (ku Q) (uW Q) s bQ (y:=.func 158) k_,.rw 45 (.bool (decide (x<0))) (.bool n1) T1,.HP f196 46 7 R (ku R) (uW R) n1 bR (y:=.func 158) k_,.rw 49 (.bool (!((BA (cG (sg n1 R).natAbs)).toList==(ByteArray.mk #[]).toList))) a_ (by rw[T0,aO (λh=>h uX)])])
  ·have bT:s=false:=by
    cases s
    ·rfl
    ·exact absurd ⟨uX,rfl⟩ Og
   exact bo func196 (λw=>[v1.at 11,v2.at 15,.rw 23 (.bool ((BA (cG y.natAbs)).toList==(ByteArray.mk #[]).toList)) a_ (by rw[TZ]),.zw f196 29 4 x.natAbs p oM o_ (y:=.func 191) k_,.zw f196 32 5 y.natAbs q zy o_ (y:=.func 191) k_,.step 33 _ _ _ _ _ (hd w),.rw 41 (.bool (decide (x<0)!=decide (y<0))) (.bool s) (by rw[Kq]),.HP f196 42 6 Q (ku Q) (uW Q) s bQ (y:=.func 158) k_,.rw 45 (.bool (decide (x<0))) (.bool n1) T1,.HP f196 46 7 R (ku R) (uW R) n1 bR (y:=.func 158) k_,.rw 49 (.bool (!((BA (cG (sg n1 R).natAbs)).toList==(ByteArray.mk #[]).toList))) b_ (by rw[T0,aE uX]),.rw 55 (.bool (decide (x<0)!=decide (y<0))) a_ (by rw[Kq,bT])])
section
variable{P:j_}{B:aa}{N:Nat}
def FA(o:Oper):Option (Bool×TypeId):=match o.op with|.binOp .eql t _ _ _=>some (true,t)|.binOp .neq t _ _ _=>some (false,t)|_=>none
theorem aAW{op:BinOp}{t:TypeId}{x y:m_}{xs ys:p_}(hg:P.eqGuardType P.depth t=false)(w:h_):(eqGuard op t x y (.agg xs) (.agg ys)).run P w=.ok () w:=by unfold eqGuard;cases op<;>simp[hg]
theorem Ol{t:TypeId}{neg:Bool}{xs ys:p_}{lx ly:List Lit}{r:Bool}(ho:FA o=some (neg,t))(hm:m<=10000)(hk:P.keyTypeAt m t=true)(hg:P.eqGuardType P.depth t=false)
  (hfx:(Value.agg xs).formed P t=true) (hfy:(Value.agg ys).formed P t=true) (hx:P.keyLits D t xs.toList=some lx) (hy:P.keyLits D t ys.toList=some ly) (Yp:flat (.agg xs)=true) (Jv:flat (.agg ys)=true)
  (hr:(if neg then r else !r)=true↔lx=ly):cA P B o [.agg xs,.agg ys] [] (.bool r) []:=by
 refine(Cu (λu hu=>by simp at hu;rcases hu with rfl|rfl<;>assumption) rfl λρ fY w _=>?_).step;obtain⟨r',e1,e2⟩:=run_equalIn_deep (10000-m) m t hk w D D (.agg xs) (.agg ys) lx ly hfx hfy hx hy;rw[show 10000-m+m=10000 by omega]at e1;have e1:(Op.equal t (.agg xs) (.agg ys)).run P w=.ok r' w:=e1;unfold FA at ho;split at ho
 ·rename_i t' p q t2 bY;injection ho with ho;injection ho with h1 h2;subst h1;subst h2;rw[bY]at fY;simp[Op.operands]at fY;have e3:r'=r:=by rw[<-e2]at hr;cases r<;>cases r'<;>simp at hr ⊢
  have ob:=aAW (op:=.eql) (x:=p) (y:=q) (xs:=xs) (ys:=ys) hg w;simp only[execOp,bY,fY.1,fY.2];simp[ob,binOp,e1,e3]
 ·rename_i t' p q t2 bY;injection ho with ho;injection ho with h1 h2;subst h1;subst h2;rw[bY]at fY;simp[Op.operands]at fY;have e3:(!r')=r:=by rw[<-e2]at hr;cases r<;>cases r'<;>simp at hr ⊢
  have ob:=aAW (op:=.neq) (x:=p) (y:=q) (xs:=xs) (ys:=ys) hg w;simp only[execOp,bY,fY.1,fY.2];simp[ob,binOp,e1,e3]
 ·cases ho
theorem aAX{β:Type}(f:TypeId->Nat->Option β):∀(l:List Field) {m:List (TypeId×Nat)},l.map (λg=>(g.type,g.offset))=m->(l.mapM λg=>f g.type g.offset)=m.mapM λp=>f p.1 p.2
 |[],m,h=>by subst h;rfl
 |g::l,m,h=>by subst h;simp only[sk,JP];rw[aAX f l rfl]
theorem Om{t: TypeId}{fs: Array Field}{l: List (TypeId × Nat)}{cs: ah}(hu : P.underlying t = some (.struct fs))(hf : fs.toList.map (fun g => (g.type, g.offset)) = l)(hn : fs.all (fun g => g.name != "_") = true)(hl : cs.length = P.cellsOf t)(d : Nat) :
  P.keyLits (d+1) t cs=(l.mapM λp=>P.keyLits d p.1 ((cs.drop p.2).take (P.cellsOf p.1))).map List.flatten:=by
 conv=>lhs;unfold Program.keyLits
 rw[hu];dsimp only;rw[ax ⟨hl,hn⟩,aAX (λa b=>P.keyLits d a ((cs.drop b).take (P.cellsOf a))) fs.toList hf]
theorem aKf{t e:TypeId}{n:Nat}{cs:ah}(hu:P.underlying t=some (.array n e))(hl:cs.length=P.cellsOf t)(d:Nat):
  P.keyLits (d+1) t cs=((List.range n).mapM λi=>P.keyLits d e ((cs.drop (i*P.cellsOf e)).take (P.cellsOf e))).map List.flatten:=by
 conv=>lhs;unfold Program.keyLits
 rw[hu];dsimp only;rw[ax hl]
theorem aKg{t:TypeId}(hu:P.underlying t=some .bool)(b:Bool)(d:Nat):P.keyLits (d+1) t [.bool b]=some [.bool b]:=by unfold Program.keyLits;rw[hu]
theorem aKh{t:TypeId}(hu:P.underlying t=some .string)(s:ByteArray)(hs:s.size<=maxLen)(d:Nat):P.keyLits (d+1) t [.string s]=some [.string s.data.toList]:=by unfold Program.keyLits;rw[hu];dsimp only;rw[ax hs]
end
section
class CR (F:Type) extends Add F,Mul F,Neg F,Sub F,Zero F,One F where
 add_assoc:∀ a b c:F,a+b+c=a+(b+c)
 add_comm:∀ a b:F,a+b=b+a
 zero_add:∀ a:F,0+a=a
 neg_add:∀ a:F,-a+a=0
 mul_assoc:∀ a b c:F,a*b*c=a*(b*c)
 mul_comm:∀ a b:F,a*b=b*a
 one_mul:∀ a:F,1*a=a
 mul_add:∀ a b c:F,a*(b+c)=a*b+a*c
 sub_def:∀ a b:F,a-b=a+-b
namespace CR
variable{F:Type}[CR F]
theorem add_zero(a:F):a+0=a:=by rw[add_comm,zero_add]
theorem add_neg(a:F):a+-a=0:=by rw[add_comm,neg_add]
theorem mul_one(a:F):a*1=a:=by rw[mul_comm,one_mul]
theorem add_mul(a b c:F):(a+b)*c=a*c+b*c:=by rw[mul_comm,mul_add,mul_comm c a,mul_comm c b]
theorem add_left_comm(a b c:F):a+(b+c)=b+(a+c):=by rw[<-add_assoc,add_comm a b,add_assoc]
theorem mul_left_comm(a b c:F):a*(b*c)=b*(a*c):=by rw[<-mul_assoc,mul_comm a b,mul_assoc]
theorem add_left_cancel{a b c:F}(h:a+b=a+c):b=c:=by have:=cL (λx=>-a+x) h;simpa only[<-add_assoc,neg_add,zero_add]using this
theorem mul_zero(a:F):a*0=0:=by apply add_left_cancel (a:=a*0);rw[<-mul_add,zero_add,add_zero]
theorem zero_mul(a:F):0*a=0:=by rw[mul_comm,mul_zero]
theorem HR{a b:F}(h:a+b=0):b=-a:=add_left_cancel (a:=a) (by rw[h,add_neg])
theorem neg_mul(a b:F):-a*b=-(a*b):=HR (by rw[<-add_mul,add_neg,zero_mul])
theorem mul_neg(a b:F):a*-b=-(a*b):=by rw[mul_comm,neg_mul,mul_comm]
theorem neg_neg(a:F):- -a=a:=(HR (neg_add a)).symm
theorem Dg(a b:F):-(a+b)=-a+-b:=
 (HR (by rw[add_assoc,add_left_comm b,<-add_assoc,add_neg,zero_add,add_neg])).symm
theorem neg_zero:-(0:F)=0:=(HR (zero_add 0)).symm
def ofNat:Nat->F
 |0=>0
 |n+1=>ofNat n+1
def ofInt:Int->F
 |.ofNat n=>ofNat n
 |.negSucc n=>-ofNat (n+1)
theorem ofNat_add(a b:Nat):(ofNat (a+b):F)=ofNat a+ofNat b:=by
 induction b with
 |zero=>simp[ofNat,add_zero]
 |succ b ih=>rw[<-uI];simp only[ofNat];rw[ih,add_assoc]
theorem ofNat_mul(a b:Nat):(ofNat (a*b):F)=ofNat a*ofNat b:=by
 induction b with
 |zero=>simp[ofNat,mul_zero]
 |succ b ih=>rw[Nv,ofNat_add,ih];simp only[ofNat];rw[mul_add,mul_one]
theorem ofInt_sub(a b:Nat):(ofInt ((a:Int)-b):F)=ofNat a+-ofNat b:=by
 rcases Od b a with h|h
 ·obtain⟨c,rfl⟩:=Nat.le.dest h;rw[show((b+c:Nat):Int)-b=Int.ofNat c by simp[vM];omega];simp only[ofInt];rw[ofNat_add,add_comm (ofNat b),add_assoc,add_neg,add_zero]
 ·obtain⟨c,rfl⟩:=Nat.le.dest h;cases c with
  |zero=>rw[show(a:Int)-((a+0:Nat):Int)=Int.ofNat 0 by simp];simp[ofInt,ofNat,add_neg]
  |succ c=>
   rw[show(a:Int)-((a+(c+1):Nat):Int)=Int.negSucc c by omega];simp only[ofInt];rw[ofNat_add a (c+1),Dg,<-add_assoc,add_neg,zero_add]
theorem ofInt_neg(a:Int):(ofInt (-a):F)=-ofInt a:=by
 cases a with
 |ofNat n=>
  cases n with
  |zero=>simp[ofInt,ofNat,neg_zero]
  |succ n=>rfl
 |negSucc n=>rw[show -(Int.negSucc n)=Int.ofNat (n+1)from rfl];simp only[ofInt];rw[neg_neg]
theorem sI(a:Int):∃ m n:Nat,a=(m:Int)-n:=by
 cases a with
 |ofNat m=>exact⟨m,0,by simp⟩
 |negSucc n=>exact⟨0,n+1,by omega⟩
theorem ofInt_add(a b:Int):(ofInt (a+b):F)=ofInt a+ofInt b:=by obtain⟨m,n,rfl⟩:=sI a;obtain⟨p,q,rfl⟩:=sI b;rw[show(m:Int)-n+(p-q)=((m+p:Nat):Int)-(n+q:Nat)by omega];rw[ofInt_sub,ofInt_sub,ofInt_sub,ofNat_add,ofNat_add,Dg];simp only[add_assoc,add_left_comm]
theorem ofInt_mul(a b:Int):(ofInt (a*b):F)=ofInt a*ofInt b:=by
 obtain⟨m,n,rfl⟩:=sI a;obtain⟨p,q,rfl⟩:=sI b;rw[show((m:Int)-n)*(p-q)=((m*p+n*q:Nat):Int)-(m*q+n*p:Nat)by simp only[vM,nY,Int.sub_mul,Int.mul_sub];omega]
 rw[ofInt_sub,ofInt_sub,ofInt_sub];simp only[ofNat_add,ofNat_mul,add_mul,mul_add,neg_mul,mul_neg,Dg,neg_neg];simp only[add_assoc,add_left_comm,add_comm]
end CR
open CR
inductive E where
 |var (i:Nat)
 |num (n:Int)
 |add (a b:E)
 |mul (a b:E)
 |neg (a:E)
 |sub (a b:E)
 |one
namespace E
instance:Add E:=⟨E.add⟩
instance:Mul E:=⟨E.mul⟩
instance:Neg E:=⟨E.neg⟩
instance:Sub E:=⟨E.sub⟩
instance:Zero E:=⟨E.num 0⟩
instance:One E:=⟨E.one⟩
def den{F:Type}[CR F](ρ:Nat->F):E->F
 |.var i=>ρ i
 |.num n=>ofInt n
 |.add a b=>den ρ a+den ρ b
 |.mul a b=>den ρ a*den ρ b
 |.neg a=>-den ρ a
 |.sub a b=>den ρ a-den ρ b
 |.one=>1
abbrev Mon:=List Nat
abbrev Poly:=List (Mon×Int)
def On(v:Nat):Mon->Mon
 |[]=>[v]
 |u::m=>if Nat.ble v u then v::u::m else u::On v m
def Kr(m n:Mon):Mon:=m.foldr On n
def FB:Mon->Mon->Bool
 |[],[]=>true
 |a::m,b::n=>Nat.beq a b&&FB m n
 |_,_=>false
def mlt:Mon->Mon->Bool
 |[],[]=>false
 |[],_::_=>true
 |_::_,[]=>false
 |a::m,b::n=>if Nat.beq a b then mlt m n else Nat.blt a b
def pins(m:Mon)(a:Int):Poly->Poly
 |[]=>[(m,a)]
 |(n,b)::p=>if FB m n then(if a+b=0 then p else(n,a+b)::p)else if mlt m n then(m,a)::(n,b)::p else(n,b)::pins m a p
def HT(p q:Poly):Poly:=p.foldr (λx acc=>pins x.1 x.2 acc) q
def Ks(m:Mon)(a:Int)(q:Poly)(acc:Poly):Poly:=q.foldr (λx acc=>pins (Kr m x.1) (a*x.2) acc) acc
def Ku(p q:Poly):Poly:=p.foldr (λx acc=>Ks x.1 x.2 q acc) []
def norm:E->Poly
 |.var i=>[([i],1)]
 |.num n=>if n=0 then[]else[([],n)]
 |.add a b=>HT (norm a) (norm b)
 |.mul a b=>Ku (norm a) (norm b)
 |.neg a=>(norm a).map λx=>(x.1,-x.2)
 |.sub a b=>HT (norm a) ((norm b).map λx=>(x.1,-x.2))
 |.one=>[([],1)]
def peq:Poly->Poly->Bool
 |[],[]=>true
 |(m,a)::p,(n,b)::q=>FB m n&&(a==b)&&peq p q
 |_,_=>false
section
variable{F:Type}[CR F](ρ:Nat->F)
def sK:Mon->F
 |[]=>1
 |v::m=>ρ v*sK m
def kg:Poly->F
 |[]=>0
 |(m,a)::p=>ofInt a*sK ρ m+kg p
theorem aKi(v:Nat)(m:Mon):sK ρ (On v m)=ρ v*sK ρ m:=by
 induction m with
 |nil=>rfl
 |cons u m ih=>
  simp only[On];split
  ·rfl
  ·simp only[sK];rw[ih,mul_left_comm]
theorem aKj(m n:Mon):sK ρ (Kr m n)=sK ρ m*sK ρ n:=by
 induction m with
 |nil=>simp only[Kr,T2,sK,one_mul]
 |cons v m ih=>simp only[Kr,T3,aKi];simp only[Kr]at ih;rw[ih];simp only[sK];rw[mul_assoc]
theorem aAY{m n:Mon}(h:FB m n=true):m=n:=by
 induction m generalizing n with
 |nil=>cases n<;>simp_all [FB]
 |cons a m ih=>
  cases n with
  |nil=>simp[FB]at h
  |cons b n=>
   simp only[FB,cZ]at h;rw[RR h.1,ih h.2]
theorem aAZ(m:Mon)(a:Int)(p:Poly):kg ρ (pins m a p)=ofInt a*sK ρ m+kg ρ p:=by
 induction p with
 |nil=>rfl
 |cons x p ih=>
  obtain⟨n,b⟩:=x;simp only[pins];split
  ·rename_i h;have:=aAY h;subst this;split
   ·rename_i h0;simp only[kg];rw[<-add_assoc,<-add_mul,<-ofInt_add,h0];rw[show(ofInt 0:F)=0 from rfl,zero_mul,zero_add]
   ·simp only[kg];rw[ofInt_add,add_mul,add_assoc]
  ·split
   ·rfl
   ·simp only[kg];rw[ih,add_left_comm]
theorem aA0(p q:Poly):kg ρ (HT p q)=kg ρ p+kg ρ q:=by
 induction p with
 |nil=>simp only[HT,T2,kg,zero_add]
 |cons x p ih=>simp only[HT,T3,aAZ];simp only[HT]at ih;rw[ih];simp only[kg];rw[add_assoc]
theorem aKk(m:Mon)(a:Int)(q acc:Poly):kg ρ (Ks m a q acc)=ofInt a*sK ρ m*kg ρ q+kg ρ acc:=by
 induction q with
 |nil=>simp only[Ks,T2,kg,mul_zero,zero_add]
 |cons x q ih=>
  simp only[Ks,T3,aAZ];simp only[Ks]at ih;rw[ih];simp only[kg];rw[aKj,ofInt_mul,mul_add,<-add_assoc]
  congr 2
  simp only[mul_assoc,mul_left_comm]
theorem aKl(p q:Poly):kg ρ (Ku p q)=kg ρ p*kg ρ q:=by
 induction p with
 |nil=>simp only[Ku,T2,kg,zero_mul]
 |cons x p ih=>simp only[Ku,T3,aKk];simp only[Ku]at ih;rw[ih];simp only[kg];rw[add_mul]
theorem aA1(p:Poly):kg ρ (p.map λx=>(x.1,-x.2))=-kg ρ p:=by
 induction p with
 |nil=>simp only[NX,kg,neg_zero]
 |cons x p ih=>simp only[sk,kg];rw[ih,ofInt_neg,neg_mul,Dg]
theorem aA2(e:E):kg ρ (norm e)=den ρ e:=by
 induction e with
 |var i=>
  simp only[norm,kg,sK,den,mul_one,add_zero];rw[show(ofInt 1:F)=0+1 from rfl,zero_add,one_mul]
 |num n=>
  simp only[norm];split
  ·rename_i h;subst h;rfl
  ·simp only[kg,sK,den,mul_one,add_zero]
 |add a b Kv Kw=>simp only[norm,den,aA0,Kv,Kw]
 |mul a b Kv Kw=>simp only[norm,den,aKl,Kv,Kw]
 |neg a ih=>simp only[norm,den,aA1,ih]
 |sub a b Kv Kw=>simp only[norm,den,aA0,aA1,Kv,Kw,sub_def]
 |one=>simp only[norm,kg,sK,den,mul_one,add_zero];rw[show(ofInt 1:F)=0+1 from rfl,zero_add]
theorem aKm{p q:Poly}(h:peq p q=true):p=q:=by
 induction p generalizing q with
 |nil=>cases q<;>simp_all [peq]
 |cons x p ih=>
  obtain⟨m,a⟩:=x;cases q with
  |nil=>simp[peq]at h
  |cons y q=>
   obtain⟨n,b⟩:=y;simp only[peq,cZ,beq_iff_eq]at h;rw[aAY h.1.1,h.1.2,ih h.2]
theorem prove(l r:E)(h:peq l.norm r.norm=true):l.den ρ=r.den ρ:=by rw[<-aA2,<-aA2,aKm h]
end
end E
def sL{F:Type}[CR F](l:List F):Nat->F:=λi=>l.getD i 0
end
section
open CR
class OF (F:Type) extends CR F,Inv F where
 lS:∀ x:F,x≠0->x*x⁻¹=1
 inv_zero:(0:F)⁻¹=0
 aD:F->Int
 fp:∀ x:F,aD x=0↔x=0
 iR:∀ x:F,aD x=-1\/aD x=0\/aD x=1
 pJ:∀ x:F,aD (-x)=- aD x
 mn:∀ x y:F,aD (x*y)=aD x*aD y
 Dh:∀ x y:F,aD x=1->aD y=1->aD (x+y)=1
 HU:aD (1:F)=1
namespace OF
variable{F:Type}[OF F]
instance:LT F:=⟨λa b=>aD (b-a)=1⟩
instance:LE F:=⟨λa b=>aD (b-a)≠-1⟩
theorem lt_def(a b:F):(a<b)=(aD (b-a)=1):=rfl
theorem le_def(a b:F):(a<=b)=(aD (b-a)≠-1):=rfl
instance(a b:F):Decidable (a<b):=inferInstanceAs (Decidable (aD (b-a)=1))
instance(a b:F):Decidable (a<=b):=inferInstanceAs (Decidable (aD (b-a)≠-1))
theorem HV(a:F)(l r:E->E)(h:E.peq (l (.var 0)).norm (r (.var 0)).norm=true):(l (.var 0)).den (sL [a])=(r (.var 0)).den (sL [a]):=E.prove _ _ _ h
theorem kE(a b:F)(l r:E->E->E)(h:E.peq (l (.var 0) (.var 1)).norm (r (.var 0) (.var 1)).norm=true):
  (l (.var 0) (.var 1)).den (sL [a,b])=(r (.var 0) (.var 1)).den (sL [a,b]):=E.prove _ _ _ h
theorem lq(a b c:F)(l r:E->E->E->E)(h:E.peq (l (.var 0) (.var 1) (.var 2)).norm (r (.var 0) (.var 1) (.var 2)).norm=true):
  (l (.var 0) (.var 1) (.var 2)).den (sL [a,b,c])=(r (.var 0) (.var 1) (.var 2)).den (sL [a,b,c]):=E.prove _ _ _ h
theorem FC(a b c d:F)(l r:E->E->E->E->E)(h:E.peq (l (.var 0) (.var 1) (.var 2) (.var 3)).norm (r (.var 0) (.var 1) (.var 2) (.var 3)).norm=true):
  (l (.var 0) (.var 1) (.var 2) (.var 3)).den (sL [a,b,c,d])=(r (.var 0) (.var 1) (.var 2) (.var 3)).den (sL [a,b,c,d]):=E.prove _ _ _ h
theorem Kx(a b c d e:F)(l r:E->E->E->E->E->E)
  (h:E.peq (l (.var 0) (.var 1) (.var 2) (.var 3) (.var 4)).norm (r (.var 0) (.var 1) (.var 2) (.var 3) (.var 4)).norm=true) :
  (l (.var 0) (.var 1) (.var 2) (.var 3) (.var 4)).den (sL [a,b,c,d,e])=(r (.var 0) (.var 1) (.var 2) (.var 3) (.var 4)).den (sL [a,b,c,d,e]):=E.prove _ _ _ h
theorem aKn(a b c d e f:F)(l r:E->E->E->E->E->E->E)
  (h:E.peq (l (.var 0) (.var 1) (.var 2) (.var 3) (.var 4) (.var 5)).norm (r (.var 0) (.var 1) (.var 2) (.var 3) (.var 4) (.var 5)).norm=true) :
  (l (.var 0) (.var 1) (.var 2) (.var 3) (.var 4) (.var 5)).den (sL [a,b,c,d,e,f])=(r (.var 0) (.var 1) (.var 2) (.var 3) (.var 4) (.var 5)).den (sL [a,b,c,d,e,f]):=E.prove _ _ _ h
theorem sub_zero(a:F):a-0=a:=HV a (λa=>a-0) (λa=>a) d_
theorem sub_self(a:F):a-a=0:=HV a (λa=>a-a) (λ_=>0) d_
theorem sub_eq_zero{a b:F}:a-b=0↔a=b:=by
 constructor
 ·intro h;have:a=(a-b)+b:=kE a b (λa _=>a) (λa b=>(a-b)+b) d_;rw[this,h,CR.zero_add]
 ·rintro rfl;exact sub_self a
theorem iJ{a:F}:0<a↔aD a=1:=by rw[lt_def,sub_zero]
theorem HW{a:F}:a<0↔aD a=-1:=by rw[lt_def,show(0:F)-a=-a from HV a (λa=>0-a) (λa=>-a) d_,pJ];omega
theorem Oo{a:F}:a=0↔aD a=0:=(fp a).symm
theorem Ky{a:F}:0<=a↔aD a≠-1:=by rw[le_def,sub_zero]
theorem T4{a:F}:a<=0↔aD a≠1:=by rw[le_def,show(0:F)-a=-a from HV a (λa=>0-a) (λa=>-a) d_,pJ];omega
theorem neg_sub(a b:F):-(a-b)=b-a:=kE a b (λa b=>-(a-b)) (λa b=>b-a) d_
theorem FD(a b:F):aD (a-b)=- aD (b-a):=by rw[<-neg_sub,pJ]
theorem lt_irrefl(a:F):¬a<a:=by rw[lt_def,sub_self,(fp (0:F)).2 rfl];decide
theorem not_lt{a b:F}:¬a<b↔b<=a:=by rw[lt_def,le_def,FD a b];omega
theorem not_le{a b:F}:¬a<=b↔b<a:=by rw[lt_def,le_def,FD a b];rcases iR (b-a)with h|h|h<;>rw[h]<;>decide
theorem lt_trans{a b c:F}(h:a<b)(k:b<c):a<c:=by rw[lt_def]at *;rw[show c-a=(c-b)+(b-a)from lq a b c (λa _ c=>c-a) (λa b c=>(c-b)+(b-a)) d_];exact Dh _ _ k h
theorem le_of_lt{a b:F}(h:a<b):a<=b:=by rw[lt_def]at h;rw[le_def,h];decide
theorem le_refl(a:F):a<=a:=by rw[le_def,sub_self,(fp (0:F)).2 rfl];decide
theorem le_of_eq{a b:F}(h:a=b):a<=b:=h▸le_refl a
theorem pK{a b:F}(h:a<=b):a<b\/a=b:=by
 rw[le_def]at h;rw[lt_def];rcases iR (b-a)with k|k|k
 ·exact absurd k h
 ·exact .inr (sub_eq_zero.1 ((fp _).1 k)).symm
 ·exact .inl k
theorem lt_of_lt_of_le{a b c:F}(h:a<b)(k:b<=c):a<c:=by
 rcases pK k with k|rfl
 ·exact lt_trans h k
 ·exact h
theorem lt_of_le_of_lt{a b c:F}(h:a<=b)(k:b<c):a<c:=by
 rcases pK h with h|rfl
 ·exact lt_trans h k
 ·exact k
theorem le_trans{a b c:F}(h:a<=b)(k:b<=c):a<=c:=by
 rcases pK h with h|rfl
 ·exact le_of_lt (lt_of_lt_of_le h k)
 ·exact k
theorem le_antisymm{a b:F}(h:a<=b)(k:b<=a):a=b:=by
 rcases pK h with h|h
 ·exact absurd (lt_of_lt_of_le h k) (lt_irrefl a)
 ·exact h
theorem lt_trichotomy(a b:F):a<b\/a=b\/b<a:=by
 by_cases h:a<b
 ·exact .inl h
 ·rcases pK (not_lt.1 h)with h|h
  ·exact .inr (.inr h)
  ·exact .inr (.inl h.symm)
theorem le_total(a b:F):a<=b\/b<=a:=by
 by_cases h:a<b
 ·exact .inl (le_of_lt h)
 ·exact .inr (not_lt.1 h)
theorem ne_of_lt{a b:F}(h:a<b):a≠b:=λe=>lt_irrefl b (e▸h)
theorem ne_of_gt{a b:F}(h:a<b):b≠a:=λe=>lt_irrefl b (e▸h)
theorem sub_pos{a b:F}:0<b-a↔a<b:=by rw[iJ,lt_def]
theorem sub_nonneg{a b:F}:0<=b-a↔a<=b:=by rw[Ky,le_def]
theorem add_pos{a b:F}(h:0<a)(k:0<b):0<a+b:=by rw[iJ]at *;exact Dh _ _ h k
theorem add_nonneg{a b:F}(h:0<=a)(k:0<=b):0<=a+b:=by
 rcases pK h with h|h
 ·rcases pK k with k|k
  ·exact le_of_lt (add_pos h k)
  ·rw[<-k,CR.add_zero];exact le_of_lt h
 ·rw[<-h,CR.zero_add];exact k
theorem HX{a b:F}(h:0<a)(k:0<=b):0<a+b:=by
 rcases pK k with k|k
 ·exact add_pos h k
 ·rw[<-k,CR.add_zero];exact h
theorem aA3{a b:F}(h:0<=a)(k:0<b):0<a+b:=by rw[CR.add_comm];exact HX k h
theorem mul_pos{a b:F}(h:0<a)(k:0<b):0<a*b:=by rw[iJ]at *;rw[mn,h,k];rfl
theorem mul_nonneg{a b:F}(h:0<=a)(k:0<=b):0<=a*b:=by
 rcases pK h with h|h
 ·rcases pK k with k|k
  ·exact le_of_lt (mul_pos h k)
  ·rw[<-k,CR.mul_zero];exact le_refl _
 ·rw[<-h,CR.zero_mul];exact le_refl _
theorem neg_pos{a:F}:0 < -a↔a<0:=by rw[iJ,HW,pJ];omega
theorem neg_nonneg{a:F}:0<=-a↔a<=0:=by rw[Ky,T4,pJ];omega
theorem Kz{a:F}:-a<0↔0<a:=by rw[iJ,HW,pJ];omega
theorem KA{a:F}:-a<=0↔0<=a:=by rw[Ky,T4,pJ];omega
theorem zero_lt_one:(0:F)<1:=by rw[iJ];exact HU
theorem mX(a:F):0<=a*a:=by rw[Ky,mn];rcases iR a with h|h|h<;>rw[h]<;>decide
theorem T5{a:F}(h:a≠0):0<a*a:=by
 rw[iJ,mn];rcases iR a with k|k|k
 ·rw[k];decide
 ·exact absurd ((fp a).1 k) h
 ·rw[k];decide
theorem mul_eq_zero{a b:F}:a*b=0↔a=0\/b=0:=by rw[<-fp,mn,<-fp,<-fp,Int.mul_eq_zero]
theorem mul_ne_zero{a b:F}(h:a≠0)(k:b≠0):a*b≠0:=λe=>by
 rcases mul_eq_zero.1 e with e|e
 ·exact h e
 ·exact k e
theorem mul_lt_mul_left{a b c:F}(hc:0<c):c*a<c*b↔a<b:=by rw[lt_def,lt_def,show c*b-c*a=c*(b-a)from lq a b c (λa b c=>c*b-c*a) (λa b c=>c*(b-a)) d_,mn,iJ.1 hc,Oj]
theorem mul_le_mul_left{a b c:F}(hc:0<c):c*a<=c*b↔a<=b:=by rw[le_def,le_def,show c*b-c*a=c*(b-a)from lq a b c (λa b c=>c*b-c*a) (λa b c=>c*(b-a)) d_,mn,iJ.1 hc,Oj]
theorem add_lt_add_left{a b:F}(c:F):c+a<c+b↔a<b:=by rw[lt_def,lt_def,show c+b-(c+a)=b-a from lq a b c (λa b c=>c+b-(c+a)) (λa b _=>b-a) d_]
theorem add_le_add_left{a b:F}(c:F):c+a<=c+b↔a<=b:=by rw[le_def,le_def,show c+b-(c+a)=b-a from lq a b c (λa b c=>c+b-(c+a)) (λa b _=>b-a) d_]
theorem add_lt_add_right{a b:F}(c:F):a+c<b+c↔a<b:=by rw[CR.add_comm a,CR.add_comm b];exact add_lt_add_left c
theorem add_le_add_right{a b:F}(c:F):a+c<=b+c↔a<=b:=by rw[CR.add_comm a,CR.add_comm b];exact add_le_add_left c
theorem add_le_add{a b c d:F}(h:a<=b)(k:c<=d):a+c<=b+d:=le_trans ((add_le_add_right c).2 h) ((add_le_add_left b).2 k)
theorem add_lt_add_of_lt_of_le{a b c d:F}(h:a<b)(k:c<=d):a+c<b+d:=lt_of_lt_of_le ((add_lt_add_right c).2 h) ((add_le_add_left b).2 k)
theorem add_lt_add_of_le_of_lt{a b c d:F}(h:a<=b)(k:c<d):a+c<b+d:=lt_of_le_of_lt ((add_le_add_right c).2 h) ((add_lt_add_left b).2 k)
theorem inv_mul{a:F}(h:a≠0):a⁻¹*a=1:=by rw[CR.mul_comm,lS a h]
theorem aKo(a:F):aD a⁻¹=aD a:=by
 by_cases h:a=0
 ·rw[h,inv_zero]
 ·have:=mn a a⁻¹;rw[lS a h,HU]at this;rcases iR a with k|k|k<;>rcases iR a⁻¹ with l|l|l<;>rw[k,l]at this ⊢<;>omega
theorem inv_pos{a:F}(h:0<a):0<a⁻¹:=by rw[iJ]at *;rw[aKo,h]
theorem KB{u v:F}(h:v*v<u*u):aD (u+v)=aD u:=by
 have e:(u+v)*(u-v)=u*u-v*v:=kE u v (λu v=>(u+v)*(u-v)) (λu v=>u*u-v*v) d_;have s:aD (u+v)*aD (u-v)=1:=by rw[<-mn,e];exact h
 have t:(u+v)+(u-v)=u+u:=kE u v (λu v=>(u+v)+(u-v)) (λu _=>u+u) d_;have two:∀ x y:F,aD x=1->aD y=1->x+y=u+u->aD u=1:=by
  intro x y hx hy kB;have:=Dh x y hx hy;rw[kB]at this;rcases iR u with k|k|k
  ·have h2:=Dh (-u) (-u) (by rw[pJ,k];rfl) (by rw[pJ,k];rfl);rw[<-CR.Dg,pJ,this]at h2;exact absurd h2 d_
  ·rw[(fp u).1 k,CR.add_zero,(fp (0:F)).2 rfl]at this;exact absurd this d_
  ·exact k
 rcases iR (u+v)with k|k|k<;>rcases iR (u-v)with l|l|l<;>rw[k,l]at s<;>first|exact absurd s d_|skip
 ·have h1:=Dh (-(u+v)) (-(u-v)) (by rw[pJ,k];rfl) (by rw[pJ,l];rfl);rw[<-CR.Dg,t,CR.Dg]at h1;rw[k];rcases iR u with m|m|m
  ·exact m.symm
  ·rw[(fp u).1 m,CR.neg_zero,CR.add_zero,(fp (0:F)).2 rfl]at h1;exact absurd h1 d_
  ·have h2:=Dh u u m m;rw[<-CR.Dg,pJ,h2]at h1;exact absurd h1 d_
 ·rw[k,two _ _ k l t]
theorem aA4{a b:F}(h:0<a):aD (a*b)=aD b:=by rw[mn,iJ.1 h,Oj]
theorem mul_lt_mul''{a b c d:F}(ha:0<=a)(h:a<b)(hc:0<=c)(k:c<d):a*c<b*d:=by have hb:=lt_of_le_of_lt ha h;have hd:=lt_of_le_of_lt hc k;have e:b*d-a*c=(b-a)*d+a*(d-c):=FC a b c d (λa b c d=>b*d-a*c) (λa b c d=>(b-a)*d+a*(d-c)) d_;rw[<-sub_pos,e];exact HX (mul_pos (sub_pos.2 h) hd) (mul_nonneg ha (sub_nonneg.2 (le_of_lt k)))
end OF
end
section
open CR OF
class xz (F:Type) [OF F] (s:F):Prop where
 pos:0<s
 T6:∀ x y:F,x*x=s*(y*y)->y=0
@[ext] structure bJ (F:Type) (s:F) where
 re:F
 im:F
namespace bJ
variable{F:Type}[OF F]{s:F}
instance:Add (bJ F s):=⟨λx y=>⟨x.re+y.re,x.im+y.im⟩⟩
instance:Mul (bJ F s):=⟨λx y=>⟨x.re*y.re+s*(x.im*y.im),x.re*y.im+x.im*y.re⟩⟩
instance:Neg (bJ F s):=⟨λx=>⟨-x.re,-x.im⟩⟩
instance:Sub (bJ F s):=⟨λx y=>⟨x.re-y.re,x.im-y.im⟩⟩
instance:Zero (bJ F s):=⟨⟨0,0⟩⟩
instance:One (bJ F s):=⟨⟨1,0⟩⟩
def nm(x:bJ F s):F:=x.re*x.re-s*(x.im*x.im)
instance:Inv (bJ F s):=⟨λx=>⟨x.re*(nm x)⁻¹,-(x.im*(nm x)⁻¹)⟩⟩
def sg(x:bJ F s):Int:=if aD (nm x)=1 then aD x.re else aD x.im
theorem T7(x y:bJ F s):(x+y).re=x.re+y.re:=rfl
theorem T8(x y:bJ F s):(x+y).im=x.im+y.im:=rfl
theorem HY(x y:bJ F s):(x*y).re=x.re*y.re+s*(x.im*y.im):=rfl
theorem HZ(x y:bJ F s):(x*y).im=x.re*y.im+x.im*y.re:=rfl
theorem Oq(x:bJ F s):(-x).re=-x.re:=rfl
theorem Ot(x:bJ F s):(-x).im=-x.im:=rfl
theorem H0:(0:bJ F s).re=0:=rfl
theorem H2:(0:bJ F s).im=0:=rfl
theorem T9:(1:bJ F s).re=1:=rfl
theorem aA5:(1:bJ F s).im=0:=rfl
theorem Ua(x:bJ F s):(x⁻¹).re=x.re*(nm x)⁻¹:=rfl
theorem Ub(x:bJ F s):(x⁻¹).im=-(x.im*(nm x)⁻¹):=rfl
theorem Ou(x y:bJ F s):nm (x*y)=nm x*nm y:=by
 unfold nm;rw[HY,HZ]
 exact Kx x.re x.im y.re y.im s (λa b c d s=>(a*c+s*(b*d))*(a*c+s*(b*d))-s*((a*d+b*c)*(a*d+b*c)))
  (λa b c d s=>(a*a-s*(b*b))*(c*c-s*(d*d))) d_
theorem aA6(x:bJ F s):nm (-x)=nm x:=by unfold nm;rw[Oq,Ot];exact lq x.re x.im s (λa b s=>-a*-a-s*(-b*-b)) (λa b s=>a*a-s*(b*b)) d_
theorem sO{x:bJ F s}(h:aD (nm x)=1):sg x=aD x.re:=by unfold sg;rw[ax h]
theorem tT{x:bJ F s}(h:aD (nm x)=-1):sg x=aD x.im:=by unfold sg;rw[ao (by rw[h];decide)]
theorem H3:sg (0:bJ F s)=0:=by unfold sg;split<;>exact(fp _).2 rfl
theorem Uc(x:bJ F s):sg (-x)=- sg x:=by unfold sg;rw[aA6,Oq,Ot,OF.pJ,OF.pJ];split<;>rfl
theorem aKp(x:bJ F s):sg x=-1\/sg x=0\/sg x=1:=by unfold sg;split<;>exact iR _
theorem Ov(x:bJ F s):(-x).re*(-x).re=x.re*x.re/\(-x).im*(-x).im=x.im*x.im:=by rw[Oq,Ot];exact⟨HV x.re (λa=>-a*-a) (λa=>a*a) d_,HV x.im (λa=>-a*-a) (λa=>a*a) d_⟩
theorem aKq(x y:bJ F s):x+y=y+x:=bJ.ext (CR.add_comm _ _) (CR.add_comm _ _)
theorem aKr:sg (1:bJ F s)=1:=by
 have:nm (1:bJ F s)=1:=by unfold nm;rw[T9,aA5,CR.mul_zero,CR.mul_zero,OF.sub_zero,CR.one_mul]
 rw[sO (by rw[this];exact HU),T9];exact HU
variable[hs:xz F s]
theorem Ow{x:bJ F s}(h:nm x=0):x=0:=by
 have h1:=OF.sub_eq_zero.1 h;have h2:=xz.T6 _ _ h1;have h3:x.re=0:=by rw[h2,CR.mul_zero,CR.mul_zero]at h1;rcases mul_eq_zero.1 h1 with h|h<;>exact h
 exact bJ.ext h3 h2
theorem ways(x:bJ F s):x=0\/(aD (nm x)=1/\s*(x.im*x.im)<x.re*x.re)\/(aD (nm x)=-1/\x.re*x.re<s*(x.im*x.im)):=by
 rcases OF.lt_trichotomy (x.re*x.re) (s*(x.im*x.im))with h|h|h
 ·refine .inr (.inr ⟨?_,h⟩);unfold nm;rw[FD,show aD (s*(x.im*x.im)-x.re*x.re)=1 from h]
 ·exact .inl (Ow (OF.sub_eq_zero.2 h))
 ·exact .inr (.inl ⟨h,h⟩)
theorem aKs:aD s=1:=iJ.1 (xz.pos (F:=F) (s:=s))
theorem aKt(x y:bJ F s):sg (x*y)=sg x*sg y:=by
 have hz:∀ z:bJ F s,(0:bJ F s)*z=0:=λz=>by
  apply bJ.ext
  ·rw[HY,H0,H2,CR.zero_mul,CR.zero_mul,CR.mul_zero,CR.add_zero]
  ·rw[HZ,H0,H2,CR.zero_mul,CR.zero_mul,CR.add_zero]
 have nX:∀ z:bJ F s,z*(0:bJ F s)=0:=λz=>by
  apply bJ.ext
  ·rw[HY,H0,H2,CR.mul_zero,CR.mul_zero,CR.mul_zero,CR.add_zero]
  ·rw[HZ,H0,H2,CR.mul_zero,CR.mul_zero,CR.add_zero]
 have hp:=xz.pos (F:=F) (s:=s);rcases ways x with rfl|⟨hx,lx⟩|⟨hx,lx⟩
 ·rw[hz,H3,Int.zero_mul]
 ·rcases ways y with rfl|⟨hy,ly⟩|⟨hy,ly⟩
  ·rw[nX,H3,Int.mul_zero]
  ·have hn:aD (nm (x*y))=1:=by rw[Ou,mn,hx,hy];rfl
   rw[sO hx,sO hy,sO hn,<-mn,HY];apply KB;have:=mul_lt_mul'' (mul_nonneg (le_of_lt hp) (mX _)) lx (mul_nonneg (le_of_lt hp) (mX _)) ly;rw[show s*(x.im*y.im)*(s*(x.im*y.im))=s*(x.im*x.im)*(s*(y.im*y.im))from lq x.im y.im s (λb d s=>s*(b*d)*(s*(b*d))) (λb d s=>s*(b*b)*(s*(d*d))) d_];rw[show x.re*y.re*(x.re*y.re)=x.re*x.re*(y.re*y.re)from kE x.re y.re (λa c=>a*c*(a*c)) (λa c=>a*a*(c*c)) d_];exact this
  ·have hn:aD (nm (x*y))=-1:=by rw[Ou,mn,hx,hy];rfl
   rw[sO hx,tT hy,tT hn,<-mn,HZ];apply KB;have:=mul_lt_mul'' (mul_nonneg (le_of_lt hp) (mX _)) lx (mX _) ly;rw[<-mul_lt_mul_left hp];rw[show s*(x.im*y.re*(x.im*y.re))=s*(x.im*x.im)*(y.re*y.re)from lq x.im y.re s (λb c s=>s*(b*c*(b*c))) (λb c s=>s*(b*b)*(c*c)) d_];rw[show s*(x.re*y.im*(x.re*y.im))=x.re*x.re*(s*(y.im*y.im))from lq x.re y.im s (λa d s=>s*(a*d*(a*d))) (λa d s=>a*a*(s*(d*d))) d_];exact this
 ·rcases ways y with rfl|⟨hy,ly⟩|⟨hy,ly⟩
  ·rw[nX,H3,Int.mul_zero]
  ·have hn:aD (nm (x*y))=-1:=by rw[Ou,mn,hx,hy];rfl
   rw[tT hx,sO hy,tT hn,<-mn,HZ,CR.add_comm];apply KB;have:=mul_lt_mul'' (mX _) lx (mul_nonneg (le_of_lt hp) (mX _)) ly;rw[<-mul_lt_mul_left hp];rw[show s*(x.im*y.re*(x.im*y.re))=s*(x.im*x.im)*(y.re*y.re)from lq x.im y.re s (λb c s=>s*(b*c*(b*c))) (λb c s=>s*(b*b)*(c*c)) d_];rw[show s*(x.re*y.im*(x.re*y.im))=x.re*x.re*(s*(y.im*y.im))from lq x.re y.im s (λa d s=>s*(a*d*(a*d))) (λa d s=>a*a*(s*(d*d))) d_];exact this
  ·have hn:aD (nm (x*y))=1:=by rw[Ou,mn,hx,hy];rfl
   rw[tT hx,tT hy,sO hn,<-mn,HY,CR.add_comm];rw[show aD (x.im*y.im)=aD (s*(x.im*y.im))by rw[aA4 hp]];apply KB;have:=mul_lt_mul'' (mX _) lx (mX _) ly;rw[show s*(x.im*y.im)*(s*(x.im*y.im))=s*(x.im*x.im)*(s*(y.im*y.im))from lq x.im y.im s (λb d s=>s*(b*d)*(s*(b*d))) (λb d s=>s*(b*b)*(s*(d*d))) d_];rw[show x.re*y.re*(x.re*y.re)=x.re*x.re*(y.re*y.re)from kE x.re y.re (λa c=>a*c*(a*c)) (λa c=>a*a*(c*c)) d_];exact this
theorem aKu(x:bJ F s):sg x=0↔x=0:=by
 constructor
 ·intro h;rcases ways x with rfl|⟨hx,lx⟩|⟨hx,lx⟩
  ·rfl
  ·rw[sO hx]at h;rw[(fp _).1 h,CR.mul_zero]at lx;exact absurd (lt_of_le_of_lt (mul_nonneg (le_of_lt (xz.pos (F:=F) (s:=s))) (mX _)) lx) (OF.lt_irrefl _)
  ·rw[tT hx]at h;rw[(fp _).1 h,CR.mul_zero,CR.mul_zero]at lx;exact absurd (lt_of_le_of_lt (mX _) lx) (OF.lt_irrefl _)
 ·rintro rfl;exact H3
theorem aA7{u v:F}(hu:0<u)(h:v*v<u*u):0<u+v:=by rw[iJ,KB h];exact iJ.1 hu
theorem add_one{x y:bJ F s}(hx:s*(x.im*x.im)<x.re*x.re)(hy:s*(y.im*y.im)<y.re*y.re)(px:0<x.re)(py:0<y.re):sg (x+y)=1:=by
 have hp:=xz.pos (F:=F) (s:=s);have:=mul_lt_mul'' (mul_nonneg (le_of_lt hp) (mX _)) hx (mul_nonneg (le_of_lt hp) (mX _)) hy;have h1:0<x.re*y.re+-(s*(x.im*y.im)):=by apply aA7 (mul_pos px py);rw[show -(s*(x.im*y.im))*-(s*(x.im*y.im))=s*(x.im*x.im)*(s*(y.im*y.im))from lq x.im y.im s (λb d s=>-(s*(b*d))*-(s*(b*d))) (λb d s=>s*(b*b)*(s*(d*d))) d_];rw[show x.re*y.re*(x.re*y.re)=x.re*x.re*(y.re*y.re)from kE x.re y.re (λa c=>a*c*(a*c)) (λa c=>a*a*(c*c)) d_];exact this
 have hn:aD (nm (x+y))=1:=by
  rw[<-iJ];unfold nm;rw[T7,T8];rw[show(x.re+y.re)*(x.re+y.re)-s*((x.im+y.im)*(x.im+y.im))=(x.re*x.re-s*(x.im*x.im))+(y.re*y.re-s*(y.im*y.im))+((x.re*y.re+-(s*(x.im*y.im)))+(x.re*y.re+-(s*(x.im*y.im))))from
   Kx x.re x.im y.re y.im s (λa b c d s=>(a+c)*(a+c)-s*((b+d)*(b+d))) (λa b c d s=>(a*a-s*(b*b))+(c*c-s*(d*d))+((a*c+-(s*(b*d)))+(a*c+-(s*(b*d))))) d_]
  exact add_pos (add_pos (sub_pos.2 hx) (sub_pos.2 hy)) (add_pos h1 h1)
 rw[sO hn,T7];exact iJ.1 (add_pos px py)
theorem aA8{x y:bJ F s}(hx:x.re*x.re<s*(x.im*x.im))(hy:y.re*y.re<s*(y.im*y.im))(px:0<x.im)(py:0<y.im):sg (x+y)=1:=by
 have hp:=xz.pos (F:=F) (s:=s);have:=mul_lt_mul'' (mX _) hx (mX _) hy;have h1:0<s*(x.im*y.im)+-(x.re*y.re):=by apply aA7 (mul_pos hp (mul_pos px py));rw[show s*(x.im*y.im)*(s*(x.im*y.im))=s*(x.im*x.im)*(s*(y.im*y.im))from lq x.im y.im s (λb d s=>s*(b*d)*(s*(b*d))) (λb d s=>s*(b*b)*(s*(d*d))) d_];rw[show -(x.re*y.re)*-(x.re*y.re)=x.re*x.re*(y.re*y.re)from kE x.re y.re (λa c=>-(a*c)*-(a*c)) (λa c=>a*a*(c*c)) d_];exact this
 have hn:aD (nm (x+y))=-1:=by
  rw[<-HW,<-neg_pos];unfold nm;rw[T7,T8];rw[show -((x.re+y.re)*(x.re+y.re)-s*((x.im+y.im)*(x.im+y.im)))=(s*(x.im*x.im)-x.re*x.re)+(s*(y.im*y.im)-y.re*y.re)+((s*(x.im*y.im)+-(x.re*y.re))+(s*(x.im*y.im)+-(x.re*y.re)))from
   Kx x.re x.im y.re y.im s (λa b c d s=>-((a+c)*(a+c)-s*((b+d)*(b+d)))) (λa b c d s=>(s*(b*b)-a*a)+(s*(d*d)-c*c)+((s*(b*d)+-(a*c))+(s*(b*d)+-(a*c)))) d_]
  exact add_pos (add_pos (sub_pos.2 hx) (sub_pos.2 hy)) (add_pos h1 h1)
 rw[tT hn,T8];exact iJ.1 (add_pos px py)
theorem aKv(x y:bJ F s)(hx:sg x=1)(hy:sg y=1):sg (x+y)=1:=by
 have ne:∀ z:bJ F s,sg z=1->z≠0:=λz h e=>by rw[e,H3]at h;exact absurd h d_
 -- the first part of x aVS,the second one of y
 have mixed:∀ x y:bJ F s,sg x=1->sg y=1->aD (nm x)=1->s*(x.im*x.im)<x.re*x.re->aD (nm y)=-1->y.re*y.re<s*(y.im*y.im)->sg (x+y)=1:=by
  intro x y hx hy nx lx ny ly;rw[sO nx]at hx;rw[tT ny]at hy;rcases ways (x+y)with h|⟨hn,ln⟩|⟨hn,ln⟩
  ·have:y=-x:=by have h1:x.re+y.re=0:=cL bJ.re h;have h2:x.im+y.im=0:=cL bJ.im h;exact bJ.ext (CR.HR h1) (CR.HR h2)
   rw[this,aA6,nx]at ny;exact absurd ny d_
  ·rw[sO hn];rcases iR (x+y).re with k|k|k
   ·-- then -(x+y) and x add up to -y
    have h3:=add_one (x:=-(x+y)) (y:=x) (by rw[(Ov _).1,(Ov _).2];exact ln) lx (by rw[Oq];exact neg_pos.2 (HW.2 k)) (iJ.2 hx);have h4:-(x+y)+x=-y:=bJ.ext (kE x.re y.re (λa c=>-(a+c)+a) (λ_ c=>-c) d_) (kE x.im y.im (λa c=>-(a+c)+a) (λ_ c=>-c) d_);rw[h4,Uc,tT ny,hy]at h3;exact absurd h3 d_
   ·have k0:=(fp _).1 k;rw[k0,CR.mul_zero]at ln;exact absurd (lt_of_le_of_lt (mul_nonneg (le_of_lt (xz.pos (F:=F) (s:=s))) (mX _)) ln) (OF.lt_irrefl _)
   ·exact k
  ·rw[tT hn];rcases iR (x+y).im with k|k|k
   ·have h3:=aA8 (x:=-(x+y)) (y:=y) (by rw[(Ov _).1,(Ov _).2];exact ln) ly (by rw[Ot];exact neg_pos.2 (HW.2 k)) (iJ.2 hy);have h4:-(x+y)+y=-x:=bJ.ext (kE x.re y.re (λa c=>-(a+c)+c) (λa _=>-a) d_) (kE x.im y.im (λa c=>-(a+c)+c) (λa _=>-a) d_);rw[h4,Uc,sO nx,hx]at h3;exact absurd h3 d_
   ·have k0:=(fp _).1 k;rw[k0,CR.mul_zero,CR.mul_zero]at ln;exact absurd (lt_of_le_of_lt (mX _) ln) (OF.lt_irrefl _)
   ·exact k
 rcases ways x with h|⟨nx,lx⟩|⟨nx,lx⟩
 ·exact absurd h (ne x hx)
 ·rcases ways y with h|⟨ny,ly⟩|⟨ny,ly⟩
  ·exact absurd h (ne y hy)
  ·rw[sO nx]at hx;rw[sO ny]at hy;exact add_one lx ly (iJ.2 hx) (iJ.2 hy)
  ·exact mixed x y hx hy nx lx ny ly
 ·rcases ways y with h|⟨ny,ly⟩|⟨ny,ly⟩
  ·exact absurd h (ne y hy)
  ·rw[aKq];exact mixed y x hy hx ny ly nx lx
  ·rw[tT nx]at hx;rw[tT ny]at hy;exact aA8 lx ly (iJ.2 hx) (iJ.2 hy)
instance:OF (bJ F s) where
 add_assoc a b c:=bJ.ext (CR.add_assoc _ _ _) (CR.add_assoc _ _ _)
 add_comm a b:=bJ.ext (CR.add_comm _ _) (CR.add_comm _ _)
 zero_add a:=bJ.ext (CR.zero_add _) (CR.zero_add _)
 neg_add a:=bJ.ext (CR.neg_add _) (CR.neg_add _)
 mul_assoc x y z:=bJ.ext
  (E.prove (sL [x.re,x.im,y.re,y.im,z.re,z.im,s]) ((E.var 0*E.var 2+E.var 6*(E.var 1*E.var 3))*E.var 4+E.var 6*((E.var 0*E.var 3+E.var 1*E.var 2)*E.var 5))
   (E.var 0*(E.var 2*E.var 4+E.var 6*(E.var 3*E.var 5))+E.var 6*(E.var 1*(E.var 2*E.var 5+E.var 3*E.var 4))) d_)
  (E.prove (sL [x.re,x.im,y.re,y.im,z.re,z.im,s]) ((E.var 0*E.var 2+E.var 6*(E.var 1*E.var 3))*E.var 5+(E.var 0*E.var 3+E.var 1*E.var 2)*E.var 4)
   (E.var 0*(E.var 2*E.var 5+E.var 3*E.var 4)+E.var 1*(E.var 2*E.var 4+E.var 6*(E.var 3*E.var 5))) d_)
 mul_comm x y:=bJ.ext
  (Kx x.re x.im y.re y.im s (λa b c d s=>a*c+s*(b*d)) (λa b c d s=>c*a+s*(d*b)) d_)
  (FC x.re x.im y.re y.im (λa b c d=>a*d+b*c) (λa b c d=>c*b+d*a) d_)
 one_mul x:=bJ.ext
  (lq x.re x.im s (λa b s=>1*a+s*(0*b)) (λa _ _=>a) d_)
  (kE x.re x.im (λa b=>1*b+0*a) (λ_ b=>b) d_)
 mul_add x y z:=bJ.ext
  (E.prove (sL [x.re,x.im,y.re,y.im,z.re,z.im,s]) (E.var 0*(E.var 2+E.var 4)+E.var 6*(E.var 1*(E.var 3+E.var 5)))
   ((E.var 0*E.var 2+E.var 6*(E.var 1*E.var 3))+(E.var 0*E.var 4+E.var 6*(E.var 1*E.var 5))) d_)
  (aKn x.re x.im y.re y.im z.re z.im (λa b c d e f=>a*(d+f)+b*(c+e)) (λa b c d e f=>(a*d+b*c)+(a*f+b*e)) d_)
 sub_def a b:=bJ.ext (CR.sub_def _ _) (CR.sub_def _ _)
 lS x h:=by
  have hn:nm x≠0:=λe=>h (Ow e);have h1:=lS (nm x) hn;apply bJ.ext
  ·rw[HY,Ua,Ub,T9,<-h1];exact FC x.re x.im s (nm x)⁻¹ (λa b s n=>a*(a*n)+s*(b*-(b*n))) (λa b s n=>(a*a-s*(b*b))*n) d_
  ·rw[HZ,Ua,Ub,aA5];exact lq x.re x.im (nm x)⁻¹ (λa b n=>a*-(b*n)+b*(a*n)) (λ_ _ _=>0) d_
 inv_zero:=by
  apply bJ.ext
  ·rw[Ua,H0,CR.zero_mul]
  ·rw[Ub,H2,CR.zero_mul,CR.neg_zero]
 aD:=sg
 fp:=aKu
 iR:=aKp
 pJ:=Uc
 mn:=aKt
 Dh:=aKv
 HU:=aKr
end bJ
theorem Br(q:Rat):q.num.sign=1↔0<q:=by rw[aA9,Rat.lt_iff];simp
theorem H4(q:Rat):q.num.sign=-1↔q<0:=by rw[aKw,Rat.lt_iff];simp
theorem H5(q:Rat):q.num.sign=0↔q=0:=by rw[aKx];exact Rat.num_eq_zero
theorem Ud(q:Rat):q.num.sign=-1\/q.num.sign=0\/q.num.sign=1:=by
 rcases Ox q.num 0 with h|h|h
 ·exact .inl (aKw.2 h)
 ·exact .inr (.inl (aKx.2 h))
 ·exact .inr (.inr (aA9.2 h))
instance:OF Rat where
 add_assoc:=Rat.add_assoc
 add_comm:=Rat.add_comm
 zero_add:=Rat.zero_add
 neg_add:=Rat.neg_add_cancel
 mul_assoc:=Rat.mul_assoc
 mul_comm:=Rat.mul_comm
 one_mul:=Rat.one_mul
 mul_add:=Rat.mul_add
 sub_def:=Rat.sub_eq_add_neg
 lS:=λx h=>H6 x h
 inv_zero:=Rat.inv_zero
 aD q:=q.num.sign
 fp:=H5
 iR:=Ud
 pJ q:=by rw[Rat.neg_num,Int.sign_neg]
 mn x y:=by
  rcases Ud x with h|h|h<;>rcases Ud y with k|k|k<;>rw[h,k]
  ·exact(Br _).2 (by have:=(H4 _).1 h;have:=(H4 _).1 k;have h2:=Ue (a:=-x) (b:=-y) (by grind) (by grind);grind)
  ·rw[(H5 y).1 k,Rat.mul_zero];rfl
  ·exact(H4 _).2 (by have:=(H4 _).1 h;have:=(Br _).1 k;have h2:=Ue (a:=-x) (b:=y) (by grind) (by grind);grind)
  ·rw[(H5 x).1 h,Rat.zero_mul];rfl
  ·rw[(H5 x).1 h,Rat.zero_mul];rfl
  ·rw[(H5 x).1 h,Rat.zero_mul];rfl
  ·exact(H4 _).2 (by have:=(Br _).1 h;have:=(H4 _).1 k;have h2:=Ue (a:=x) (b:=-y) (by grind) (by grind);grind)
  ·rw[(H5 y).1 k,Rat.mul_zero];rfl
  ·exact(Br _).2 (Ue ((Br _).1 h) ((Br _).1 k))
 Dh x y h k:=(Br _).2 (by have:=(Br _).1 h;have:=(Br _).1 k;grind)
 HU:=rfl
theorem aKy(n:Nat)(hn:n=2\/n=3\/n=6)(p q:Nat)(h:p*p=n*(q*q))(hc:Nat.gcd p q=1):False:=by
 rcases hn with rfl|rfl|rfl
 ·have h1:p%2=0:=by
   have:(p*p)%2=0:=by rw[h];omega
   rcases Uf p with k|k
   ·exact k
   ·rw[KC,k]at this;exact absurd this d_
  obtain⟨r,rfl⟩:∃ r,p=2*r:=⟨p/2,by omega⟩;have h2:q*q=2*(r*r):=by
   have:2*r*(2*r)=2*(2*(r*r)):=by simp only[fU,mS]
   omega
  have h3:q%2=0:=by
   have:(q*q)%2=0:=by rw[h2];omega
   rcases Uf q with k|k
   ·exact k
   ·rw[KC,k]at this;exact absurd this d_
  have:=H7 (KD h1) (KD h3);rw[hc]at this;exact absurd this d_
 ·have m3:∀ k:Nat,(k*k)%3=0->k%3=0:=by
   intro k hk;have:k%3=0\/k%3=1\/k%3=2:=by omega
   rcases this with e|e|e
   ·exact e
   ·rw[KC,e]at hk;exact absurd hk d_
   ·rw[KC,e]at hk;exact absurd hk d_
  have h1:p%3=0:=m3 p (by rw[h];omega);obtain⟨r,rfl⟩:∃ r,p=3*r:=⟨p/3,by omega⟩;have h2:q*q=3*(r*r):=by
   have:3*r*(3*r)=3*(3*(r*r)):=by simp only[fU,mS]
   omega
  have h3:q%3=0:=m3 q (by rw[h2];omega);have:=H7 (KD h1) (KD h3);rw[hc]at this;exact absurd this d_
 ·have h1:p%2=0:=by
   have:(p*p)%2=0:=by rw[h];omega
   rcases Uf p with k|k
   ·exact k
   ·rw[KC,k]at this;exact absurd this d_
  obtain⟨r,rfl⟩:∃ r,p=2*r:=⟨p/2,by omega⟩;have h2:3*(q*q)=2*(r*r):=by
   have:2*r*(2*r)=2*(2*(r*r)):=by simp only[fU,mS]
   omega
  have h3:q%2=0:=by
   have:(q*q)%2=0:=by omega
   rcases Uf q with k|k
   ·exact k
   ·rw[KC,k]at this;exact absurd this d_
  have:=H7 (KD h1) (KD h3);rw[hc]at this;exact absurd this d_
theorem Ug(n:Nat)(hn:n=2\/n=3\/n=6)(x:Rat)(h:x*x=(n:Rat)):False:=by
 have hd:(x.den:Rat)≠0:=by have:=x.den_nz;simpa[Rat.natCast_eq_zero_iff]using this
 have e:(x.num:Rat)*x.num=n*(x.den*x.den):=by
  have h3:x*(x.den:Rat)=x.num:=by have h4:(x.num:Rat)/x.den*x.den=x.num:=aBa hd;rw[<-Rat.mkRat_eq_div,Rat.mkRat_self]at h4;exact h4
  rw[<-h3,<-h];grind
 have e':x.num*x.num=n*(x.den*x.den):=by
  have:((x.num*x.num:Int):Rat)=((n*(x.den*x.den):Int):Rat):=by simp only[Di,Rat.intCast_natCast];exact e
  exact Rat.intCast_inj.1 this
 have e'':x.num.natAbs*x.num.natAbs=n*(x.den*x.den):=by have:=cL Int.natAbs e';rw[xA]at this;rw[this];simp[xA]
 exact aKy n hn _ _ e'' x.reduced
theorem aKz{x y c:Rat}(h:x*x=c*(y*y))(hy:y≠0):(x*y⁻¹)*(x*y⁻¹)=c:=by
 have:=H6 y hy;have e:(x*y⁻¹)*(x*y⁻¹)=(x*x)*(y⁻¹*y⁻¹):=by grind
 rw[e,h];grind
instance aVT:xz Rat 2 where
 pos:=by rw[iJ];rfl
 T6 x y h:=by
  by_cases hy:y=0
  ·exact hy
  ·exact(Ug 2 (.inl rfl) _ (aKz h hy)).elim
abbrev K2:=bJ Rat 2
def zz:K2:=⟨3,0⟩
theorem aKA(x:K2)(h:x*x=zz):False:=by
 have h1:x.re*x.re+2*(x.im*x.im)=3:=cL bJ.re h;have h2:x.re*x.im+x.im*x.re=0:=cL bJ.im h;have h3:x.re=0\/x.im=0:=by
  have:x.re*x.im=0:=by grind
  exact Rat.mul_eq_zero.1 this
 rcases h3 with h3|h3
 ·have:(2*x.im)*(2*x.im)=((6:Nat):Rat):=by rw[h3]at h1;have:((6:Nat):Rat)=6:=rfl;grind
  exact Ug 6 (.inr (.inr rfl)) _ this
 ·have:x.re*x.re=((3:Nat):Rat):=by rw[h3]at h1;have:((3:Nat):Rat)=3:=rfl;grind
  exact Ug 3 (.inr (.inl rfl)) _ this
instance aVU:xz K2 zz where
 pos:=by rw[iJ];decide +kernel
 T6 x y h:=by
  by_cases hy:y=0
  ·exact hy
  ·refine(aKA (x*y⁻¹) ?_).elim;have h1:=OF.lS y hy;rw[show x*y⁻¹*(x*y⁻¹)=x*x*(y⁻¹*y⁻¹)from kE x y⁻¹ (λx i=>x*i*(x*i)) (λx i=>x*x*(i*i)) d_,h];rw[show zz*(y*y)*(y⁻¹*y⁻¹)=zz*((y*y⁻¹)*(y*y⁻¹))from lq y y⁻¹ zz (λy i t=>t*(y*y)*(i*i)) (λy i t=>t*((y*i)*(y*i))) d_,h1,CR.mul_one,CR.mul_one]
abbrev K:=bJ K2 zz
instance:OF K:=inferInstance
instance:DecidableEq K2:=λx y=>decidable_of_iff (x.re=y.re/\x.im=y.im) ⟨λh=>bJ.ext h.1 h.2,λh=>by subst h;exact⟨rfl,rfl⟩⟩
instance:DecidableEq K:=λx y=>decidable_of_iff (x.re=y.re/\x.im=y.im) ⟨λh=>bJ.ext h.1 h.2,λh=>by subst h;exact⟨rfl,rfl⟩⟩
structure Fr where
 a:Int
 b:Int
 c:Int
 e:Int
 d:Int
theorem Fr.ext'{x y:Fr}(h1:x.a=y.a)(h2:x.b=y.b)(h3:x.c=y.c)(h4:x.e=y.e)(h5:x.d=y.d):x=y:=by cases x;cases y;simp at *;exact⟨h1,h2,h3,h4,h5⟩
def Fr.val(x:Fr):K:=⟨⟨Rat.divInt x.a x.d,Rat.divInt x.b x.d⟩,⟨Rat.divInt x.c x.d,Rat.divInt x.e x.d⟩⟩
def Fr.g(x:Fr):Nat:=Nat.gcd (Nat.gcd (Nat.gcd (Nat.gcd x.d.natAbs x.a.natAbs) x.b.natAbs) x.c.natAbs) x.e.natAbs
structure Fr.pL(x:Fr):Prop where
 pos:0<x.d
 one:x.g=1
theorem aKB{x:Fr}(hd:k ∣ x.d.natAbs)(ha:k ∣ x.a.natAbs)(hb:k ∣ x.b.natAbs)(hc:k ∣ x.c.natAbs)(he:k ∣ x.e.natAbs):k ∣ x.g:=
 H7 (H7 (H7 (H7 hd ha) hb) hc) he
theorem FE(x:Fr):x.g ∣ x.d.natAbs:=Dj (Dj (Dj (Bt _ _) (Bt _ _)) (Bt _ _)) (Bt _ _)
theorem Oy(x:Fr):x.g ∣ x.a.natAbs:=Dj (Dj (Dj (Bt _ _) (Bt _ _)) (Bt _ _)) (Uh _ _)
theorem Oz(x:Fr):x.g ∣ x.b.natAbs:=Dj (Dj (Bt _ _) (Bt _ _)) (Uh _ _)
theorem OA(x:Fr):x.g ∣ x.c.natAbs:=Dj (Bt _ _) (Uh _ _)
theorem OB(x:Fr):x.g ∣ x.e.natAbs:=Uh _ _
theorem aBb(x:Fr)(k:Nat):(Fr.mk (x.a*k) (x.b*k) (x.c*k) (x.e*k) (x.d*k)).g=x.g*k:=by unfold Fr.g;simp only[xA,xB,Nat.gcd_mul_right]
theorem aBc{x y:Fr}(hx:x.pL)(hy:y.pL)(h:x.val=y.val):x.d.natAbs ∣ y.d.natAbs:=by
 have xC:x.d≠0:=by have:=hx.pos;omega
 have vP:y.d≠0:=by have:=hy.pos;omega
 have hr:=cL bJ.re h;have hi:=cL bJ.im h;have h1:Rat.divInt x.a x.d=Rat.divInt y.a y.d:=cL bJ.re hr;have h2:Rat.divInt x.b x.d=Rat.divInt y.b y.d:=cL bJ.im hr;have h3:Rat.divInt x.c x.d=Rat.divInt y.c y.d:=cL bJ.re hi;have h4:Rat.divInt x.e x.d=Rat.divInt y.e y.d:=cL bJ.im hi;rw[Rat.divInt_eq_divInt_iff xC vP]at h1 h2 h3 h4;have key:∀ u v:Int,u*y.d=v*x.d->x.d.natAbs ∣ (u*(y.d.natAbs:Int)).natAbs:=by
  intro u v e;have e2:(u*(y.d.natAbs:Int)).natAbs=(u*y.d).natAbs:=by simp[xA]
  rw[e2,e,xA];exact Nat.dvd_mul_left _ _
 have:=aKB (x:=Fr.mk (x.a*(y.d.natAbs:Int)) (x.b*(y.d.natAbs:Int)) (x.c*(y.d.natAbs:Int)) (x.e*(y.d.natAbs:Int)) (x.d*(y.d.natAbs:Int))) (k:=x.d.natAbs)
  (by rw[xA];exact Nat.dvd_mul_right _ _) (key _ _ h1) (key _ _ h2) (key _ _ h3) (key _ _ h4)
 rw[aBb,hx.one,ql]at this;exact this
theorem aBd{x y:Fr}(hx:x.pL)(hy:y.pL)(h:x.val=y.val):x=y:=by
 have lT:=hx.pos;have hyp:=hy.pos;have hd:x.d=y.d:=by have:=Nat.dvd_antisymm (aBc hx hy h) (aBc hy hx h.symm);omega
 have xC:x.d≠0:=by omega
 have vP:y.d≠0:=by omega
 have hr:=cL bJ.re h;have hi:=cL bJ.im h;have h1:Rat.divInt x.a x.d=Rat.divInt y.a y.d:=cL bJ.re hr;have h2:Rat.divInt x.b x.d=Rat.divInt y.b y.d:=cL bJ.im hr;have h3:Rat.divInt x.c x.d=Rat.divInt y.c y.d:=cL bJ.re hi;have h4:Rat.divInt x.e x.d=Rat.divInt y.e y.d:=cL bJ.im hi;rw[Rat.divInt_eq_divInt_iff xC vP,hd]at h1 h2 h3 h4;exact Fr.ext' (Ui vP h1) (Ui vP h2) (Ui vP h3) (Ui vP h4) hd
def Fr.s(x:Fr):Int:=if x.d<0 then -(x.g:Int)else x.g
def Fr.low(x:Fr):Fr:=⟨x.a/x.s,x.b/x.s,x.c/x.s,x.e/x.s,x.d/x.s⟩
theorem Uj{x:Fr}(hd:x.d≠0):0<x.g:=Nat.pos_of_dvd_of_pos (FE x) o_
theorem Uk{x:Fr}(hd:x.d≠0):x.s≠0:=by have:=Uj hd;unfold Fr.s;split<;>omega
theorem OC(x:Fr):x.s.natAbs=x.g:=by unfold Fr.s;split<;>simp
theorem Dk{x:Fr}{u:Int}(h:x.g ∣ u.natAbs):x.s ∣ u:=by rw[<-Int.natAbs_dvd_natAbs,OC];exact h
theorem aBe{x:Fr}:x.a=x.low.a*x.s/\x.b=x.low.b*x.s/\x.c=x.low.c*x.s/\x.e=x.low.e*x.s/\x.d=x.low.d*x.s:=
 ⟨(OD (Dk (Oy x))).symm,(OD (Dk (Oz x))).symm,(OD (Dk (OA x))).symm,(OD (Dk (OB x))).symm,(OD (Dk (FE x))).symm⟩
theorem aBf{x:Fr}(hd:x.d≠0):x.low.val=x.val:=by obtain⟨h1,h2,h3,h4,h5⟩:=aBe (x:=x);have hs:=Uk hd;have key:∀ u v:Int,Rat.divInt u x.low.d=Rat.divInt (u*x.s) (x.low.d*x.s):=λu _=>(Rat.divInt_mul_right hs).symm;unfold Fr.val;rw[key _ 0,key _ 0,key _ 0,key _ 0,<-h1,<-h2,<-h3,<-h4,<-h5]
theorem aBg{x:Fr}(hd:x.d≠0):x.low.pL:=by
 obtain⟨h1,h2,h3,h4,h5⟩:=aBe (x:=x);have hg:=Uj hd;constructor
 ·have:x.d=x.low.d*x.s:=h5;rcases Int.lt_or_gt_of_ne hd with h|h
  ·have hs:x.s<0:=by unfold Fr.s;rw[ax h];omega
   rcases Ox x.low.d 0 with k|k|k
   ·have:=Int.mul_pos_of_neg_of_neg k hs;omega
   ·rw[k,Int.zero_mul]at this;omega
   ·exact k
  ·have hs:0<x.s:=by unfold Fr.s;rw[ao o_];omega
   rcases Ox x.low.d 0 with k|k|k
   ·have:=Int.mul_neg_of_neg_of_pos k hs;omega
   ·rw[k,Int.zero_mul]at this;omega
   ·exact k
 ·have e:x.g=x.low.g*x.g:=by
   obtain⟨G,hG⟩:∃ G,G=x.g:=⟨_,rfl⟩;have ab:∀ u v:Int,u=v*x.s->u.natAbs=(v*(G:Int)).natAbs:=λu v h=>by rw[h,xA,xA,OC,xB,hG]
   have h:=aBb x.low G;have e2:x.g=(Fr.mk (x.low.a*G) (x.low.b*G) (x.low.c*G) (x.low.e*G) (x.low.d*G)).g:=by unfold Fr.g;dsimp only;rw[<-ab _ _ h1,<-ab _ _ h2,<-ab _ _ h3,<-ab _ _ h4,<-ab _ _ h5]
   have:=e2.trans h;rw[hG]at this;exact this
  have:=aKC hg (show 1*x.g=x.low.g*x.g by rw[ql];exact e);exact this.symm
theorem KE{x:Fr}{u:Int}(hd:x.d≠0):(u/x.s).natAbs<=u.natAbs:=aKD u x.s
def bN(k:K):Fr:=(Fr.mk (k.re.re.num*(k.re.im.den*(k.im.re.den*k.im.im.den):Nat)) (k.re.im.num*(k.re.re.den*(k.im.re.den*k.im.im.den):Nat))
 (k.im.re.num*(k.re.re.den*(k.re.im.den*k.im.im.den):Nat)) (k.im.im.num*(k.re.re.den*(k.re.im.den*k.im.re.den):Nat)) ((k.re.re.den*(k.re.im.den*(k.im.re.den*k.im.im.den)):Nat):Int)).low
theorem kF(k:K):(bN k).pL:=aBg (by have h1:=k.re.re.den_pos;have h2:=k.re.im.den_pos;have h3:=k.im.re.den_pos;have h4:=k.im.im.den_pos;have:=rj h1 (rj h2 (rj h3 h4));show((k.re.re.den*(k.re.im.den*(k.im.re.den*k.im.im.den)):Nat):Int)≠0;omega)
theorem OE(q:Rat){n:Nat}(hm:0<m)(e:n=q.den*m):Rat.divInt (q.num*(m:Nat)) ((n:Nat):Int)=q:=by have h:Rat.divInt (q.num*(m:Int)) ((q.den:Int)*(m:Int))=Rat.divInt q.num q.den:=Rat.divInt_mul_right o_;rw[e,nY,h];exact aBh q
theorem o7(k:K):(bN k).val=k:=by have h1:=k.re.re.den_pos;have h2:=k.re.im.den_pos;have h3:=k.im.re.den_pos;have h4:=k.im.im.den_pos;have hp:=rj h1 (rj h2 (rj h3 h4));unfold bN;rw[aBf (by show((k.re.re.den*(k.re.im.den*(k.im.re.den*k.im.im.den)):Nat):Int)≠0;omega)];unfold Fr.val;dsimp only;rw[OE k.re.re (rj h2 (rj h3 h4)) rfl,OE k.re.im (rj h1 (rj h3 h4)) (by simp only[mS]),OE k.im.re (rj h1 (rj h2 h4)) (by simp only[mS]),OE k.im.im (rj h1 (rj h2 h3)) (by simp only[cP,mS])]
theorem FF{x:Fr}(h:x.pL):bN x.val=x:=aBd (kF _) h (o7 _)
theorem FG{x:Fr}(hd:x.d≠0):bN x.val=x.low:=aBd (kF _) (aBg hd) ((o7 _).trans (aBf hd).symm)
theorem aKE{x y:K}(h:bN x=bN y):x=y:=by rw[<-o7 x,<-o7 y,h]
def qB(x y:Fr):Fr:=⟨x.a*y.d+y.a*x.d,x.b*y.d+y.b*x.d,x.c*y.d+y.c*x.d,x.e*y.d+y.e*x.d,x.d*y.d⟩
def dY(x y:Fr):Fr:=
 ⟨x.a*y.a+2*(x.b*y.b)+3*(x.c*y.c)+6*(x.e*y.e),x.a*y.b+x.b*y.a+3*(x.c*y.e)+3*(x.e*y.c),x.a*y.c+2*(x.b*y.e)+x.c*y.a+2*(x.e*y.b),x.a*y.e+x.b*y.c+x.c*y.b+x.e*y.a,x.d*y.d⟩
def zC(x:Fr):Fr:=⟨-x.a,-x.b,-x.c,-x.e,x.d⟩
theorem aKF{x y:Fr}(hx:x.d≠0)(hy:y.d≠0):(qB x y).val=x.val+y.val:=by
 apply bJ.ext
 ·exact bJ.ext (Ul _ _ hx hy).symm (Ul _ _ hx hy).symm
 ·exact bJ.ext (Ul _ _ hx hy).symm (Ul _ _ hx hy).symm
theorem aKG(x:Fr):(zC x).val=-x.val:=by have h:∀ u:Int,Rat.divInt (-u) x.d=-Rat.divInt u x.d:=λu=>(Rat.neg_divInt u x.d).symm;exact bJ.ext (bJ.ext (h _) (h _)) (bJ.ext (h _) (h _))
theorem FH{p:Int}{x y:Fr}(hx:x.d≠0)(hy:y.d≠0){r:Rat}(h:r*((x.d:Rat)*(y.d:Rat))=(p:Rat)):Rat.divInt p (x.d*y.d)=r:=by
 have xl:(x.d:Rat)≠0:=by simpa using hx
 have OG:(y.d:Rat)≠0:=by simpa using hy
 rw[Bu,Di,<-h,FI,Rat.mul_assoc,H6 _ (by
  intro e;rcases Rat.mul_eq_zero.1 e with e|e
  ·exact xl e
  ·exact OG e),Rat.mul_one]
theorem o8{u d:Int}(hd:d≠0):Rat.divInt u d*(d:Rat)=(u:Rat):=by
 have OH:(d:Rat)≠0:=by simpa using hd
 rw[Bu,aBa OH]
theorem KF{x y:Fr}(hx:x.d≠0)(hy:y.d≠0):(dY x y).val=x.val*y.val:=by
 have a1:=o8 (u:=x.a) hx;have b1:=o8 (u:=x.b) hx;have c1:=o8 (u:=x.c) hx;have e1:=o8 (u:=x.e) hx;have a2:=o8 (u:=y.a) hy;have b2:=o8 (u:=y.b) hy;have c2:=o8 (u:=y.c) hy;have e2:=o8 (u:=y.e) hy;apply bJ.ext
 ·apply bJ.ext
  ·refine FH hx hy ?_;show((Rat.divInt x.a x.d*Rat.divInt y.a y.d+2*(Rat.divInt x.b x.d*Rat.divInt y.b y.d))+(3*(Rat.divInt x.c x.d*Rat.divInt y.c y.d+2*(Rat.divInt x.e x.d*Rat.divInt y.e y.d))+2*(0*(Rat.divInt x.c x.d*Rat.divInt y.e y.d+Rat.divInt x.e x.d*Rat.divInt y.c y.d))))*((x.d:Rat)*(y.d:Rat))=_;unfold dY;simp only[OI,Di,<-a1,<-b1,<-c1,<-e1,<-a2,<-b2,<-c2,<-e2];have t2:((2:Int):Rat)=2:=rfl;have t3:((3:Int):Rat)=3:=rfl;have t6:((6:Int):Rat)=6:=rfl;rw[t2,t3,t6];grind
  ·refine FH hx hy ?_;show((Rat.divInt x.a x.d*Rat.divInt y.b y.d+Rat.divInt x.b x.d*Rat.divInt y.a y.d)+(3*(Rat.divInt x.c x.d*Rat.divInt y.e y.d+Rat.divInt x.e x.d*Rat.divInt y.c y.d)+0*(Rat.divInt x.c x.d*Rat.divInt y.c y.d+2*(Rat.divInt x.e x.d*Rat.divInt y.e y.d))))*((x.d:Rat)*(y.d:Rat))=_;unfold dY;simp only[OI,Di,<-a1,<-b1,<-c1,<-e1,<-a2,<-b2,<-c2,<-e2];have t3:((3:Int):Rat)=3:=rfl;rw[t3];grind
 ·apply bJ.ext
  ·refine FH hx hy ?_;show((Rat.divInt x.a x.d*Rat.divInt y.c y.d+2*(Rat.divInt x.b x.d*Rat.divInt y.e y.d))+(Rat.divInt x.c x.d*Rat.divInt y.a y.d+2*(Rat.divInt x.e x.d*Rat.divInt y.b y.d)))*((x.d:Rat)*(y.d:Rat))=_;unfold dY;simp only[OI,Di,<-a1,<-b1,<-c1,<-e1,<-a2,<-b2,<-c2,<-e2];have t2:((2:Int):Rat)=2:=rfl;rw[t2];grind
  ·refine FH hx hy ?_;show((Rat.divInt x.a x.d*Rat.divInt y.e y.d+Rat.divInt x.b x.d*Rat.divInt y.c y.d)+(Rat.divInt x.c x.d*Rat.divInt y.b y.d+Rat.divInt x.e x.d*Rat.divInt y.a y.d))*((x.d:Rat)*(y.d:Rat))=_;unfold dY;simp only[OI,Di,<-a1,<-b1,<-c1,<-e1,<-a2,<-b2,<-c2,<-e2]
   grind
theorem Um(x y:K):bN (x+y)=(qB (bN x) (bN y)).low:=by have hx:=(kF x).pos;have hy:=(kF y).pos;have:=FG (x:=qB (bN x) (bN y)) (Dl o_ o_);rw[aKF o_ o_,o7,o7]at this;exact this
theorem Un(x y:K):bN (x*y)=(dY (bN x) (bN y)).low:=by have hx:=(kF x).pos;have hy:=(kF y).pos;have:=FG (x:=dY (bN x) (bN y)) (Dl o_ o_);rw[KF o_ o_,o7,o7]at this;exact this
theorem aKH{x:Fr}(h:x.pL):(zC x).pL:=⟨h.pos,by have:=h.one;unfold Fr.g at this ⊢;simpa[zC]using this⟩
theorem Uo(x:K):bN (-x)=zC (bN x):=by have:=FF (aKH (kF x));rw[aKG,o7]at this;exact this
def dL(n:Nat)(x:Fr):Prop:=x.a.natAbs<2^n/\x.b.natAbs<2^n/\x.c.natAbs<2^n/\x.e.natAbs<2^n/\x.d.natAbs<2^n
def Sz(n:Nat)(x:K):Prop:=dL n (bN x)
theorem dL.mono{n:Nat}(h:m<=n){x:Fr}(hx:dL m x):dL n x:=by have:=df (show 0<2 by decide) h;obtain⟨h1,h2,h3,h4,h5⟩:=hx;exact⟨by omega,by omega,by omega,by omega,by omega⟩
theorem Sz.mono{n:Nat}(h:m<=n){x:K}(hx:Sz m x):Sz n x:=dL.mono h hx
theorem dL.low{n:Nat}{x:Fr}(h:dL n x)(hd:x.d≠0):dL n x.low:=by obtain⟨h1,h2,h3,h4,h5⟩:=h;exact⟨eV (KE hd) h1,eV (KE hd) h2,eV (KE hd) h3,eV (KE hd) h4,eV (KE hd) h5⟩
theorem eQ{n:Nat}{u v:Int}(hu:u.natAbs<2^m)(hv:v.natAbs<2^n):(u*v).natAbs<2^(m+n):=by
 rw[xA,eP];rcases nF v.natAbs with h|h
 ·rw[h,Nat.mul_zero];exact rj (cI d_) (cI d_)
 ·exact cF (Bh hu h) (jJ _ (jV hv))
theorem dL.add{n:Nat}{x y:Fr}(hx:dL m x)(hy:dL n y):dL (m+n+1) (qB x y):=by
 obtain⟨x1,x2,x3,x4,x5⟩:=hx;obtain⟨y1,y2,y3,y4,y5⟩:=hy;have e:2^(m+n+1)=2^(m+n)*2:=dD ..;have e':2^(n+m)=2^(m+n):=by rw[mR]
 have key:∀{u v:Int},u.natAbs<2^m->v.natAbs<2^n->(u*y.d+v*x.d).natAbs<2^(m+n+1):=λ{u v} hu hv=>by have h1:=eQ hu y5;have h2:=eQ hv x5;rw[e']at h2;have:=aBi (u*y.d) (v*x.d);omega
 refine⟨key x1 y1,key x2 y2,key x3 y3,key x4 y4,?_⟩;have:=eQ x5 y5;show(x.d*y.d).natAbs<_;omega
theorem dL.mul{n:Nat}{x y:Fr}(hx:dL m x)(hy:dL n y):dL (m+n+4) (dY x y):=by
 obtain⟨x1,x2,x3,x4,x5⟩:=hx;obtain⟨y1,y2,y3,y4,y5⟩:=hy;have e:2^(m+n+4)=2^(m+n)*16:=by rw[eP]
 have t:∀{u v:Int} (k:Nat),u.natAbs<2^m->v.natAbs<2^n->((k:Int)*(u*v)).natAbs<=k*2^(m+n):=λ{u v} k hu hv=>by have h1:=eQ hu hv;rw[xA,xB];exact jJ _ (jV h1)
 have four:∀ p q r s:Int,(p+q+r+s).natAbs<=p.natAbs+q.natAbs+r.natAbs+s.natAbs:=λp q r s=>by omega
 have hp:0<2^(m+n):=cI d_;refine⟨?_,?_,?_,?_,?_⟩
 ·have:=four (x.a*y.a) (2*(x.b*y.b)) (3*(x.c*y.c)) (6*(x.e*y.e));have h1:=eQ x1 y1;have h2:=t 2 x2 y2;have h3:=t 3 x3 y3;have h4:=t 6 x4 y4;show(x.a*y.a+2*(x.b*y.b)+3*(x.c*y.c)+6*(x.e*y.e)).natAbs<_;omega
 ·have:=four (x.a*y.b) (x.b*y.a) (3*(x.c*y.e)) (3*(x.e*y.c));have h1:=eQ x1 y2;have h2:=eQ x2 y1;have h3:=t 3 x3 y4;have h4:=t 3 x4 y3;show(x.a*y.b+x.b*y.a+3*(x.c*y.e)+3*(x.e*y.c)).natAbs<_;omega
 ·have:=four (x.a*y.c) (2*(x.b*y.e)) (x.c*y.a) (2*(x.e*y.b));have h1:=eQ x1 y3;have h2:=t 2 x2 y4;have h3:=eQ x3 y1;have h4:=t 2 x4 y2;show(x.a*y.c+2*(x.b*y.e)+x.c*y.a+2*(x.e*y.b)).natAbs<_;omega
 ·have:=four (x.a*y.e) (x.b*y.c) (x.c*y.b) (x.e*y.a);have h1:=eQ x1 y4;have h2:=eQ x2 y3;have h3:=eQ x3 y2;have h4:=eQ x4 y1;show(x.a*y.e+x.b*y.c+x.c*y.b+x.e*y.a).natAbs<_;omega
 ·have:=eQ x5 y5;show(x.d*y.d).natAbs<_;omega
theorem Sz.add{n:Nat}{x y:K}(hx:Sz m x)(hy:Sz n y):Sz (m+n+1) (x+y):=by unfold Sz;rw[Um];exact(dL.add hx hy).low (Dl (by have:=(kF x).pos;omega) (by have:=(kF y).pos;omega))
theorem Sz.mul{n:Nat}{x y:K}(hx:Sz m x)(hy:Sz n y):Sz (m+n+4) (x*y):=by unfold Sz;rw[Un];exact(dL.mul hx hy).low (Dl (by have:=(kF x).pos;omega) (by have:=(kF y).pos;omega))
theorem Sz.neg{n:Nat}{x:K}(hx:Sz n x):Sz n (-x):=by unfold Sz at *;rw[Uo];obtain⟨h1,h2,h3,h4,h5⟩:=hx;exact⟨by simpa[zC]using h1,by simpa[zC]using h2,by simpa[zC]using h3,by simpa[zC]using h4,h5⟩
theorem Sz.sub{n:Nat}{x y:K}(hx:Sz m x)(hy:Sz n y):Sz (m+n+1) (x-y):=by rw[CR.sub_def];exact hx.add hy.neg
def tU(a b s:Int):Int:=if a=b\/b=0 then a else if a=0 then b else a*s
namespace bJ
variable{F:Type}[OF F]{s:F}[hs:xz F s]
theorem aBj(x:bJ F s):sg x=tU (aD x.re) (aD x.im) (aD (nm x)):=by
 unfold tU;rcases ways x with h|⟨h,h2⟩|⟨h,h2⟩
 ·subst h;have e:aD (0:F)=0:=(fp (0:F)).2 rfl;rw[H3,H0,H2,e,ax (.inl rfl)]
 ·rw[sO h,h,Int.mul_one];by_cases h3:aD x.re=aD x.im\/aD x.im=0
  ·rw[ax h3]
  ·rw[ao h3];by_cases h4:aD x.re=0
   ·exfalso;rw[(fp _).1 h4,CR.zero_mul]at h2;have h5:aD (s*(x.im*x.im))=1:=by
     have h6:aD x.im≠0:=λe=>h3 (.inr e);rw[mn,mn,aKs];rcases iR x.im with e|e|e
     ·rw[e];rfl
     ·exact absurd e h6
     ·rw[e];rfl
    have h7:(0:F)<s*(x.im*x.im):=iJ.2 h5;exact OF.lt_irrefl _ (OF.lt_trans h7 h2)
   ·rw[ao h4]
 ·rw[tT h,h];by_cases h3:aD x.re=aD x.im\/aD x.im=0
  ·rw[ax h3];rcases h3 with h3|h3
   ·exact h3.symm
   ·exfalso;rw[(fp _).1 h3,CR.zero_mul,CR.mul_zero]at h2;have h5:aD (x.re*x.re)≠-1:=by rw[mn];rcases iR x.re with e|e|e<;>rw[e]<;>decide
    exact h5 (HW.1 h2)
  ·rw[ao h3];by_cases h4:aD x.re=0
   ·rw[ax h4]
   ·rw[ao h4];have h5:aD x.im≠0:=λe=>h3 (.inr e);have h6:aD x.re≠aD x.im:=λe=>h3 (.inl e);rcases iR x.re with e|e|e<;>rcases iR x.im with k|k|k<;>first|exact absurd e h4|exact absurd k h5|exact absurd (e.trans k.symm) h6|(rw[e,k];rfl)
end bJ
theorem aBk(u:Int):aD (u:Rat)=u.sign:=by show(u:Rat).num.sign=u.sign;rw[Rat.num_intCast]
theorem Up{u d:Int}(hd:0<d):aD (Rat.divInt u d)=u.sign:=by have h1:=o8 (u:=u) (d:=d) o_;have h2:=cL aD h1;rw[mn,aBk,aBk,zu hd,Int.mul_one]at h2;exact h2
def pM(a b:Int):Int:=tU a.sign b.sign (a*a-2*(b*b)).sign
theorem Uq{a b d:Int}(hd:0<d):aD (⟨Rat.divInt a d,Rat.divInt b d⟩:K2)=pM a b:=by
 have h:=bJ.aBj (⟨Rat.divInt a d,Rat.divInt b d⟩:K2);have a1:=o8 (u:=a) (d:=d) o_;have b1:=o8 (u:=b) (d:=d) o_;have hn:bJ.nm (⟨Rat.divInt a d,Rat.divInt b d⟩:K2)=Rat.divInt (a*a-2*(b*b)) (d*d):=by refine(FH (x:=⟨0,0,0,0,d⟩) (y:=⟨0,0,0,0,d⟩) (by show d≠0;omega) (by show d≠0;omega) ?_).symm;show(Rat.divInt a d*Rat.divInt a d-2*(Rat.divInt b d*Rat.divInt b d))*((d:Rat)*(d:Rat))=_;simp only[aBl,Di,<-a1,<-b1];have t2:((2:Int):Rat)=2:=rfl;rw[t2];grind
 rw[hn]at h;show bJ.sg _=_;rw[h];show tU (aD (Rat.divInt a d)) (aD (Rat.divInt b d)) _=_;rw[Up hd,Up hd,Up (Ur hd hd)];rfl
def OJ(a b c e:Int):Int:=tU (pM a b) (pM c e) (pM ((a*a+2*(b*b))-(3*(c*c)+6*(e*e))) (2*(a*b)-6*(c*e)))
theorem aKI{x:Fr}(hd:0<x.d):aD x.val=OJ x.a x.b x.c x.e:=by
 have h:=bJ.aBj x.val;have a1:=o8 (u:=x.a) (d:=x.d) o_;have b1:=o8 (u:=x.b) (d:=x.d) o_;have c1:=o8 (u:=x.c) (d:=x.d) o_;have e1:=o8 (u:=x.e) (d:=x.d) o_;have hn:bJ.nm x.val=(⟨Rat.divInt ((x.a*x.a+2*(x.b*x.b))-(3*(x.c*x.c)+6*(x.e*x.e))) (x.d*x.d),Rat.divInt (2*(x.a*x.b)-6*(x.c*x.e)) (x.d*x.d)⟩:K2):=by
  apply bJ.ext
  ·refine(FH (x:=x) (y:=x) o_ o_ ?_).symm;show((Rat.divInt x.a x.d*Rat.divInt x.a x.d+2*(Rat.divInt x.b x.d*Rat.divInt x.b x.d))-(3*(Rat.divInt x.c x.d*Rat.divInt x.c x.d+2*(Rat.divInt x.e x.d*Rat.divInt x.e x.d))+2*(0*(Rat.divInt x.c x.d*Rat.divInt x.e x.d+Rat.divInt x.e x.d*Rat.divInt x.c x.d))))*((x.d:Rat)*(x.d:Rat))=_;simp only[aBl,OI,Di,<-a1,<-b1,<-c1,<-e1];have t2:((2:Int):Rat)=2:=rfl;have t3:((3:Int):Rat)=3:=rfl;have t6:((6:Int):Rat)=6:=rfl;rw[t2,t3,t6];grind
  ·refine(FH (x:=x) (y:=x) o_ o_ ?_).symm;show((Rat.divInt x.a x.d*Rat.divInt x.b x.d+Rat.divInt x.b x.d*Rat.divInt x.a x.d)-(3*(Rat.divInt x.c x.d*Rat.divInt x.e x.d+Rat.divInt x.e x.d*Rat.divInt x.c x.d)+0*(Rat.divInt x.c x.d*Rat.divInt x.c x.d+2*(Rat.divInt x.e x.d*Rat.divInt x.e x.d))))*((x.d:Rat)*(x.d:Rat))=_;simp only[aBl,Di,<-a1,<-b1,<-c1,<-e1];have t2:((2:Int):Rat)=2:=rfl;have t6:((6:Int):Rat)=6:=rfl;rw[t2,t6];grind
 rw[hn]at h;show bJ.sg _=_;rw[h];have Us:=Ur hd hd;show tU (aD (⟨Rat.divInt x.a x.d,Rat.divInt x.b x.d⟩:K2)) (aD (⟨Rat.divInt x.c x.d,Rat.divInt x.e x.d⟩:K2)) _=_;rw[Uq hd,Uq hd,Uq Us];rfl
theorem aBm(k:K):aD k=OJ (bN k).a (bN k).b (bN k).c (bN k).e:=by have:=aKI (kF k).pos;rw[o7]at this;exact this
end
variable{x:K}
structure RI where
 neg:Bool
 aW:List UInt8
structure RN where
 a:RI
 b:RI
 c:RI
 e:RI
 d:RI
variable{r:RN}
structure RV where
 x:RN
 y:RN
 z:RN
structure RP where
 n:RV
 d:RN
def RI.cs(r:RI):ah:=[.bool r.neg,.string (BA r.aW)]
def RN.cs(r:RN):ah:=[.bool r.a.neg,.string (BA r.a.aW),.bool r.b.neg,.string (BA r.b.aW),.bool r.c.neg,.string (BA r.c.aW),.bool r.e.neg,.string (BA r.e.aW),.bool r.d.neg,.string (BA r.d.aW)]
def RV.cs(r:RV):ah:=r.x.cs++(r.y.cs++r.z.cs)
def RP.cs(r:RP):ah:=r.n.cs++r.d.cs
def RI.v(r:RI):Value:=.agg r.cs.toArray
def RN.v(r:RN):Value:=.agg r.cs.toArray
def RV.v(r:RV):Value:=.agg r.cs.toArray
def RP.v(r:RP):Value:=.agg r.cs.toArray
def RI.Sm(r:RI):Prop:=r.aW.length<=maxLen
def RN.Sm(r:RN):Prop:=r.a.Sm/\r.b.Sm/\r.c.Sm/\r.e.Sm/\r.d.Sm
def RV.Sm(r:RV):Prop:=r.x.Sm/\r.y.Sm/\r.z.Sm
def RP.Sm(r:RP):Prop:=r.n.Sm/\r.d.Sm
def RI.ls(r:RI):List Lit:=[.bool r.neg,.string r.aW]
def RN.ls(r:RN):List Lit:=r.a.ls++(r.b.ls++(r.c.ls++(r.e.ls++r.d.ls)))
def RV.ls(r:RV):List Lit:=r.x.ls++(r.y.ls++r.z.ls)
def RP.ls(r:RP):List Lit:=r.n.ls++r.d.ls
theorem RI.vQ{r s:RI}:r.ls=s.ls↔r=s:=by cases r;cases s;simp[RI.ls]
theorem RN.vQ{s:RN}:r.ls=s.ls↔r=s:=by obtain⟨⟨_,_⟩,⟨_,_⟩,⟨_,_⟩,⟨_,_⟩,⟨_,_⟩⟩:=r;obtain⟨⟨_,_⟩,⟨_,_⟩,⟨_,_⟩,⟨_,_⟩,⟨_,_⟩⟩:=s;simp[RN.ls,RI.ls,and_assoc]
theorem RN.H8(r:RN):r.ls.length=10:=rfl
theorem RV.vQ{r s:RV}:r.ls=s.ls↔r=s:=by
 obtain⟨x,y,z⟩:=r;obtain⟨x',y',z'⟩:=s;unfold RV.ls;constructor
 ·intro h;obtain⟨h1,h2⟩:=List.append_inj h (by rw[RN.H8,RN.H8]);obtain⟨h2,h3⟩:=List.append_inj h2 (by rw[RN.H8,RN.H8]);have a1:x=x':=RN.vQ.1 h1;have a2:y=y':=RN.vQ.1 h2;have a3:z=z':=RN.vQ.1 h3;rw[a1,a2,a3]
 ·intro h;rw[h]
theorem RP.vQ{r s:RP}:r.ls=s.ls↔r=s:=by
 obtain⟨x,y⟩:=r;obtain⟨x',y'⟩:=s;unfold RP.ls;constructor
 ·intro h;obtain⟨h1,h2⟩:=List.append_inj' h (by rw[RN.H8,RN.H8]);have a1:x=x':=RV.vQ.1 h1;have a2:y=y':=RN.vQ.1 h2;rw[a1,a2]
 ·intro h;rw[h]
theorem RN.nJ(r:RN):∀ u∈r.cs,flat u=true:=λu hu=>by simp[RN.cs]at hu;rcases hu with h|h|h|h|h|h|h|h|h|h<;>subst h<;>rfl
theorem RV.nJ(r:RV):∀ u∈r.cs,flat u=true:=λu hu=>by
 simp only[RV.cs,fo]at hu;rcases hu with h|h|h
 ·exact r.x.nJ u h
 ·exact r.y.nJ u h
 ·exact r.z.nJ u h
def OL(P:j_)(t:TypeId):Array Field:=match P.underlying t with|some (.struct fs)=>fs|_=>#[]
theorem FJ(r:RI)(h:r.Sm)(d:Nat):prog.keyLits (d+2) 30 r.cs=some r.ls:=by
 obtain ⟨fs, h1, h2, h3⟩ : ∃ fs, prog.underlying 30 = some (.struct fs) ∧ fs.toList.map (fun g => (g.type, g.offset)) = [(4, 0), (9, 1)] ∧ fs.all (fun g => g.name != "_") = true := ⟨OL prog 30, (by kernel_rfl), (by kernel_rfl), (by kernel_rfl)⟩;rw[Om h1 h2 h3 k_];have e1:prog.keyLits (d+1) 4 ((r.cs.drop 0).take (prog.cellsOf 4))=some [.bool r.neg]:=by
  have e:(r.cs.drop 0).take (prog.cellsOf 4)=[.bool r.neg]:=k_;rw[e];exact aKg k_ _ d
 have e2:prog.keyLits (d+1) 9 ((r.cs.drop 1).take (prog.cellsOf 9))=some [.string r.aW]:=by have e:(r.cs.drop 1).take (prog.cellsOf 9)=[.string (BA r.aW)]:=k_;rw[e];exact aKh k_ _ (by rw[oV];exact h) d
 simp only[JP,Ut,e1,e2];simp[RI.ls]
theorem aKJ(r:RN)(h:r.Sm)(d:Nat):prog.keyLits (d+3) 31 (r.a.cs++(r.b.cs++(r.c.cs++r.e.cs)))=some (r.a.ls++(r.b.ls++(r.c.ls++r.e.ls))):=by rw[aKf (n:=4) (e:=30) k_ k_];obtain⟨h0,h1,h2,h3,_⟩:=h;have c:prog.cellsOf 30=2:=k_;have e0:=FJ r.a h0 d;have e1:=FJ r.b h1 d;have e2:=FJ r.c h2 d;have e3:=FJ r.e h3 d;rw[c];simp[KG,RI.cs]at e0 e1 e2 e3 ⊢;simp[e0,e1,e2,e3]
theorem OM(r:RN)(h:r.Sm)(d:Nat):prog.keyLits (d+4) 33 r.cs=some r.ls:=by
 obtain ⟨fs, h1, h2, h3⟩ : ∃ fs, prog.underlying 33 = some (.struct fs) ∧ fs.toList.map (fun g => (g.type, g.offset)) = [(31, 0), (30, 8)] ∧ fs.all (fun g => g.name != "_") = true := ⟨OL prog 33, (by kernel_rfl), (by kernel_rfl), (by kernel_rfl)⟩;rw[Om h1 h2 h3 k_];have e1:prog.keyLits (d+3) 31 ((r.cs.drop 0).take (prog.cellsOf 31))=some (r.a.ls++(r.b.ls++(r.c.ls++r.e.ls))):=by
  have e:(r.cs.drop 0).take (prog.cellsOf 31)=r.a.cs++(r.b.cs++(r.c.cs++r.e.cs)):=k_;rw[e];exact aKJ r h d
 have e2:prog.keyLits (d+3) 30 ((r.cs.drop 8).take (prog.cellsOf 30))=some r.d.ls:=by have e:(r.cs.drop 8).take (prog.cellsOf 30)=r.d.cs:=k_;rw[e];exact FJ r.d h.2.2.2.2 (d+1)
 simp only[JP,Ut,e1,e2];simp[RN.ls]
theorem Uu(r:RV)(h:r.Sm)(d:Nat):prog.keyLits (d+5) 38 r.cs=some r.ls:=by
 obtain ⟨fs, h1, h2, h3⟩ : ∃ fs, prog.underlying 38 = some (.struct fs) ∧ fs.toList.map (fun g => (g.type, g.offset)) = [(33, 0), (33, 10), (33, 20)] ∧ fs.all (fun g => g.name != "_") = true := ⟨OL prog 38, (by kernel_rfl), (by kernel_rfl), (by kernel_rfl)⟩;rw[Om h1 h2 h3 k_];have e:∀(k:Nat) (s:RN),(r.cs.drop k).take (prog.cellsOf 33)=s.cs->s.Sm->prog.keyLits (d+4) 33 ((r.cs.drop k).take (prog.cellsOf 33))=some s.ls:=λk s e hs=>by rw[e];exact OM s hs d
 simp only[JP,Ut,e 0 r.x k_ h.1,e 10 r.y k_ h.2.1,e 20 r.z k_ h.2.2];simp[RV.ls]
theorem aBn(r:RP)(h:r.Sm)(d:Nat):prog.keyLits (d+6) 50 r.cs=some r.ls:=by
 obtain ⟨fs, h1, h2, h3⟩ : ∃ fs, prog.underlying 50 = some (.struct fs) ∧ fs.toList.map (fun g => (g.type, g.offset)) = [(38, 0), (33, 30)] ∧ fs.all (fun g => g.name != "_") = true := ⟨OL prog 50, (by kernel_rfl), (by kernel_rfl), (by kernel_rfl)⟩;rw[Om h1 h2 h3 k_];have e1:prog.keyLits (d+5) 38 ((r.cs.drop 0).take (prog.cellsOf 38))=some r.n.ls:=by
  have e:(r.cs.drop 0).take (prog.cellsOf 38)=r.n.cs:=k_;rw[e];exact Uu r.n h.1 d
 have e2:prog.keyLits (d+5) 33 ((r.cs.drop 30).take (prog.cellsOf 33))=some r.d.ls:=by have e:(r.cs.drop 30).take (prog.cellsOf 33)=r.d.cs:=k_;rw[e];exact OM r.d h.2 (d+1)
 simp only[JP,Ut,e1,e2];simp[RP.ls]
section
variable{Bs:aa}{N:Nat}
theorem zD{neg:Bool}(ho:FA o=some (neg,30))(r s:RI)(hr:r.Sm)(hs:s.Sm){b:Bool}(hb:(if neg then b else !b)=true↔r=s):cA prog Bs o [r.v,s.v] [] (.bool b) []:=
 Ol (m:=2) ho o_ k_ k_ k_ k_ (FJ r hr 0) (FJ s hs 0) rfl rfl (by rw[hb];exact RI.vQ.symm)
theorem H9{neg:Bool}(ho:FA o=some (neg,33))(r s:RN)(hr:r.Sm)(hs:s.Sm){b:Bool}(hb:(if neg then b else !b)=true↔r=s):cA prog Bs o [r.v,s.v] [] (.bool b) []:=
 Ol (m:=4) ho o_ k_ k_ k_ k_ (OM r hr 0) (OM s hs 0) rfl rfl (by rw[hb];exact RN.vQ.symm)
theorem Dm{neg:Bool}(ho:FA o=some (neg,38))(r s:RV)(hr:r.Sm)(hs:s.Sm){b:Bool}(hb:(if neg then b else !b)=true↔r=s):cA prog Bs o [r.v,s.v] [] (.bool b) []:=
 Ol (m:=5) ho o_ k_ k_ k_ k_ (Uu r hr 0) (Uu s hs 0) rfl rfl (by rw[hb];exact RV.vQ.symm)
theorem Uv{neg:Bool}(ho:FA o=some (neg,50))(r s:RP)(hr:r.Sm)(hs:s.Sm){b:Bool}(hb:(if neg then b else !b)=true↔r=s):cA prog Bs o [r.v,s.v] [] (.bool b) []:=
 Ol (m:=6) ho o_ k_ k_ k_ k_ (aBn r hr 0) (aBn s hs 0) rfl rfl (by rw[hb];exact RP.vQ.symm)
end
def bt(z:Int):RI:=⟨decide (z<0),cG z.natAbs⟩
theorem aBo(z:Int):aV z=(bt z).v:=rfl
theorem vR{x y:Int}(h:bt x=bt y):x=y:=by have h1:decide (x<0)=decide (y<0):=cL RI.neg h;have h2:x.natAbs=y.natAbs:=aJf (cL RI.aW h);rw[pD]at h1;omega
def rm(f:Fr):RN:=⟨bt f.a,bt f.b,bt f.c,bt f.e,bt f.d⟩
def gH(f:Fr):Value:=(rm f).v
theorem aKK{f g:Fr}(h:rm f=rm g):f=g:=Fr.ext' (vR (cL RN.a h)) (vR (cL RN.b h)) (vR (cL RN.c h)) (vR (cL RN.e h)) (vR (cL RN.d h))
def cO(x:K):RN:=rm (bN x)
def bK(x:K):Value:=(cO x).v
theorem KH{y:K}(h:cO x=cO y):x=y:=aKE (aKK h)
abbrev az:Nat:=1099511627774
theorem rp{n:Nat}(h:z.natAbs<2^n)(hn:n<=az):(bt z).Sm:=by show(cG z.natAbs).length<=maxLen;rw[tS];have:=vO h;unfold az at hn;simp[maxLen];omega
theorem aKL{f:Fr}{n:Nat}(h:dL n f)(hn:n<=az):(rm f).Sm:=⟨rp h.1 hn,rp h.2.1 hn,rp h.2.2.1 hn,rp h.2.2.2.1 hn,rp h.2.2.2.2 hn⟩
theorem uY{n:Nat}(h:Sz n x)(hn:n<=az):(cO x).Sm:=aKL h hn
def ic(c:Nat->Int):ah:=[.bool (bt (c 0)).neg,.string (BA (bt (c 0)).aW),.bool (bt (c 1)).neg,.string (BA (bt (c 1)).aW),.bool (bt (c 2)).neg,.string (BA (bt (c 2)).aW),.bool (bt (c 3)).neg,.string (BA (bt (c 3)).aW)]
def ou(c:Nat->Int):Value:=.agg (ic c).toArray
def co(f:Fr):Nat->Int
 |0=>f.a
 |1=>f.b
 |2=>f.c
 |_=>f.e
def mY(c:Nat->Int)(d:Int):Fr:=⟨c 0,c 1,c 2,c 3,d⟩
theorem Dn{g:Nat}{x:Int}{p:Nat}(h1:g<2^p)(h2:x.natAbs<2^q)(hp:p<=1099511627776)(hq:q<=1099511627776):aB prog 156 [aV g,aV x] (aV (Nat.gcd g x.natAbs:Nat)):=by have:=Fy (x:=(g:Int)) (y:=x) (by rw[xB];exact h1) h2 hp hq;rw[xB]at this;exact this
theorem aKM{g p:Nat}(h:g<2^p):Nat.gcd g m<2^p\/g=0:=by
 by_cases hg:g=0
 ·exact .inr hg
 ·exact .inl (eV (aBp m (tK hg)) h)
theorem tV{g p:Nat}(h:g<2^p)(h2:m<2^p):Nat.gcd g m<2^p:=by
 rcases aKM (m:=m) h with h3|h3
 ·exact h3
 ·rw[h3,Uw];exact h2
theorem Ux{c:Nat->Int}{d:Int}{n:Nat}(h:dL n (mY c d))(hn:n<=az):aB prog 108 [ou c,aV d] (aV ((mY c d).g:Nat)):=by
 obtain⟨h0,h1,h2,h3,h4⟩:=h;have oN:n<=1099511627776:=by unfold az at hn;omega
 have g1:=Fy h4 h0 oN oN;have s1:=tV h4 h0;have g2:=Dn s1 h1 oN oN;have s2:=tV s1 h1;have g3:=Dn s2 h2 oN oN;have s3:=tV s2 h2;have g4:=Dn s3 h3 oN oN;exact bo func108 (λ_=>[g1.at 15,g2.at 15,g3.at 15,g4.at 15])
theorem FK{x y:Int}{n:Nat}(hy:y≠0)(h1:x.natAbs<2^n)(h2:y.natAbs<2^n)(hn:n<=az):aB prog 153 [aV x,aV y] (aV (x.fdiv y)):=
 bo func153 (λ_=>[(TX hy h1 h2 hn hn).at 11])
theorem Bv{c:Nat->Int}{d:Int}{n:Nat}(hd:d≠0)(h:dL n (mY c d))(hn:n<=az):aB prog 98 [ou c,aV d] (gH (mY c d).low):=by
 have hc:=Ux h hn;have oN:n<=1099511627776:=by unfold az at hn;omega
 obtain⟨f,hf⟩:∃ f,f=mY c d:=⟨_,rfl⟩;have vD:f.d≠0:=by rw[hf];exact hd
 have qC:=Uk vD;have Uy:=OC f;have hg:f.g<2^n:=by
  have h5:f.d.natAbs<2^n:=by rw[hf];exact h.2.2.2.2
  exact eV (Nat.le_of_dvd o_ (FE f)) h5
 have bC:f.s.natAbs<2^n:=by rw[Uy];exact hg
 have ov:∀ u:Int,f.g ∣ u.natAbs->u.natAbs<2^n->aB prog 153 [aV u,aV f.s] (aV (u/f.s)):=λu hu xD=>by have:=FK qC xD bC hn;rw[Int.fdiv_eq_ediv_of_dvd (Dk hu)]at this;exact this
 have o0:=ov f.a (Oy f) (by rw[hf];exact h.1);have o1:=ov f.b (Oz f) (by rw[hf];exact h.2.1);have o2:=ov f.c (OA f) (by rw[hf];exact h.2.2.1);have o3:=ov f.e (OB f) (by rw[hf];exact h.2.2.2.1);have o4:=ov f.d (FE f) (by rw[hf];exact h.2.2.2.2);have Bw:=ke (z:=1) d_;have aD:=om d;rw[<-hf]at hc ⊢;have e0:f.a=c 0:=by rw[hf];rfl
 have e1:f.b=c 1:=by rw[hf];rfl
 have e2:f.c=c 2:=by rw[hf];rfl
 have e3:f.e=c 3:=by rw[hf];rfl
 have e4:f.d=d:=by rw[hf];rfl
 have one:(bt 1).Sm:=rp (n:=1) d_ d_;have sm:(bt f.s).Sm:=rp bC hn;by_cases FL:d<0
 ·have hs:f.s=-(f.g:Int):=by unfold Fr.s;rw[e4,ax FL]
  have bj:bt f.s≠bt 1:=λe=>by have:=vR e;omega
  have ng:=oq (f.g:Int);rw[<-hs]at ng;rw[e0]at o0;rw[e1]at o1;rw[e2]at o2;rw[e3]at o3;rw[e4]at o4;have dE:f.low=⟨c 0/f.s,c 1/f.s,c 2/f.s,c 3/f.s,d/f.s⟩:=by unfold Fr.low;rw[e0,e1,e2,e3,e4]
  rw[dE];have Bx:decide (d.sign<0)=true:=aE (by rw[Fu FL];decide);generalize f.s=s at *;exact bo func98 (λ_=>[hc.at 9,aD.at 11,.rw 12 (.bool (decide (d.sign<0))) b_ (by rw[Bx]),ng.at 14,Bw.at 16,.step 17 (aA f98 17) _ _ _ _ (zD (neg:=true) k_ (bt s) (bt 1) sm one (b:=false) (by simp;exact bj)),o0.at 29,o1.at 29,o2.at 29,o3.at 29,o4.at 35])
 ·have hs:f.s=(f.g:Int):=by unfold Fr.s;rw[e4,ao FL]
  have Bx:decide (d.sign<0)=false:=aO (by rw[zu o_];decide);by_cases tW:f.g=1
  ·have dE:f.low=f:=by unfold Fr.low;rw[hs,tW];simp
   rw[dE,hf];rw[tW]at hc;exact bo func98 (λ_=>[hc.at 9,aD.at 11,.rw 12 (.bool (decide (d.sign<0))) a_ (by rw[Bx]),Bw.at 16,.step 17 (aA f98 17) _ _ _ _ (zD (neg:=true) k_ (bt 1) (bt 1) one one (b:=true) s_)])
  ·have bj:bt f.s≠bt 1:=λe=>by have:=vR e;omega
   rw[e0]at o0;rw[e1]at o1;rw[e2]at o2;rw[e3]at o3;rw[e4]at o4;have dE:f.low=⟨c 0/f.s,c 1/f.s,c 2/f.s,c 3/f.s,d/f.s⟩:=by unfold Fr.low;rw[e0,e1,e2,e3,e4]
   rw[dE];rw[<-hs]at hc;generalize f.s=s at *;exact bo func98 (λ_=>[hc.at 9,aD.at 11,.rw 12 (.bool (decide (d.sign<0))) a_ (by rw[Bx]),Bw.at 16,.step 17 (aA f98 17) _ _ _ _ (zD (neg:=true) k_ (bt s) (bt 1) sm one (b:=false) (by simp;exact bj)),o0.at 29,o1.at 29,o2.at 29,o3.at 29,o4.at 35])
theorem KI{f:Fr}{n:Nat}(hf:f.pL)(h:dL n f)(hn:n<=az):aB prog 54 [gH f] b_:=by have hc:=Ux (c:=co f) (d:=f.d) h hn;have e:mY (co f) f.d=f:=rfl;rw[e,hf.one]at hc;have hp:=hf.pos;have hs:decide (f.d.sign>0)=true:=aE (by rw[zu hp];decide);have one:(bt 1).Sm:=rp (n:=1) d_ d_;exact bo func54 (λ_=>[(kf f.a).at 11,(kf f.b).at 11,(kf f.c).at 11,(kf f.e).at 11,(kf f.d).at 16,(om f.d).at 20,.rw 21 (.bool (decide (f.d.sign>0))) b_ (by rw[hs]),hc.at 28,(ke (z:=1) d_).at 29,.step 30 (aA f54 30) _ _ _ _ (zD (neg:=true) k_ (bt 1) (bt 1) one one (b:=true) s_)])
theorem kG{n:Nat}(h:Sz n x)(hn:n<=az):aB prog 54 [bK x] b_:=KI (kF x) h hn
theorem Uz(z:Int):bN (⟨⟨z,0⟩,⟨0,0⟩⟩:K)=⟨z,0,0,0,1⟩:=by
 have hl:Fr.pL ⟨z,0,0,0,1⟩:=⟨Int.zero_lt_one,by simp[Fr.g]⟩;have hv:Fr.val ⟨z,0,0,0,1⟩=⟨⟨z,0⟩,⟨0,0⟩⟩:=by
  unfold Fr.val;dsimp only;have e:∀ u:Int,Rat.divInt u 1=(u:Rat):=λu=>by rw[Bu,FI];grind
  rw[e,e];rfl
 rw[<-hv];exact FF hl
def kI(z:Int):K:=⟨⟨z,0⟩,⟨0,0⟩⟩
theorem aBq(z:Int):bK (kI z)=gH ⟨z,0,0,0,1⟩:=by unfold bK cO kI;rw[Uz];rfl
theorem o9{n:Nat}(h:z.natAbs<2^n)(hn:0<n):Sz n (kI z):=by unfold Sz kI;rw[Uz];have:2^1<=2^n:=df d_ hn;exact⟨h,by simp;omega,by simp;omega,by simp;omega,by simp;omega⟩
theorem Bz:bt 0=⟨false,[]⟩:=by unfold bt;simp[C4]
theorem rq(h:z.natAbs<9223372036854775808):aB prog 88 [.int .i64 z] (bK (kI z)):=by
 rw[aBq];have e:gH ⟨z,0,0,0,1⟩=(RN.mk (bt z) ⟨false,[]⟩ ⟨false,[]⟩ ⟨false,[]⟩ (bt 1)).v:=by unfold gH rm;rw[Bz]
 rw[e];exact bo func88 (λ_=>[(ke h).at 4,(ke (z:=1) d_).at 6])
theorem UA{c:Nat->Int}{d:Int}{n:Nat}(hd:d≠0)(h:dL n (mY c d))(hn:n<=az):aB prog 154 [ou c,aV d] (.tuple #[gH (mY c d).low,.int .i64 0]):=by
 have hl:=Bv hd h hn;have hs:(d.sign==0)=false:=by simp;exact hd
 exact bo func154 (λ_=>[(kf (c 0)).at 13,(kf (c 1)).at 13,(kf (c 2)).at 13,(kf (c 3)).at 13,(kf d).at 19,(om d).at 24,.rw 25 (.bool (d.sign==0)) a_ (by rw[hs]),hl.at 29])
theorem KJ{p q:Int}{n:Nat}(hq:q≠0)(h1:p.natAbs<2^n)(h2:q.natAbs<2^n)(hn:n<=63):aB prog 99 [.int .i64 p,.int .i64 q] (.tuple #[gH (Fr.mk p 0 0 0 q).low,.int .i64 0]):=by
 have h63:2^n<=9223372036854775808:=di (df d_ hn) d_;have hp:0<2^n:=cI d_;have hm:=UA (c:=λi=>match i with|0=>p|_=>0) (d:=q) (n:=n) hq ⟨h1,hp,hp,hp,h2⟩ (by unfold az;omega);have e:ou (λi=>match i with|0=>p|_=>0)=.agg #[.bool (bt p).neg,.string (BA (bt p).aW),.bool false,.string ⟨#[]⟩,.bool false,.string ⟨#[]⟩,.bool false,.string ⟨#[]⟩]:=by show Value.agg #[.bool (bt p).neg,.string (BA (bt p).aW),.bool (bt 0).neg,.string (BA (bt 0).aW),.bool (bt 0).neg,.string (BA (bt 0).aW),.bool (bt 0).neg,.string (BA (bt 0).aW)]=_;rw[Bz];rfl
 rw[e]at hm;exact bo func99 (λ_=>[(ke (z:=p) o_).at 7,(ke (z:=q) o_).at 10,hm.at 11])
theorem zE{n:Nat}(h:Sz n x)(hn:n<=az):aB prog 169 [bK x] (bK (-x)):=by
 have hv:=kG h hn;have e:bK (-x)=gH (zC (bN x)):=by unfold bK cO;rw[Uo];rfl
 rw[e];exact bo func169 (λ_=>[hv.at 5,(oq (bN x).a).at 16,(oq (bN x).b).at 16,(oq (bN x).c).at 16,(oq (bN x).e).at 16])
theorem tX{y:K}{n:Nat}(hx:Sz m x)(hy:Sz n y)(cN:m+n<az):aB prog 90 [bK x,bK y] (bK (x+y)):=by
 have v1:=kG hx o_;have v2:=kG hy o_;have nK:az<=1099511627776:=by decide
 have xC:=(kF x).pos;have vP:=(kF y).pos;have hl:=Bv (c:=co (qB (bN x) (bN y))) (d:=(qB (bN x) (bN y)).d) (n:=m+n+1) (Dl o_ o_) (dL.add hx hy) o_;have e:bK (x+y)=gH (qB (bN x) (bN y)).low:=by unfold bK cO;rw[Um];rfl
 rw[e];obtain⟨x1,x2,x3,x4,x5⟩:=hx;obtain⟨y1,y2,y3,y4,y5⟩:=hy;have mu:∀{u v:Int} {p q:Nat},u.natAbs<2^p->v.natAbs<2^q->p+q<=az->aB prog 148 [aV u,aV v] (aV (u*v)):=λh1 h2 h3=>mW h1 h2 o_ o_;have ad:∀{u v:Int},u.natAbs<2^m->v.natAbs<2^n->aB prog 147 [aV (u*(bN y).d),aV (v*(bN x).d)] (aV (u*(bN y).d+v*(bN x).d)):=λh1 h2=>
  zv (eQ h1 y5) (eQ h2 x5) o_ o_
 exact bo func90 (λ_=>[v1.at 8,v2.at 12,(mu x1 y5 o_).at 26,(mu y1 x5 o_).at 33,(ad x1 y1).at 34,(mu x2 y5 o_).at 26,(mu y2 x5 o_).at 33,(ad x2 y2).at 34,(mu x3 y5 o_).at 26,(mu y3 x5 o_).at 33,(ad x3 y3).at 34,(mu x4 y5 o_).at 26,(mu y4 x5 o_).at 33,(ad x4 y4).at 34,(mu x5 y5 o_).at 42,hl.at 43])
theorem BB{y:K}{n:Nat}(hx:Sz m x)(hy:Sz n y)(cN:m+n<az):aB prog 123 [bK x,bK y] (bK (x-y)):=by rw[CR.sub_def];exact bo func123 (λ_=>[(zE hy o_).at 7,(tX hx hy.neg cN).at 8])
section
open CR OF
def mZ(x:K):K:=⟨x.re,-x.im⟩
def lV(x:K):K:=⟨⟨x.re.re,-x.re.im⟩,⟨x.im.re,-x.im.im⟩⟩
def xE(f:Fr):Fr:=⟨f.a,f.b,-f.c,-f.e,f.d⟩
def xF(f:Fr):Fr:=⟨f.a,-f.b,f.c,-f.e,f.d⟩
theorem ON(u d:Int):Rat.divInt (-u) d=-Rat.divInt u d:=(Rat.neg_divInt u d).symm
theorem aBr(f:Fr):(xE f).val=mZ f.val:=bJ.ext rfl (bJ.ext (ON _ _) (ON _ _))
theorem UB(f:Fr):(xF f).val=lV f.val:=bJ.ext (bJ.ext rfl (ON _ _)) (bJ.ext rfl (ON _ _))
theorem aKN{f:Fr}(h:f.pL):(xE f).pL:=⟨h.pos,by have:=h.one;unfold Fr.g at this ⊢;simpa[xE]using this⟩
theorem aKO{f:Fr}(h:f.pL):(xF f).pL:=⟨h.pos,by have:=h.one;unfold Fr.g at this ⊢;simpa[xF]using this⟩
theorem aBs(x:K):bN (mZ x)=xE (bN x):=by have:=FF (aKN (kF x));rw[aBr,o7]at this;exact this
theorem aBt(x:K):bN (lV x)=xF (bN x):=by have:=FF (aKO (kF x));rw[UB,o7]at this;exact this
theorem Sz.mZ{n:Nat}{x:K}(h:Sz n x):Sz n (mZ x):=by unfold Sz at *;rw[aBs];obtain⟨h1,h2,h3,h4,h5⟩:=h;exact⟨h1,h2,by simpa[xE]using h3,by simpa[xE]using h4,h5⟩
theorem Sz.lV{n:Nat}{x:K}(h:Sz n x):Sz n (lV x):=by unfold Sz at *;rw[aBt];obtain⟨h1,h2,h3,h4,h5⟩:=h;exact⟨h1,by simpa[xF]using h2,h3,by simpa[xF]using h4,h5⟩
def two(y:K):K:=y*mZ y
def ry(y:K):K:=two y*lV (two y)
theorem aKP(y:K):two y=⟨bJ.nm y,0⟩:=by
 unfold two mZ;apply bJ.ext
 ·show y.re*y.re+zz*(y.im*-y.im)=y.re*y.re-zz*(y.im*y.im);exact lq y.re y.im zz (λa b s=>a*a+s*(b*-b)) (λa b s=>a*a-s*(b*b)) d_
 ·show y.re*-y.im+y.im*y.re=0;exact kE y.re y.im (λa b=>a*-b+b*a) (λ_ _=>0) d_
theorem OO(y:K):ry y=⟨⟨bJ.nm (bJ.nm y),0⟩,⟨0,0⟩⟩:=by
 unfold ry;rw[aKP];obtain⟨p,q⟩:=bJ.nm y;have e:lV (⟨⟨p,q⟩,0⟩:K)=⟨⟨p,-q⟩,0⟩:=by unfold lV;show(⟨⟨p,-q⟩,⟨0,-0⟩⟩:K)=_;rw[CR.neg_zero];rfl
 rw[e];apply bJ.ext
 ·show(⟨p,q⟩:K2)*⟨p,-q⟩+zz*(0*0)=_;rw[CR.zero_mul,CR.mul_zero,CR.add_zero];apply bJ.ext
  ·show p*p+2*(q*-q)=p*p-2*(q*q)
   grind
  ·show p*-q+q*p=0
   grind
 ·show(⟨p,q⟩:K2)*0+0*⟨p,-q⟩=0;rw[CR.mul_zero,CR.zero_mul,CR.add_zero]
theorem UC{y:K}(h:y≠0):bJ.nm (bJ.nm y)≠0:=λe=>h (bJ.Ow (bJ.Ow e))
theorem aBu(q:Rat):bN (⟨⟨q,0⟩,⟨0,0⟩⟩:K)=⟨q.num,0,0,0,q.den⟩:=by
 have hl:Fr.pL ⟨q.num,0,0,0,q.den⟩:=⟨by show(0:Int)<(q.den:Int);have:=q.den_pos;omega,by have:=q.reduced;unfold Nat.Coprime at this;simp[Fr.g];rw[HO];exact this⟩
 have hv:Fr.val ⟨q.num,0,0,0,q.den⟩=⟨⟨q,0⟩,⟨0,0⟩⟩:=by
  unfold Fr.val;have e:∀ d:Int,Rat.divInt 0 d=0:=λd=>by simp
  dsimp only;rw[e,aBh]
 rw[<-hv];exact FF hl
def ow(y:K):Fr:=⟨(bN (ry y)).d,0,0,0,(bN (ry y)).a⟩
theorem OP{y:K}(h:y≠0):(ow y).d≠0:=by unfold ow;dsimp only;rw[OO,aBu];exact λe=>UC h (Rat.num_eq_zero.1 e)
theorem aKQ{y:K}(h:y≠0):ry y*(ow y).val=1:=by
 have hq:=UC h;have e1:(ow y).val=⟨⟨(bJ.nm (bJ.nm y))⁻¹,0⟩,⟨0,0⟩⟩:=by
  unfold ow Fr.val;rw[OO,aBu];have e:∀ d:Int,Rat.divInt 0 d=0:=λd=>by simp
  dsimp only;rw[e,Bu];generalize bJ.nm (bJ.nm y)=q at *;have h2:((q.den:Int):Rat)/(q.num:Rat)=q⁻¹:=by
   have h3:(q.num:Rat)≠0:=by simpa using hq
   have h4:((q.den:Int):Rat)*q=q.num:=by
    have h5:(q.num:Rat)/((q.den:Int):Rat)=q:=by rw[<-Bu];exact aBh q
    have h6:((q.den:Int):Rat)≠0:=by have:=q.den_nz;simpa using this
    have h7:=aBa (a:=(q.num:Rat)) h6;rw[h5,Rat.mul_comm]at h7;exact h7
   have h8:=H6 q hq;have h9:=H6 (q.num:Rat) h3;rw[FI]
   grind
  rw[h2]
 rw[e1,OO];generalize bJ.nm (bJ.nm y)=q at *;have h8:=H6 q hq;apply bJ.ext
 ·apply bJ.ext
  ·show(q*q⁻¹+2*(0*0))+(3*(0*0+2*(0*0))+2*(0*(0*0+0*0)))=1
   grind
  ·show(q*0+0*q⁻¹)+(3*(0*0+0*0)+0*(0*0+2*(0*0)))=0
   grind
 ·apply bJ.ext
  ·show(q*0+2*(0*0))+(0*q⁻¹+2*(0*0))=0
   grind
  ·show(q*0+0*0)+(0*0+0*q⁻¹)=0
   grind
theorem aBv{y:K}(h:y≠0):(x*mZ y)*(lV (two y)*(ow y).val)=x*y⁻¹:=by
 have h1:=aKQ h;have h2:=OF.lS y h;have e1:y*(mZ y*(lV (two y)*(ow y).val))=1:=by rw[<-h1];unfold ry two;exact FC y (mZ y) (lV (y*mZ y)) (ow y).val (λy c b i=>y*(c*(b*i))) (λy c b i=>y*c*b*i) d_
 have e2:mZ y*(lV (two y)*(ow y).val)=y⁻¹:=by have h3:=cL (λt=>y⁻¹*t) e1;rw[CR.mul_one,<-CR.mul_assoc,CR.mul_comm y⁻¹ y,h2,CR.one_mul]at h3;exact h3
 rw[<-e2,CR.mul_assoc]
theorem Sz.inv{n:Nat}{y:K}(h:y≠0)(hy:Sz n y):Sz (4*n+12) (ow y).val:=by have h1:Sz (n+n+4) (two y):=hy.mul hy.mZ;have h2:Sz (n+n+4+(n+n+4)+4) (ry y):=h1.mul h1.lV;have h3:Sz (4*n+12) (ry y):=h2.mono o_;unfold Sz;rw[FG (OP h)];obtain⟨a1,a2,a3,a4,a5⟩:=h3;have hp:0<2^(4*n+12):=cI d_;exact dL.low ⟨a5,hp,hp,hp,a1⟩ (OP h)
theorem Sz.div{n:Nat}{y:K}(h:y≠0)(hx:Sz m x)(hy:Sz n y):Sz (m+7*n+28) (x*y⁻¹):=by rw[<-aBv h];have h1:Sz (n+n+4) (two y):=hy.mul hy.mZ;exact((hx.mul hy.mZ).mul (h1.lV.mul (Sz.inv h hy))).mono o_
end
def sq(n:Nat):Int:=match n with|0=>1|1=>2|2=>3|_=>6
def xG(n:Nat)(a b c:Nat->Int):Nat->Int:=λk=>if Nat.beq k ((n/4) ^^^ (n%4))then c k+sq ((n/4)&&& (n%4))*(a (n/4)*b (n%4))else c k
def jW(a b:Nat->Int):Nat->Nat->Int
 |0=>λ_=>0
 |n+1=>xG n a b (jW a b n)
def m7(n:Nat):Nat:=4+9*(n/4)
def nx(n:Nat):Nat:=m7 n+1+2*(n%4)
def ptr(k:Nat):Value:=.pointer (some ⟨k,0,some 7⟩)
section
variable{Bs:aa}{a b:Nat->Int}
def UD(n:Nat)(b:Nat->Int):aN:=[(18,ou b),(19,vI (n%4)),(6,vI (n/4)),(7,ptr (m7 n)),(5,ptr 3)]
def Ia(n:Nat)(a c:Nat->Int):aH:=[(3,.aI (ic c) 31),(m7 n,.aI (bt (a (n/4))).cs 30)]
theorem OQ{n:Nat}{c:Nat->Int}(h:a (n/4)=0\/b (n%4)=0):xG n a b c=c:=by
 funext k
 unfold xG;split
 ·rcases h with h|h<;>rw[h]<;>simp
 ·rfl
theorem KK:((BA (cG z.natAbs)).toList==(ByteArray.mk #[]).toList)=decide (z=0):=by rw[qy,pD];omega
theorem aKR(n:Nat)(hn:n<16){c:Nat->Int}{p r:Nat}(ha:∀ i,(a i).natAbs<2^p)(hb:∀ i,(b i).natAbs<2^q)(hc:∀ i,(c i).natAbs<2^r)(OR:p+q+3<=az)(hr:r<=az):
  af prog Bs 62 (.block 3 (ag f97 3)) (UD n b) (Ia n a c) (nx n) ⟨.normal,[],Ia n a (xG n a b c),nx n+2⟩:=by
 have nK:az<=1099511627776:=by decide
 have rz:∀ m,(sq m).natAbs<2^3:=λm=>by unfold sq;split<;>decide
 have m1:=mW (ha (n/4)) (hb (n%4)) o_ o_;have m2:=mW (rz ((n/4)&&& (n%4))) (eQ (ha (n/4)) (hb (n%4))) o_ o_;have ad:=zv (hc ((n/4) ^^^ (n%4))) (eQ (rz ((n/4)&&& (n%4))) (eQ (ha (n/4)) (hb (n%4)))) o_ o_;have so:=ke (z:=sq ((n/4)&&& (n%4))) (lO (rz _) d_);by_cases h1:a (n/4)=0
 ·rw[OQ (.inl h1)];have e:((BA (cG (a (n/4)).natAbs)).toList==(ByteArray.mk #[]).toList)=true:=by rw[KK];exact aE h1
  rcases n with _|_|_|_|_|_|_|_|_|_|_|_|_|_|_|_|n
  all_goals first|omega|exact aC [.rw 25 _ b_ (cL Value.bool e)]
 ·by_cases h2:b (n%4)=0
  ·rw[OQ (.inr h2)];have e:((BA (cG (a (n/4)).natAbs)).toList==(ByteArray.mk #[]).toList)=false:=by rw[KK];exact aO h1
   have e':((BA (cG (b (n%4)).natAbs)).toList==(ByteArray.mk #[]).toList)=true:=by rw[KK];exact aE h2
   rcases n with _|_|_|_|_|_|_|_|_|_|_|_|_|_|_|_|n
   all_goals first|omega|exact aC [.rw 25 _ a_ (cL Value.bool e),.rw 29 _ b_ (cL Value.bool e')]
  ·have e:((BA (cG (a (n/4)).natAbs)).toList==(ByteArray.mk #[]).toList)=false:=by rw[KK];exact aO h1
   have e':((BA (cG (b (n%4)).natAbs)).toList==(ByteArray.mk #[]).toList)=false:=by rw[KK];exact aO h2
   rcases n with _|_|_|_|_|_|_|_|_|_|_|_|_|_|_|_|n
   all_goals first|omega|exact aC [.rw 25 _ a_ (cL Value.bool e),.rw 29 _ a_ (cL Value.bool e'),so.at 37,m1.at 49,m2.at 50,ad.at 51]
theorem UE{p q:Nat}(ha:∀ i,(a i).natAbs<2^p)(hb:∀ i,(b i).natAbs<2^q):∀ n,n<=16->∀ k,(jW a b n k).natAbs<=n*2^(p+q+3)
 |0,_,k=>by show(0:Int).natAbs<=_;simp
 |n+1,hn,k=>by
  have ih:=UE ha hb n o_ k;show(xG n a b (jW a b n) k).natAbs<=_;unfold xG;rw[fF,ql];split
  ·have rz:∀ m,(sq m).natAbs<2^3:=λm=>by unfold sq;split<;>decide
   have h1:=eQ (rz ((n/4)&&& (n%4))) (eQ (ha (n/4)) (hb (n%4)));rw[show 3+(p+q)=p+q+3 by omega]at h1;have:=aBi (jW a b n k) (sq ((n/4)&&& (n%4))*(a (n/4)*b (n%4)));exact di this (KL ih (jV h1))
  ·exact di ih (J7 _ _)
end
theorem KM(f g:Fr):mY (jW (co f) (co g) 16) (f.d*g.d)=dY f g:=by
 apply Fr.ext'
 ·show jW (co f) (co g) 16 0=_;simp[jW,xG,sq,co,dY]
 ·show jW (co f) (co g) 16 1=_;simp[jW,xG,sq,co,dY]
 ·show jW (co f) (co g) 16 2=_;simp[jW,xG,sq,co,dY]
 ·show jW (co f) (co g) 16 3=_;simp[jW,xG,sq,co,dY]
 ·rfl
theorem Ib{f:Fr}{n:Nat}(h:dL n f):∀ i,(co f i).natAbs<2^n
 |0=>h.1
 |1=>h.2.1
 |2=>h.2.2.1
 |_+3=>h.2.2.2.1
theorem aBw:ic (λ_=>0)=[.bool false,.string ⟨#[]⟩,.bool false,.string ⟨#[]⟩,.bool false,.string ⟨#[]⟩,.bool false,.string ⟨#[]⟩]:=by unfold ic;rw[Bz];rfl
theorem aKS{f g:Fr}{n:Nat}(hf:dL m f)(hg:dL n g)(vD:f.d≠0)(ob:g.d≠0)(cN:m+n+8<=az):aB prog 97 [gH f,gH g] (gH (dY f g).low):=by
 have nK:az<=1099511627776:=by decide
 have ca:=Ib hf;have cb:=Ib hg;have hl:=Bv (c:=jW (co f) (co g) 16) (d:=f.d*g.d) (n:=m+n+4) (Dl vD ob) (by rw[KM];exact hf.mul hg) o_;rw[KM]at hl;have md:=mW hf.2.2.2.2 hg.2.2.2.2 o_ o_;have hs:∀ i,i<=16->∀ k,(jW (co f) (co g) i k).natAbs<2^(m+n+8):=λi hi k=>by
  have h1:=UE ca cb i hi k;have h2:i*2^(m+n+3)<=16*2^(m+n+3):=eh _ hi;have h3:2^(m+n+8)=32*2^(m+n+3):=by rw[show m+n+8=5+(m+n+3)by omega,eP]
  have h4:0<2^(m+n+3):=cI d_;omega
 have go:∀(w:h_) (i:Nat),i<16->af prog (aa.at w) 62 (.block 3 (ag f97 3)) (UD i (co g)) (Ia i (co f) (jW (co f) (co g) i)) (nx i) ⟨.normal,[],Ia i (co f) (jW (co f) (co g) (i+1)),nx i+2⟩:=λw i hi=>
  aKR i hi ca cb (hs i o_) o_ o_
 have UF:∀(w:h_),af prog (aa.at w) 62 (.block 3 (ag f97 3)) (UD 0 (co g)) [(3,.aI [.bool false,.string ⟨#[]⟩,.bool false,.string ⟨#[]⟩,.bool false,.string ⟨#[]⟩,.bool false,.string ⟨#[]⟩] 31),(m7 0,.aI (bt (co f 0)).cs 30)] (nx 0)
   ⟨.normal,[],Ia 0 (co f) (jW (co f) (co g) 1),nx 0+2⟩:=λw=>by
  have h:=go w 0 o_;have e:Ia 0 (co f) (jW (co f) (co g) 0)=[(3,.aI [.bool false,.string ⟨#[]⟩,.bool false,.string ⟨#[]⟩,.bool false,.string ⟨#[]⟩,.bool false,.string ⟨#[]⟩] 31),(m7 0,.aI (bt (co f 0)).cs 30)]:=by show[(3,Obj.aI (ic (λ_=>0)) 31),(m7 0,.aI (bt (co f 0)).cs 30)]=_;rw[aBw]
  rw[e]at h;exact h
 generalize jW (co f) (co g)=c at *;exact eF mixed func97 200 (λw=>[.code 3 _ _ _ _ _ (UF w),.code 3 _ _ _ _ _ (go w 1 o_),.code 3 _ _ _ _ _ (go w 2 o_),.code 3 _ _ _ _ _ (go w 3 o_),.code 3 _ _ _ _ _ (go w 4 o_),.code 3 _ _ _ _ _ (go w 5 o_),.code 3 _ _ _ _ _ (go w 6 o_),.code 3 _ _ _ _ _ (go w 7 o_),.code 3 _ _ _ _ _ (go w 8 o_),.code 3 _ _ _ _ _ (go w 9 o_),.code 3 _ _ _ _ _ (go w 10 o_),.code 3 _ _ _ _ _ (go w 11 o_),.code 3 _ _ _ _ _ (go w 12 o_),.code 3 _ _ _ _ _ (go w 13 o_),.code 3 _ _ _ _ _ (go w 14 o_),.code 3 _ _ _ _ _ (go w 15 o_),md.at 60,hl.at 61]) (λ_=>k_) k_ k_
theorem Ic{y:K}{n:Nat}(hx:Sz m x)(hy:Sz n y)(cN:m+n+8<=az):aB prog 97 [bK x,bK y] (bK (x*y)):=by
 have e:bK (x*y)=gH (dY (bN x) (bN y)).low:=by unfold bK cO;rw[Un];rfl
 rw[e];exact aKS hx hy (by have:=(kF x).pos;omega) (by have:=(kF y).pos;omega) cN
theorem nh{y:K}{n:Nat}(hx:Sz m x)(hy:Sz n y)(cN:m+n+8<=az):aB prog 52 [bK x,bK y] (bK (x*y)):=
 bo func52 (λ_=>[(kG hx o_).at 6,(kG hy o_).at 10,(Ic hx hy cN).at 16])
theorem aKT:aB prog 96 [bK x,vI 2] (bK (mZ x)):=by
 have e:bK (mZ x)=gH (xE (bN x)):=by unfold bK cO;rw[aBs];rfl
 rw[e];exact bo func96 (λ_=>[(oq (bN x).c).at 18,(oq (bN x).e).at 18])
theorem aKU:aB prog 96 [bK x,vI 1] (bK (lV x)):=by
 have e:bK (lV x)=gH (xF (bN x)):=by unfold bK cO;rw[aBt];rfl
 rw[e];exact bo func96 (λ_=>[(oq (bN x).b).at 18,(oq (bN x).e).at 18])
theorem aKV:kI 0=0:=rfl
theorem Ie{y:K}{n:Nat}(h:y≠0)(hx:Sz m x)(hy:Sz n y)(cN:m+7*n+40<=az):aB prog 44 [bK x,bK y] (.tuple #[bK (x*y⁻¹),.int .i64 0]):=by
 have h1:Sz (n+n+4) (two y):=hy.mul hy.mZ;have h2:Sz (n+n+4+(n+n+4)+4) (ry y):=h1.mul h1.lV;have h3:=Sz.inv h hy;have d1:=Ic hy hy.mZ o_;have d2:=Ic h1 h1.lV o_;have d3:=Ic hx hy.mZ o_;have d4:=Ic h1.lV h3 o_;have d5:=Ic (hx.mul hy.mZ) (h1.lV.mul h3) o_;rw[aBv h]at d5;have hi:=Bv (c:=co (ow y)) (d:=(ow y).d) (n:=n+n+4+(n+n+4)+4) (OP h) (by obtain⟨a1,a2,a3,a4,a5⟩:=h2;have hp:0<2^(n+n+4+(n+n+4)+4):=cI d_;exact⟨a5,hp,hp,hp,a1⟩) o_
 have e:mY (co (ow y)) (ow y).d=ow y:=rfl;have e2:gH (ow y).low=bK (ow y).val:=by unfold bK cO;rw[FG (OP h)];rfl
 rw[e,e2]at hi;have e3:ou (co (ow y))=.agg #[.bool (bt (bN (ry y)).d).neg,.string (BA (bt (bN (ry y)).d).aW),.bool false,.string ⟨#[]⟩,.bool false,.string ⟨#[]⟩,.bool false,.string ⟨#[]⟩]:=by show Value.agg #[.bool (bt (bN (ry y)).d).neg,.string (BA (bt (bN (ry y)).d).aW),.bool (bt 0).neg,.string (BA (bt 0).aW),.bool (bt 0).neg,.string (BA (bt 0).aW),.bool (bt 0).neg,.string (BA (bt 0).aW)]=_;rw[Bz];rfl
 rw[e3]at hi;have e4:(ow y).d=(bN (ry y)).a:=rfl;rw[e4]at hi;have z:=rq (z:=0) d_;have zs:Sz 1 (kI 0):=o9 d_ o_;have ne:cO y≠cO (kI 0):=λe=>h (by rw[KH e];rfl);generalize (ow y).val=v at *;exact bo func44 (λ_=>[(kG hx o_).at 13,(kG hy o_).at 17,z.at 23,.step 24 (aA f44 24) _ _ _ _ (H9 (neg:=true) k_ (cO y) (cO (kI 0)) (uY hy o_) (uY zs d_) (b:=false) (by simp;exact ne)),(aKT (x:=y)).at 27,d1.at 30,(aKU (x:=two y)).at 32,d2.at 35,hi.at 42,d3.at 45,d4.at 48,d5.at 49])
theorem aKW(hx:Sz m x)(hm:m<=az):aB prog 44 [bK x,bK 0] (.tuple #[.agg #[.bool false,.string ⟨#[]⟩,.bool false,.string ⟨#[]⟩,.bool false,.string ⟨#[]⟩,.bool false,.string ⟨#[]⟩,.bool false,.string ⟨#[]⟩],.int .i64 10]):=by have zs:Sz 1 (kI 0):=o9 d_ o_;exact bo func44 (λ_=>[(kG hx hm).at 13,(kG (x:=0) zs d_).at 17,(rq (z:=0) d_).at 23,.step 24 (aA f44 24) _ _ _ _ (H9 (neg:=true) k_ (cO 0) (cO (kI 0)) (uY zs d_) (uY zs d_) (b:=true) (by simp;rfl))])
theorem UG{a b s:Int}(ha:a.natAbs<=1)(hs:s.natAbs<=1):aB prog 166 [.int .i64 a,.int .i64 b,.int .i64 s] (.int .i64 (tU a b s)):=by
 have hw:IntKind.i64.wrap (a*s)=a*s:=by
  have h1:a=-1\/a=0\/a=1:=by omega
  rcases h1 with h1|h1|h1<;>rw[h1,dX]<;>omega
 unfold tU;by_cases h1:a=b
 ·rw[ax (.inl h1)];exact bo func166 (λ_=>[.rw 10 (.bool (a==b)) b_ (by rw[h1];simp)])
 ·by_cases h2:b=0
  ·rw[ax (.inr h2)];exact bo func166 (λ_=>[.rw 10 (.bool (a==b)) a_ (by congr 1;simpa using h1),.rw 13 (.bool (b==0)) b_ (by rw[h2];rfl)])
  ·rw[ao (λh=>h.elim h1 h2)];by_cases h3:a=0
   ·rw[ax h3];exact bo func166 (λ_=>[.rw 10 (.bool (a==b)) a_ (by congr 1;simpa using h1),.rw 13 (.bool (b==0)) a_ (by congr 1;simpa using h2),.rw 18 (.bool (a==0)) b_ (by rw[h3];rfl)])
   ·rw[ao h3];exact bo func166 (λ_=>[.rw 10 (.bool (a==b)) a_ (by congr 1;simpa using h1),.rw 13 (.bool (b==0)) a_ (by congr 1;simpa using h2),.rw 18 (.bool (a==0)) a_ (by congr 1;simpa using h3),.wr 22 .i64 (a*s) (a*s) hw])
theorem FM{k:Int}{x y:Int}{p:Nat}(hk:k.natAbs<2^3)(h1:x.natAbs<2^p)(h2:y.natAbs<2^q)(OR:p+q+3<=az):aB prog 168 [.int .i64 k,aV x,aV y] (aV (k*(x*y))):=by
 have nK:az<=1099511627776:=by decide
 exact bo func168 (λ_=>[(ke (z:=k) (lO hk d_)).at 8,(mW h1 h2 o_ o_).at 11,(mW hk (eQ h1 h2) o_ o_).at 12])
theorem Ig{k x y:Int}{p:Nat}(hk:k.natAbs<2^3)(h1:x.natAbs<2^p)(h2:y.natAbs<2^q):(k*(x*y)).natAbs<2^(p+q+3):=by have:=eQ hk (eQ h1 h2);rwa[show 3+(p+q)=p+q+3 by omega]at this
theorem Ih{x y:Int}{p:Nat}(h1:x.natAbs<2^p)(h2:y.natAbs<2^p):(x+y).natAbs<2^(p+1):=by have:=aBi x y;rw[dD];omega
theorem OS{x y:Int}{p:Nat}(h1:x.natAbs<2^p)(h2:y.natAbs<2^p):(x-y).natAbs<2^(p+1):=by have:=Int.natAbs_sub_le x y;rw[dD];omega
theorem Dp(z:Int):z.sign.natAbs<=1:=by
 rcases Ox z 0 with h|h|h
 ·rw[Fu h];decide
 ·rw[h];decide
 ·rw[zu h];decide
theorem UH{x y:Int}{p:Nat}(h1:x.natAbs<2^p)(h2:y.natAbs<2^q)(hp:p+p+3<=az)(hq:q+q+3<=az):aB prog 165 [aV x,aV y] (.int .i64 (pM x y)):=by
 have nK:az<=1099511627776:=by decide
 exact bo func165 (λ_=>[(om x).at 6,(om y).at 8,(mW h1 h1 o_ o_).at 11,(FM (k:=2) d_ h2 h2 o_).at 14,(TP (eQ h1 h1) (Ig (k:=2) d_ h2 h2) o_ o_).at 15,(UG (b:=y.sign) (s:=(x*x-2*(y*y)).sign) (Dp x) (Dp _)).at 16])
theorem OT(x y:Int):(pM x y).natAbs<=1:=by
 unfold pM tU;have h1:=Dp x;have h2:=Dp y;have h3:=Dp (x*x-2*(y*y));split
 ·exact h1
 ·split
  ·exact h2
  ·rw[xA];exact di (xi h1 h3) d_
theorem nL{n:Nat}(hx:Sz n x)(hn:4*n+20<=az):aB prog 122 [bK x] (.int .i64 (OF.aD x)):=by
 have nK:az<=1099511627776:=by decide
 have hv:=kG hx o_;rw[aBm];obtain⟨x1,x2,x3,x4,x5⟩:=hx;unfold bK cO at *;generalize bN x=f at *;have s1:=UH x1 x2 o_ o_;have s2:=UH x3 x4 o_ o_;have t1:=FM (k:=1) d_ x1 x1 o_;rw[Oj]at t1;have t2:=FM (k:=2) d_ x2 x2 o_;have t3:=FM (k:=3) d_ x3 x3 o_;have t6:=FM (k:=6) d_ x4 x4 o_;have z1:(f.a*f.a).natAbs<2^(n+n+3):=cF (eQ x1 x1) (df d_ o_);have z2:=Ig (k:=2) d_ x2 x2;have z3:=Ig (k:=3) d_ x3 x3;have z6:=Ig (k:=6) d_ x4 x4;have a1:=zv z1 z2 o_ o_;have a2:=zv z3 z6 o_ o_;have b1:=Fx (Ih z1 z2) (Ih z3 z6) o_ o_;have u2:=FM (k:=2) d_ x1 x2 o_;have u6:=FM (k:=6) d_ x3 x4 o_;have y2:=Ig (k:=2) d_ x1 x2;have y6:=Ig (k:=6) d_ x3 x4;have b2:=Fx y2 y6 o_ o_;have s3:=UH (OS (Ih z1 z2) (Ih z3 z6)) (OS y2 y6) o_ o_;have xH:=OT f.a f.b;have UI:=OT ((f.a*f.a+2*(f.b*f.b))-(3*(f.c*f.c)+6*(f.e*f.e))) (2*(f.a*f.b)-6*(f.c*f.e));have mx:=UG (b:=pM f.c f.e) xH UI;have m0:=UG (a:=pM f.a f.b) (b:=pM f.c f.e) (s:=0) xH d_;unfold OJ;generalize pM f.a f.b=p at *;generalize pM f.c f.e=q at *;by_cases h:p=q\/q=0\/p=0
 ·have e:tU p q (pM ((f.a*f.a+2*(f.b*f.b))-(3*(f.c*f.c)+6*(f.e*f.e))) (2*(f.a*f.b)-6*(f.c*f.e)))=tU p q 0:=by
   unfold tU;by_cases h1:p=q\/q=0
   ·rw[ax h1,ax h1]
   ·rw[ao h1,ao h1];have h2:p=0:=by
     rcases h with h|h|h
     ·exact absurd (.inl h) h1
     ·exact absurd (.inr h) h1
     ·exact h
    rw[ax h2,ax h2]
  rw[e];by_cases h1:p=q
  ·exact bo func122 (λ_=>[hv.at 12,s1.at 28,s2.at 31,.rw 34 (.bool (p==q)) b_ (by rw[h1];simp),m0.at 45])
  ·by_cases h2:q=0
   ·exact bo func122 (λ_=>[hv.at 12,s1.at 28,s2.at 31,.rw 34 (.bool (p==q)) a_ (by congr 1;simpa using h1),.rw 37 (.bool (q==0)) b_ (by rw[h2];rfl),m0.at 45])
   ·have h3:p=0:=by
     rcases h with h|h|h
     ·exact absurd h h1
     ·exact absurd h h2
     ·exact h
    exact bo func122 (λ_=>[hv.at 12,s1.at 28,s2.at 31,.rw 34 (.bool (p==q)) a_ (by congr 1;simpa using h1),.rw 37 (.bool (q==0)) a_ (by congr 1;simpa using h2),.rw 41 (.bool (p==0)) b_ (by rw[h3];rfl),m0.at 45])
 ·have h1:p≠q:=λe=>h (.inl e);have h2:q≠0:=λe=>h (.inr (.inl e));have h3:p≠0:=λe=>h (.inr (.inr e));exact bo func122 (λ_=>[hv.at 12,s1.at 28,s2.at 31,.rw 34 (.bool (p==q)) a_ (by congr 1;simpa using h1),.rw 37 (.bool (q==0)) a_ (by congr 1;simpa using h2),.rw 41 (.bool (p==0)) a_ (by congr 1;simpa using h3),t1.at 48,t2.at 51,a1.at 52,t3.at 55,t6.at 58,a2.at 59,b1.at 60,u2.at 63,u6.at 66,b2.at 67,s3.at 72,mx.at 73])
theorem kH{y:K}{n:Nat}(hx:Sz m x)(hy:Sz n y)(cN:4*(m+n)+24<=az):aB prog 69 [bK x,bK y] (.int .i64 (OF.aD (x-y))):=
 bo func69 (λ_=>[(BB hx hy o_).at 7,(nL (hx.sub hy) o_).at 8])
def iS(x:K):K:=if OF.aD x<0 then -x else x
theorem UJ{n:Nat}(hx:Sz n x)(hn:4*n+20<=az):aB prog 239 [bK x] (bK (iS x)):=by
 unfold iS;have n1:=zE hx o_;have n2:=zE hx.neg o_;rw[CR.neg_neg]at n2;by_cases h:OF.aD x<0
 ·rw[ax h];exact bo func239 (λ_=>[(nL hx hn).at 4,.rw 5 (.bool (decide (OF.aD x<0))) b_ (by rw[aE h]),n1.at 7])
 ·rw[ao h];exact bo func239 (λ_=>[(nL hx hn).at 4,.rw 5 (.bool (decide (OF.aD x<0))) a_ (by rw[aO h]),n1.at 9,n2.at 10])
theorem aBx{o:Nat}{x:Obj}(h:iM ι w (.at b o cap) x)(hx:x.owns=true):∃ cs ty,w.heap[b]?=some (.cells cs ty (0,0)):=by
 cases x with
 |aI cells ty=>
  obtain⟨b',cg,e,_,h2⟩:=h;injection e with e _ _;subst e;exact⟨_,_,h2⟩
 |row cells ty size=>
  rcases h with ⟨h,_⟩|⟨b',bE,cur,e,h2,_⟩
  ·cases h
  ·injection e with e _ _;subst e;exact⟨_,_,h2⟩
 |_=>cases hx
def Obj.soft:Obj->Bool
 |.view _=>true
 |.fact F=>!F.rc
 |_=>false
theorem aKX{x:Obj}(h:x.soft=true)(k:x.owns=true):False:=by cases x<;>simp[Obj.soft,Obj.owns]at h k
theorem aKY{F:Fact}(h:(Obj.fact F).soft=true):F.rc=false:=by simpa[Obj.soft]using h
def Else(w:h_)(l:Nat):Prop:=∀ cs ty f,w.heap[l]?≠some (.cells cs ty f)
theorem UK{l:Nat}{r:Loop}(h:w.heap[l]?=some (.loop r)):Else w l:=λcs ty f e=>by rw[h]at e;cases e
theorem aKZ{l:Nat}{r:Option (List Deferred)}(h:w.heap[l]?=some (.deferred r)):Else w l:=λcs ty f e=>by rw[h]at e;cases e
theorem OU{loc:pY}{x:Obj}{l:Nat}(hl:Else w l)(h:iM ι w loc x)(hx:∀ F,x=.fact F->F.rc=false)(hz:w.heap.size<=w'.heap.size)
  (hs:∀ b o cap,x.owns=true\/x.jN=true->loc=.at b o cap->b=l\/w'.heap[b]?=w.heap[b]?) (hf:∀ F v b,x=.fact F->loc=.val v->F.cS v w b->b=l\/w'.heap[b]?=w.heap[b]?):iM ι w' loc x:=by
 cases x with
 |aI cells ty=>
  obtain⟨b,cg,e,h1,h2⟩:=h;rcases hs b 0 0 (.inl rfl) e with rfl|hb
  ·exact absurd h2 (hl _ _ _)
  ·exact⟨b,cg,e,h1,by rw[hb];exact h2⟩
 |row cells ty size=>
  rcases h with h|⟨b,cap,cur,e,h1,h2⟩
  ·exact .inl h
  ·rcases hs b 0 cap (.inl rfl) e with rfl|hb
   ·exact absurd h1 (hl _ _ _)
   ·exact .inr ⟨b,cap,cur,e,by rw[hb];exact h1,h2⟩
 |view cells=>
  rcases h with h|⟨b,o,cap,cg,e,h1,h2⟩
  ·exact .inl h
  ·rcases hs b o cap (.inr rfl) e with rfl|hb
   ·have:cg=[]:=by
     cases cg with
     |nil=>rfl
     |cons u t=>
      have:=h2 0 u rfl;unfold World.cell? at this;dsimp only at this;split at this
      ·rename_i h3;exact absurd h3 (hl _ _ _)
      ·cases this
    subst this;exact .inr ⟨b,o,cap,[],e,h1,λj u hj=>by cases hj⟩
   ·exact .inr ⟨b,o,cap,cg,e,h1,λj u hj=>by rw[World.cell?_of_block (w:=w) (w':=w') (a:=⟨b,o+j,none⟩) hb];exact h2 j u hj⟩
 |fact F=>
  obtain⟨v,e,h1⟩:=h;refine⟨v,e,(F.soft (hx F rfl) v w w' h1 hz λk hk cs ty f hc=>?_).1⟩;rcases hf F v k rfl e hk with rfl|hb
  ·exact absurd hc (hl _ _ _)
  ·rw[hb];exact hc
 |dead=>trivial
theorem OV{B1 B2:aa}{c2:g_}{w1 w2:h_}(h:aM B1 ι c w1)(hL:da c L)(sj:∀ k x,ai L k=some x->κ k=ι k)
  (aK0:∀ k x l,ai L k=some x->ι k=some l->iM ι w1 l x->iM κ w2 l x) (aK1:B2.G w2) (EA:∀ k x b o cap,ai L k=some x->x.owns=true->ι k=some (.at b o cap)->¬B2.cS b)
  (yI:w1.heap.size<=w2.heap.size) (Tg:∀ k,c2 k=none->κ k=none) (dq:∀ k x,c2 k=some x->ai L k=some x\/(x=.dead/\∃ l,κ k=some l)) (Dq:∀ k F,ai L k=some (.fact F)->F.rc=true->B2.Fa F) (hff:∀ k F v b,ai L k=some (.fact F)->ι k=some (.val v)->F.cS v w2 b->F.cS v w1 b)
  (hle:Map.le B2.mp κ):aM B2 κ c2 w2:=by
 have src:∀{k x},c2 k=some x->x≠.dead->c k=some x/\κ k=ι k/\ai L k=some x:=λ{k x} hk hx=>by
  rcases dq k x hk with h1|⟨h1,_⟩
  ·exact⟨hL k x h1,sj k x h1,h1⟩
  ·exact absurd h1 hx
 have nd:∀{x:Obj},x.owns=true->x≠.dead:=λh e=>by subst e;cases h
 have nv:∀{x:Obj},x.jN=true->x≠.dead:=λh e=>by subst e;cases h
 refine⟨aK1,Tg,?_,?_,?_,?_,?_,?_,?_,hle⟩
 ·intro k x hk;rcases dq k x hk with h1|⟨rfl,l,hl⟩
  ·obtain⟨l,e1,e2⟩:=h.born k x (hL k x h1);exact⟨l,(sj k x h1).trans e1,aK0 k x l h1 e1 e2⟩
  ·exact⟨l,hl,trivial⟩
 ·intro k x b o cap hk hx hl;obtain⟨q1,q2,q3⟩:=src hk (nd hx);rw[q2]at hl;exact⟨cF (h.own k x b o cap q1 hx hl).1 yI,EA k x b o cap q3 hx hl⟩
 ·intro k j x y b o cap o' bE hk hx hj hy hl dh;obtain⟨q1,q2,_⟩:=src hk (nd hx);obtain⟨p1,p2,_⟩:=src hj (nd hy);exact h.inj k j x y b o cap o' bE q1 hx p1 hy (q2▸hl) (p2▸dh)
 ·intro k j x F b o cap v hk hx hl hj hv;obtain⟨q1,q2,_⟩:=src hk (nd hx);obtain⟨p1,p2,p3⟩:=src hj n_;intro hF;exact h.apart k j x F b o cap v q1 hx (q2▸hl) p1 (p2▸hv) (hff j F v b p3 (p2▸hv) hF)
 ·intro k x b o cap hk hx hl;obtain⟨q1,q2,_⟩:=src hk (nv hx);obtain⟨s1,s2⟩:=h.seen k x b o cap q1 hx (q2▸hl);refine⟨cF s1 yI,λj y o' bE hj hy hm=>?_⟩;obtain⟨p1,p2,_⟩:=src hj (nd hy);exact s2 j y o' bE p1 hy (p2▸hm)
 ·intro j F hj;exact Dq j F (src hj n_).2.2
 ·intro j k F F' hj hk;exact h.one j k F F' (src hj n_).1 (src hk n_).1
def fH(l:Nat)(r:Loop):Fact where
 G _ W:=W.heap[l]?=some (.loop r)
 cS _ _ k:=k=l
 lt _ w k h hk:=by subst hk;exact(wY.1 h).1
 dep _ w w' h _ hk:=⟨(hk l rfl).trans h,λk h=>h⟩
 rc:=true
 soft h:=by cases h
def pN(W1:h_)(l:Nat)(S:Nat->Prop)(m:Map):aa where
 G W:=tz W1 W/\W.tape=W1.tape/\W.output=W1.output/\W1.heap.size<=W.heap.size/\∀ k,k<W1.heap.size->¬S k->k≠l->W.heap[k]?=W1.heap[k]?
 cS k:=k<W1.heap.size/\¬S k/\k≠l
 Fa F:=∃ r,F=fH l r
 mp:=m
 lt w k h hk:=cF hk.1 h.2.2.2.1
 dep w w' h h1 h2 h3 h4 h5:=⟨h1.trans h.1,h2.trans h.2.1,h3.trans h.2.2.1,di h.2.2.2.1 h4,λk hk hS hl=>(h5 k ⟨hk,hS,hl⟩).trans (h.2.2.2.2 k hk hS hl)⟩
section
variable{W1 W:h_}{l g:Nat}{S:Nat->Prop}{m ι:Map}{c:g_}{r r':Loop}
theorem FN(h:aM B ι c W)(hg:c g=some (.fact (fH l r))):W.heap[l]?=some (.loop r):=by obtain⟨lc,hl,v,_,hr⟩:=h.born g _ hg;exact hr
theorem aBy(h:aM (pN W1 l S m) ι c W)(hg:c g=some (.fact (fH l r))):aM (pN W1 l S m) ι (bh c g (.fact (fH l r'))) (W.putObj l (.loop r')):=by
 have hr:=FN h hg;have ak:=(wY.1 hr).1;have sP:=UK hr;have ne:∀ b,b≠l->(W.putObj l (.loop r')).heap[b]?=W.heap[b]?:=λb hb=>UL hb;have c9:∀ j y,j≠g->bh c g (.fact (fH l r')) j=some y->c j=some y:=λj y hj e=>by unfold bh at e;rw[ao hj]at e;exact e
 have new:∀ y,bh c g (.fact (fH l r')) g=some y->y=.fact (fH l r'):=λy e=>by unfold bh at e;rw[ax rfl]at e;injection e with e;exact e.symm
 have nf:∀ j y,j≠g->c j=some y->∀ F,y=.fact F->F.rc=false:=λj y hj e F e2=>by
  subst e2;cases hr:F.rc with
  |false=>rfl
  |true=>exact absurd (h.one j g F _ e hg hr rfl) hj
 have og:∀ j y,bh c g (.fact (fH l r')) j=some y->y.owns=true\/y.jN=true->c j=some y:=λj y e hy=>by
  by_cases hj:j=g
  ·subst hj;rw[new y e]at hy;rcases hy with hy|hy<;>cases hy
  ·exact c9 j y hj e
 refine⟨⟨h.base.1,h.base.2.1,h.base.2.2.1,by rw[rC];exact h.base.2.2.2.1,λk hk hS hl=>(ne k hl).trans (h.base.2.2.2.2 k hk hS hl)⟩,?_,?_,?_,?_,?_,?_,?_,?_,h.rV⟩
 ·intro j hj;unfold bh at hj;by_cases qD:j=g
  ·rw[ax qD]at hj;cases hj
  ·rw[ao qD]at hj;exact h.dJ j hj
 ·intro j y hj;by_cases qD:j=g
  ·subst qD;rw[new y hj];obtain⟨lc,hl,v,e,_⟩:=h.born j _ hg;exact⟨lc,hl,v,e,World.putObj_heap_same ak⟩
  ·have hc:=c9 j y qD hj;obtain⟨lc,hl,ho⟩:=h.born j y hc;exact⟨lc,hl,OU sP ho (nf j y qD hc) (by rw[rC];exact bA _) (λb o cap _ _=>(Nat.decEq b l).casesOn (λhb=>.inr (ne b hb)) λhb=>.inl hb) λF v b _ _ _=>(Nat.decEq b l).casesOn (λhb=>.inr (ne b hb)) λhb=>.inl hb⟩
 ·intro k x b o cap hk hx hl;rw[rC];exact h.own k x b o cap (og k x hk (.inl hx)) hx hl
 ·intro k j x y b o cap o' bE hk hx hj hy;exact h.inj k j x y b o cap o' bE (og k x hk (.inl hx)) hx (og j y hj (.inl hy)) hy
 ·intro k j x F b o cap v hk hx hl hj hv hF;have ij:=og k x hk (.inl hx);by_cases qD:j=g
  ·subst qD;have e:=new _ hj;injection e with e;subst e;exact h.apart k j x _ b o cap v ij hx hl hg hv hF
  ·have fK:=c9 j _ qD hj;obtain⟨lc,q1,v',q2,q3⟩:=h.born j _ fK;rw[hv]at q1;injection q1 with q1;subst q1;injection q2 with q2;subst q2;refine h.apart k j x F b o cap v ij hx hl fK hv ((F.soft (nf j _ qD fK F rfl) v W _ q3 (by rw[rC];exact bA _) λk2 gv cs ty f hc=>?_).2 b hF);rw[ne k2 (λe=>by subst e;exact sP _ _ _ hc)];exact hc
 ·intro k x b o cap hk hx hl;rw[rC];obtain⟨q1,q2⟩:=h.seen k x b o cap (og k x hk (.inr hx)) hx hl;exact⟨q1,λj y o' bE hj hy=>q2 j y o' bE (og j y hj (.inl hy)) hy⟩
 ·intro j F hj;by_cases qD:j=g
  ·subst qD;have e:=new _ hj;injection e with e;exact λ_=>⟨r',e⟩
  ·exact h.fa j F (c9 j _ qD hj)
 ·intro j k F F' hj hk hr EB;by_cases qD:j=g
  ·by_cases Dr:k=g
   ·rw[qD,Dr]
   ·have:=nf k _ Dr (c9 k _ Dr hk) F' rfl;rw[EB]at this;cases this
  ·have:=nf j _ qD (c9 j _ qD hj) F rfl;rw[hr]at this;cases this
end
def xI(ι:Map)(next:Nat):Map:=λk=>if k<next then ι k else none
def rD(c:g_)(next:Nat)(L:aH):g_:=λk=>if k<next then(match ai L k with|some x=>some x|none=>(c k).map λ_=>.dead)else none
theorem Ii{next:Nat}(h:k<next):xI ι next k=ι k:=by unfold xI;rw[ax h]
theorem BC{p:Nat×Obj->Bool}(h:L.all p=true){x:Obj}(hk:ai L k=some x):p (k,x)=true:=bd.1 h _ (jf hk)
theorem OW:∀{L:aH} {k:Nat},ai L k=none↔k∉L.map (·.1)
 |[],k=>by simp[ai]
 |(j,x)::L,k=>by
  by_cases h:j=k
  ·subst h;simp[ai]
  ·have e:ai ((j,x)::L) k=ai L k:=by show(if Nat.beq j k then _ else _)=_;rw[oO h];rfl
   rw[e,OW];simp[mN h]
theorem Ds{L':aH}(h:L'.map (·.1)=L.map (·.1))(k:Nat):ai L' k=none↔ai L k=none:=by rw[OW,OW,h]
def UM(L:aH)(k:Nat):Bool:=L.any λp=>Nat.beq p.1 k
theorem aBz(h:UM L k=true):ai L k≠none:=λe=>by obtain⟨p,hp,e2⟩:=rZ.1 h;exact OW.1 e (dj.2 ⟨p,hp,kt e2⟩)
def ni(next:Nat)(p:Nat×Obj):Bool:=p.2.cells.all (lM next)
theorem KN{next:Nat}{p:Nat×Obj}(h:ni next p=true):fe next p.2:=λv hv=>bd.1 h v hv
theorem UN(mK:∀ k x,ai Vs k=some x->x.soft=true){x:Obj}(e:ai (Os++Vs) k=some x)(hx:x.owns=true):ai Os k=some x:=by
 rw[jQ]at e;cases e1:ai Os k with
 |some y=>rw[e1]at e;exact e
 |none=>
  rw[e1]at e;exact(aKX (mK k x e) hx).elim
theorem OX(eW:∀ k x,ai Os k=some x->x.owns=true)(mK:∀ k x,ai Vs k=some x->x.soft=true){F:Fact}(e:ai (Os++Vs) k=some (.fact F)):F.rc=false:=by
 rw[jQ]at e;cases e1:ai Os k with
 |some y=>rw[e1]at e;injection e with e;subst e;have:=eW k _ e1;cases this
 |none=>rw[e1]at e;exact aKY (mK k _ e)
theorem Ij(hL:da c L)(h:c k=none):ai L k=none:=by
 cases e:ai L k with
 |none=>rfl
 |some x=>rw[hL _ _ e]at h;cases h
theorem aBA{B2:aa}{W:h_}{next:Nat}(h:aM B ι c W)(hL:da c L)(dE:∀ k x,ai L k=some x->k<next/\fe next x)(hb:B2.G W)
  (EA:∀ k x b o cap,ai L k=some x->x.owns=true->ι k=some (.at b o cap)->¬B2.cS b) (Dq:∀ k F,ai L k=some (.fact F)->F.rc=true->B2.Fa F) (hle:Map.le B2.mp (xI ι next)) :
  aM B2 (xI ι next) (rD c next L) W/\da (rD c next L) L/\eU (rD c next L) next:=by
 refine⟨OV (L:=L) h hL (λk x e=>Ii (dE k x e).1) (λk x lc e _ ho=>ho.below (λk hk l e=>by rw[Ii hk];exact e) (dE k x e).2) hb EA (bA _) (λk e=>?_) (λk x e=>?_) Dq (λ_ _ _ _ _ _ h=>h) hle,λk x e=>?_,λk hk=>by unfold rD;rw[ao o_]⟩
 ·unfold rD at e;unfold xI;split at e
  ·rename_i hk;rw[ax hk];split at e
   ·cases e
   ·cases hc:c k with
    |none=>exact h.dJ k hc
    |some x=>rw[hc]at e;cases e
  ·rename_i hk;rw[ao hk]
 ·unfold rD at e;split at e
  ·rename_i hk;split at e
   ·rename_i y hy;injection e with e;subst e;exact .inl hy
   ·cases hc:c k with
    |none=>rw[hc]at e;cases e
    |some y=>
     rw[hc]at e;injection e with e;obtain⟨lc,q,_⟩:=h.born k y hc;exact .inr ⟨e.symm,lc,by rw[Ii hk];exact q⟩
  ·cases e
 ·unfold rD;rw[ax (dE k x e).1,e]
def aa.OY(w0:h_)(S:Nat->Prop):aa where
 G w:=tz w0 w/\w.tape=w0.tape/\w.output=w0.output/\w0.heap.size<=w.heap.size/\∀ k,k<w0.heap.size->¬S k->w.heap[k]?=w0.heap[k]?
 cS k:=k<w0.heap.size/\¬S k
 lt w k h hk:=cF hk.1 h.2.2.2.1
 dep w w' h h1 h2 h3 h4 h5:=⟨h1.trans h.1,h2.trans h.2.1,h3.trans h.2.2.1,di h.2.2.2.1 h4,λk hk hS=>(h5 k ⟨hk,hS⟩).trans (h.2.2.2.2 k hk hS)⟩
def jC(ι ay:Map)(ns:l_):Map:=λk=>if ns.contains k then ay k else ι k
def inN(ns:l_):Value->Bool
 |.slice (some ad) _ _=>mI ad&&ns.contains ad.block
 |.pointer (some ad)=>mI ad&&ns.contains ad.block
 |.func _ fi ca=>match fi.toList,ca.toList with|[],[.pointer (some ad)]=>mI ad&&ns.contains ad.block|_,_=>false
 |_=>false
def sQ(K:Nat)(ns:l_)(v:i_):Bool:=lM K v||inN ns v
theorem aBB{K:Nat}(dE:∀ k,k<K->∀ lc,ay k=some lc->ι k=some lc){v:i_}(au:sQ K ns v=true)(h:aK ay v v'):aK (jC ι ay ns) v v':=by
 unfold sQ at au;rw[tE]at au;rcases au with au|au
 ·refine h.low (λk hk l e=>?_) au;unfold jC;by_cases hc:ns.contains k=true
  ·rw[ax hc];exact e
  ·rw[ao hc];exact dE k hk l e
 ·have key:∀{k:Nat} {l:pY},ns.contains k=true->ay k=some l->jC ι ay ns k=some l:=λhk e=>by unfold jC;rw[ax hk];exact e
  unfold inN at au;split at au
  ·rename_i ad n c;rw[cZ]at au;obtain⟨bl,off,sp⟩:=ad;have uZ:=GX au.1;have cv:=au.2;dsimp only at uZ cv;subst uZ;rcases h.hZ rfl with ⟨q1,q2,q3,q4,q5⟩|⟨b,oo,cap,c',q1,q2,q3,q5⟩
   ·dsimp only at q1 q4;rw[q5,q2,q3,q4];exact .slcN (key cv q1)
   ·dsimp only at q1 q5;rw[q5];exact .slc (key cv q1) q2 q3
  ·rename_i ad;rw[cZ]at au;obtain⟨bl,off,sp⟩:=ad;have uZ:=GX au.1;have cv:=au.2;dsimp only at uZ cv;subst uZ;obtain⟨b,o,cap,q1,q2⟩:=h.wI rfl;dsimp only at q1 q2;rw[q2];exact .ptr (key cv q1)
  ·obtain⟨j0,gM,rfl,h1,h2⟩:=h.AH;split at au
   ·rename_i ad e1 e2;rw[cZ]at au;obtain⟨bl,off,sp⟩:=ad;have uZ:=GX au.1;have cv:=au.2;dsimp only at uZ cv;subst uZ;rw[e2]at h2;obtain⟨u,e3,h3⟩:=nB h2;obtain⟨b,o,cap,q1,q2⟩:=h3.wI rfl;dsimp only at q1 q2;refine .fn ?_ ?_
    ·rw[e1]at h1 ⊢;cases oM:j0.toList with
     |nil=>exact .nil
     |cons _ _=>rw[oM]at h1;cases h1
    ·rw[e2,e3,q2];exact .cons (.ptr (key cv q1)) .nil
   ·cases au
  ·cases au
theorem OZ{K:Nat}{ns:l_}{ι ay:Map}(dE:∀ k,k<K->∀ lc,ay k=some lc->ι k=some lc):∀{l l':ah},(∀ v∈l,sQ K ns v=true)->bW (aK ay) l l'->bW (aK (jC ι ay ns)) l l'
 |_,_,_,.nil=>.nil
 |_,_,au,.cons h1 h2=>.cons (aBB dE (au _ (aP ..)) h1) (OZ dE (λv hv=>au v (bH _ hv)) h2)
theorem aBC{K:Nat}(dE:∀ k,k<K->∀ lc,ay k=some lc->ι k=some lc){x:Obj}(au:∀ v∈x.cells,sQ K ns v=true){l:pY}(h:iM ay w l x):iM (jC ι ay ns) w l x:=by
 cases x with
 |aI cells ty=>obtain⟨b,cg,e1,e2,e3⟩:=h;exact⟨b,cg,e1,OZ dE au e2,e3⟩
 |row cells ty size=>
  rcases h with h|⟨b,cap,cur,e1,e2,e3,e4,e5⟩
  ·exact .inl h
  ·exact .inr ⟨b,cap,cur,e1,e2,e3,e4,OZ dE au e5⟩
 |view cells=>
  rcases h with h|⟨b,o,cap,cs,e1,e2,e3⟩
  ·exact .inl h
  ·exact .inr ⟨b,o,cap,cs,e1,OZ dE au e2,e3⟩
 |fact F=>exact h
 |dead=>trivial
theorem UO:∀{Os cx:aH},cx.map (·.1)=Os.map (·.1)++ns->∀ k,ai cx k=none↔(ai Os k=none/\ns.contains k=false):=by
 have look:∀(l:aH) (k:Nat),ai l k=none↔(l.map (·.1)).contains k=false:=by
  intro l k;induction l with
  |nil=>exact⟨λ_=>rfl,λ_=>rfl⟩
  |cons p l ih=>
   obtain⟨a,x⟩:=p;rw[show ai ((a,x)::l) k=if Nat.beq a k=true then some x else ai l k from rfl,sk,List.contains_cons];by_cases h:Nat.beq a k=true
   ·rw[ax h];have:=kt h;subst this;simp
   ·rw[ao h,ih];have:(k==a)=false:=by
     cases e:k==a with
     |false=>rfl
     |true=>have:=eq_of_beq e;subst this;exact absurd (EW k) h
    rw[this,xf]
 intro Os cx h k;rw[look,look,h,List.contains_append,MY]
section
variable{P:j_}{B:aa}{w w4:h_}{K:Nat}{S:Nat->Prop}{ι:Map}{c:g_}{ns:l_}
theorem aBD(h:aM B ι c w)(hO:da c Os)(eW:∀ k x,ai Os k=some x->x.owns=true)(u4:∀ k x,ai cx k=some x->x.owns=true\/x=.dead)
  (lk:∀ k,ai cx k=none↔(ai Os k=none/\ns.contains k=false)) (AP:∀ k,ns.contains k=true->c k=none) (hS:∀ b,S b->∃ k x o cap,ai Os k=some x/\ι k=some (.at b o cap))
  {ay:Map} {c':g_} (hm:aM (aa.OY w S) ay c' w4) (BD:da c' cx) (dE:∀ k,k<K->∀ lc,ay k=some lc->ι k=some lc) (au:∀ k x,ai cx k=some x->∀ v∈x.cells,sQ K ns v=true)
  (qY:∀ k x,ai Os k=some x->k<K):Map.le ι (jC ι ay ns)/\aM B (jC ι ay ns) (lI c cx) w4:=by
 have hle:Map.le ι (jC ι ay ns):=λk l e=>by
  unfold jC;by_cases hc:ns.contains k=true
  ·rw[h.dJ k (AP k hc)]at e;cases e
  ·rw[ao hc];exact e
 have bC:w.heap.size<=w4.heap.size:=hm.base.2.2.2.1;have aI:∀ b,b<w.heap.size->¬S b->w4.heap[b]?=w.heap[b]?:=hm.base.2.2.2.2;have hSF:∀ b,S b->¬B.cS b:=λb hb=>by obtain⟨k,x,o,cap,e1,e2⟩:=hS b hb;exact(h.own k x b o cap (hO k x e1) (eW k x e1) e2).2
 have c9:∀ k,ns.contains k=false->jC ι ay ns k=ι k:=λk e=>by unfold jC;rw[e];rfl
 have kinds:∀ k x,lI c cx k=some x->(ai cx k=some x/\c' k=some x/\(x.owns=true\/x=.dead))\/(ai Os k=none/\ns.contains k=false/\c k=some x):=λk x e=>by
  rw[wM]at e;cases ho:ai cx k with
  |some y=>rw[ho]at e;injection e with e;subst e;exact .inl ⟨rfl,BD k y ho,u4 k y ho⟩
  |none=>rw[ho]at e;exact .inr ⟨((lk k).1 ho).1,((lk k).1 ho).2,e⟩
 have same:∀ k x,ai cx k=some x->jC ι ay ns k=ay k:=λk x e=>by
  unfold jC;by_cases hc:ns.contains k=true
  ·rw[ax hc]
  ·rw[ao hc];obtain⟨lc,q,_⟩:=hm.born k x (BD k x e);have:ai Os k≠none:=λhn=>by have:=(lk k).2 ⟨hn,by simpa using hc⟩;rw[e]at this;cases this
   cases hk:ai Os k with
   |none=>exact absurd hk this
   |some y=>rw[q,dE k (qY k y hk) lc q]
 have aBE:∀ k x b o cap,ai Os k=none->c k=some x->x.owns=true->ι k=some (.at b o cap)->¬S b:=λk x b o cap hn hc hx hl hs=>by obtain⟨k',x',o',bE,e1,e2⟩:=hS b hs;have:=h.inj k k' x x' b o cap o' bE hc hx (hO k' x' e1) (eW k' x' e1) hl e2;subst this;rw[hn]at e1;cases e1
 have aBF:∀ k x b o cap,c k=some x->x.jN=true->ι k=some (.at b o cap)->¬S b:=λk x b o cap hc hx hl hs=>by obtain⟨k',x',o',bE,e1,e2⟩:=hS b hs;exact(h.seen k x b o cap hc hx hl).2 k' x' o' bE (hO k' x' e1) (eW k' x' e1) e2
 have UP:∀ k F v b,c k=some (.fact F)->ι k=some (.val v)->F.cS v w b->¬S b:=λk F v b hc hl hF hs=>by obtain⟨k',x',o',bE,e1,e2⟩:=hS b hs;exact h.apart k' k x' F b o' bE v (hO k' x' e1) (eW k' x' e1) e2 hc hl hF
 have part:∀ k x b o cap j y o' bE,ai cx k=some x->x.owns=true->jC ι ay ns k=some (.at b o cap)->ai Os j=none->c j=some y->y.owns=true->ι j=some (.at b o' bE)->False:=λk x b o cap j y o' bE hk hx hl hj hc hy dh=>by
  rcases fm b w.heap.size with ak|fR
  ·have q:=(hm.own k x b o cap (BD k x hk) hx (by rw[<-same k x hk];exact hl)).2;exact q ⟨ak,aBE j y b o' bE hj hc hy dh⟩
  ·have:=(h.own j y b o' bE hc hy dh).1;omega
 refine⟨hle,B.dep w w4 h.base hm.base.1 hm.base.2.1 hm.base.2.2.1 bC λk hk=>aI k (B.lt w k h.base hk) λhs=>hSF k hs hk,?_,?_,?_,?_,?_,?_,?_,?_,h.rV.trans hle⟩
 ·intro k hk;rw[wM]at hk;cases ho:ai cx k with
  |some y=>rw[ho]at hk;cases hk
  |none=>
   rw[ho]at hk;rw[c9 k ((lk k).1 ho).2];exact h.dJ k hk
 ·intro k x hk;rcases kinds k x hk with ⟨h1,h2,h3⟩|⟨h1,hc,h2⟩
  ·obtain⟨lc,q1,q2⟩:=hm.born k x h2;exact⟨lc,by rw[same k x h1];exact q1,aBC dE (au k x h1) q2⟩
  ·obtain⟨lc,q1,q2⟩:=h.born k x h2;refine⟨lc,by rw[c9 k hc];exact q1,(q2.mono hle).jO bC (λb o cap hx e=>?_) λF v b e1 e2 hF=>?_⟩
   ·subst e;rcases hx with hx|hx
    ·exact aI b (h.own k x b o cap h2 hx q1).1 (aBE k x b o cap h1 h2 hx q1)
    ·exact aI b (h.seen k x b o cap h2 hx q1).1 (aBF k x b o cap h2 hx q1)
   ·subst e1;subst e2;exact aI b (q2.Ey rfl hF) (UP k F v b h2 q1 hF)
 ·intro k x b o cap hk hx hl;rcases kinds k x hk with ⟨h1,h2,h3⟩|⟨h1,hc,h2⟩
  ·have dh:ay k=some (.at b o cap):=by rw[<-same k x h1];exact hl
   obtain⟨q1,q2⟩:=hm.own k x b o cap h2 hx dh;refine⟨q1,λhF=>?_⟩;have iB:=B.lt w b h.base hF;exact q2 ⟨iB,λhs=>hSF b hs hF⟩
  ·rw[c9 k hc]at hl;obtain⟨q1,q2⟩:=h.own k x b o cap h2 hx hl;exact⟨cF q1 bC,q2⟩
 ·intro k j x y b o cap o' bE hk hx hj hy hl dh;rcases kinds k x hk with ⟨h1,h2,h3⟩|⟨h1,hc,h2⟩
  ·rcases kinds j y hj with ⟨p1,p2,p3⟩|⟨p1,kA,p2⟩
   ·exact hm.inj k j x y b o cap o' bE h2 hx p2 hy (by rw[<-same k x h1];exact hl) (by rw[<-same j y p1];exact dh)
   ·rw[c9 j kA]at dh;exact(part k x b o cap j y o' bE h1 hx hl p1 p2 hy dh).elim
  ·rw[c9 k hc]at hl;rcases kinds j y hj with ⟨p1,p2,p3⟩|⟨p1,kA,p2⟩
   ·exact(part j y b o' bE k x o cap p1 hy dh h1 h2 hx hl).elim
   ·rw[c9 j kA]at dh;exact h.inj k j x y b o cap o' bE h2 hx p2 hy hl dh
 ·intro k j x F b o cap v hk hx hl hj hv hF;rcases kinds j _ hj with ⟨_,_,p3⟩|⟨p1,pO,p2⟩
  ·rcases p3 with p3|p3<;>cases p3
  rw[c9 j pO]at hv;have hF:=h.Ez p2 hv bC (λk2 gv jD=>aI k2 gv (UP j F v k2 p2 hv jD)) hF;rcases kinds k x hk with ⟨h1,h2,h3⟩|⟨h1,hc,h2⟩
  ·have dh:ay k=some (.at b o cap):=by rw[<-same k x h1];exact hl
   have hb:b<w.heap.size:=by obtain⟨lc,q1,q2⟩:=h.born j _ p2;rw[hv]at q1;injection q1 with q1;subst q1;exact q2.Ey rfl hF
   exact(hm.own k x b o cap h2 hx dh).2 ⟨hb,UP j F v b p2 hv hF⟩
  ·rw[c9 k hc]at hl;exact h.apart k j x F b o cap v h2 hx hl p2 hv hF
 ·intro k x b o cap hk hx hl;rcases kinds k x hk with ⟨h1,h2,h3⟩|⟨h1,hc,h2⟩
  ·rcases h3 with h3|h3
   ·cases x<;>simp[Obj.owns,Obj.jN]at h3 hx
   ·subst h3;cases hx
  ·rw[c9 k hc]at hl;obtain⟨q1,q2⟩:=h.seen k x b o cap h2 hx hl;refine⟨cF q1 bC,λj y o' bE hj hy dh=>?_⟩;rcases kinds j y hj with ⟨p1,p2,p3⟩|⟨p1,kA,p2⟩
   ·have lH:ay j=some (.at b o' bE):=by rw[<-same j y p1];exact dh
    exact(hm.own j y b o' bE p2 hy lH).2 ⟨q1,aBF k x b o cap h2 hx hl⟩
   ·rw[c9 j kA]at dh;exact q2 j y o' bE p2 hy dh
 ·intro j F hj;rcases kinds j _ hj with ⟨_,_,h3⟩|⟨h1,_,h2⟩
  ·rcases h3 with h3|h3<;>cases h3
  ·exact h.fa j F h2
 ·intro j k F F' hj hk;rcases kinds j _ hj with ⟨_,_,h3⟩|⟨_,_,h2⟩
  ·rcases h3 with h3|h3<;>cases h3
  rcases kinds k _ hk with ⟨_,_,h3⟩|⟨_,_,zy⟩
  ·rcases h3 with h3|h3<;>cases h3
  exact h.one j k F F' h2 zy
theorem aK2(hm:aM B ι c w)(hL:da c (Os++Vs))(dE:∀ k x,ai (Os++Vs) k=some x->k<K/\fe K x)(eW:∀ k x,ai Os k=some x->x.owns=true)(mK:∀ k x,ai Vs k=some x->x.soft=true):
  ∃ S:Nat->Prop,(∀ b,S b->∃ k x o cap,ai Os k=some x/\ι k=some (.at b o cap))/\aM (aa.OY w S) (xI ι K) (rD c K (Os++Vs)) w/\da (rD c K (Os++Vs)) (Os++Vs)/\eU (rD c K (Os++Vs)) K:=by
 refine⟨λb=>∃ k x o cap,ai Os k=some x/\ι k=some (.at b o cap),λb h=>h,aBA hm hL dE ⟨.refl _,rfl,rfl,bA _,λ_ _ _=>rfl⟩ (λk x b o cap e hx hl hF=>hF.2 ⟨k,x,o,cap,UN mK e hx,hl⟩) (λk F e hr=>?_) n_⟩;rw[OX eW mK e]at hr;cases hr
theorem aBG(hm:aM B ι c w){B':aa}{c':g_}(bF:aM B' ay c' w4)(hle:Map.le (xI ι K) ay)(ij:∀ k,k<K->rD c K L k=none->c' k=none)(hL:da c L):
  ∀ k,k<K->∀ lc,ay k=some lc->ι k=some lc:=λk hk lc e=>by
 cases uE:ι k with
 |some Ik=>
  have:=hle k Ik (by rw[Ii hk];exact uE);rw[e]at this;exact this.symm
 |none=>
  exfalso;have hc:c k=none:=by
   cases hc:c k with
   |none=>rfl
   |some y=>obtain⟨Ik,q,_⟩:=hm.born k y hc;rw[uE]at q;cases q
  have CD:ai L k=none:=by
   cases e1:ai L k with
   |none=>rfl
   |some y=>rw[hL k y e1]at hc;cases hc
  rw[bF.dJ k (ij k hk (by unfold rD;rw[ax hk,CD,hc];rfl))]at e;cases e
end
def O0:aN->aN->aN
 |[],fr=>fr
 |p::l,fr=>O0 l (p::fr)
theorem aBH{m:Map}{N:Nat}:∀(l:aN) {fr:aN} {T:p_},T.size=N->(∀ t,nW m (bI fr t) (T.getD t undef))->(∀ p∈l,p.1<N/\flat p.2=true)->
  (l.foldl (λt p=>t.setIfInBounds p.1 p.2) T).size=N/\∀ t,nW m (bI (O0 l fr) t) ((l.foldl (λt p=>t.setIfInBounds p.1 p.2) T).getD t undef)
 |[],fr,T,hT,h,_=>⟨hT,h⟩
 |(p,v)::l,fr,T,hT,h,hl=>by
  obtain⟨h1,h2⟩:=hl (p,v) (aP ..);dsimp only at h1 h2;refine aBH l (fr:=(p,v)::fr) (T:=T.setIfInBounds p v) (by simpa using hT) (λt=>?_) λq hq=>hl q (bH _ hq);by_cases e:p=t
  ·subst e;have e1:bI ((p,v)::fr) p=v:=by simp[bI]
   have e2:(T.setIfInBounds p v).getD p undef=v:=by rw[qg,Array.getElem?_setIfInBounds_self_of_lt o_];rfl
   rw[e1,e2];exact .inr (.same h2)
  ·have e1:bI ((p,v)::fr) t=bI fr t:=by show(if Nat.beq p t then _ else _)=_;rw[oO e];rfl
   have e2:(T.setIfInBounds p v).getD t undef=T.getD t undef:=by rw[qg,qg,Sc e]
   rw[e1,e2];exact h t
def UQ:Ex->Option Code
 |.normal=>none
 |.ret=>some .ret
 |.exit id=>some (.exit id)
def gJ(cB:FuncId)(T:p_)(ps:Array Tmp)(dW dz:Code)(D:Nat):Loop:={ state:=.ready,pending:=none,fn:=cB,tmps:=T,params:=ps,assign:=dW,body:=dz,defers:=D }
def u5(r:Loop)(j:Option Code):Loop:={ r with state:=if j.isNone then .ready else .done,pending:=j }
theorem UR(h:∀ p∈L.map (λp=>(p.1,some p.2)),c p.1=p.2):da c L:=λk x e=>h (k,some x) (dj.2 ⟨(k,x),jf e,rfl⟩)
structure BE(g N:Nat)(fr:aN)(m:Map)(T:p_):Prop where
 size:T.size=N
 jR:∀ t,nW m (bI fr t) (T.getD t undef)
 low:∀ k lc,m k=some lc->k<g
section
variable{W1 W W3:h_}{l g next:Nat}{S S':Nat->Prop}{m ι:Map}{c:g_}{r r2:Loop}
theorem aK3(h:aM (pN W1 l S m) ι c W)(hg:c g=some (.fact (fH l r)))(hgn:g<next)(hL:da c L)(FO:ai L g=none)(dE:∀ k x,ai L k=some x->k<next/\fe next x)
  (qa:∀ k F,ai L k=some (.fact F)->F.rc=false) (hS:∀ k x b o cap,ai L k=some x->x.owns=true->ι k=some (.at b o cap)->S' b) :
  aM (pN W l S' (xI ι next)) (xI ι next) (rD c next ((g,.fact (fH l r))::L)) W/\da (rD c next ((g,.fact (fH l r))::L)) ((g,.fact (fH l r))::L)/\eU (rD c next ((g,.fact (fH l r))::L)) next:=by
 have lH:∀ k x,ai ((g,.fact (fH l r))::L) k=some x->(k=g/\x=.fact (fH l r))\/ai L k=some x:=λk x e=>by
  rw[show ai ((g,Obj.fact (fH l r))::L) k=if Nat.beq g k=true then some (.fact (fH l r))else ai L k from rfl]at e;split at e
  ·rename_i hb;injection e with e;exact .inl ⟨(kt hb).symm,e.symm⟩
  ·exact .inr e
 refine aBA h (λk x e=>?_) (λk x e=>?_) ⟨.refl _,rfl,rfl,bA _,λ_ _ _ _=>rfl⟩ (λk x b o cap e hx hb hF=>?_) (λk F e=>?_) (Map.le.refl _)
 ·rcases lH k x e with ⟨rfl,rfl⟩|e
  ·exact hg
  ·exact hL k x e
 ·rcases lH k x e with ⟨rfl,rfl⟩|e
  ·exact⟨hgn,λv hv=>by cases hv⟩
  ·exact dE k x e
 ·rcases lH k x e with ⟨rfl,rfl⟩|e
  ·cases hx
  ·exact hF.2.1 (hS k x b o cap e hx hb)
 ·rcases lH k _ e with ⟨_,e2⟩|e2
  ·injection e2 with e2;exact λ_=>⟨r,e2⟩
  ·exact λhr=>by rw[qa k F e2]at hr;cases hr
theorem aK4{c':g_}(hm:aM (pN W l S' κ) ay c' W3)(hg:c' g=some (.fact (fH l r2)))(hr:W.heap[l]?=some (.loop r))(BD:da c' cx)(u4:∀ k x,ai cx k=some x->x.owns=true\/x=.dead):
  ∃ c2,aM (aa.OY W S') ay c2 (W3.putObj l (.loop r))/\da c2 cx:=by
 have O1:=FN hm hg;have sP:=UK O1;have ak:=(wY.1 O1).1;have ne:∀ b,b≠l->(W3.putObj l (.loop r)).heap[b]?=W3.heap[b]?:=λb hb=>UL hb;have O2:∀ k x F,ai cx k=some x->x≠.fact F:=λk x F e h=>by subst h;rcases u4 k _ e with h|h<;>cases h
 refine⟨λk=>match ai cx k with|some x=>some x|none=>(c' k).map λ_=>.dead,?_,λk x e=>by simp only[e]⟩;refine OV (L:=cx) hm BD (λ_ _ _=>rfl) (λk x lc e _ ho=>?_) ⟨hm.base.1,hm.base.2.1,hm.base.2.2.1,by rw[rC];exact hm.base.2.2.2.1,λk hk hS=>?_⟩ (λk x b o cap e hx hl hF=>?_) (by rw[rC];exact bA _) (λk e=>?_) (λk x e=>?_) (λk F e=>absurd rfl (O2 k _ F e)) (λk F v b e=>absurd rfl (O2 k _ F e)) n_
 ·exact OU sP ho (λF ef=>absurd ef (O2 k x F e)) (by rw[rC];exact bA _) (λb _ _ _ _=>(Nat.decEq b l).casesOn (λhb=>.inr (ne b hb)) λhb=>.inl hb) λF v b ef=>absurd ef (O2 k x F e)
 ·by_cases KO:k=l
  ·subst KO;rw[World.putObj_heap_same ak,hr]
  ·rw[ne k KO];exact hm.base.2.2.2.2 k hk hS KO
 ·have q:=(hm.own k x b o cap (BD k x e) hx hl).2;refine q ⟨hF.1,hF.2,λhb=>?_⟩;obtain⟨lc,q1,q2⟩:=hm.born k x (BD k x e);rw[hl]at q1;injection q1 with q1;subst q1;obtain⟨cs,ty,q3⟩:=aBx q2 hx;subst hb;exact sP _ _ _ q3
 ·split at e
  ·cases e
  ·cases hc:c' k with
   |none=>exact hm.dJ k hc
   |some y=>rw[hc]at e;cases e
 ·split at e
  ·rename_i y hy;injection e with e;subst e;exact .inl hy
  ·cases hc:c' k with
   |none=>rw[hc]at e;cases e
   |some y=>
    rw[hc]at e;injection e with e;obtain⟨lc,q,_⟩:=hm.born k y hc;exact .inr ⟨e.symm,lc,q⟩
theorem aK5(w:h_)(l:Nat)(a b:Go.Obj):(w.putObj l a).putObj l b=w.putObj l b:=by simp[World.putObj]
end
section
variable{P:j_}{W1:h_}{l g nb N D:Nat}{S:Nat->Prop}{m:Map}
structure FP(P:j_)(g nb N:Nat)(ps:Array Tmp)(dW dz:Code)(fr:aN)(Os Vs cx:aH)(ns:l_)(eT:ah)(j:Option Code):Prop where
 flat:∀ v∈eT,flat v=true
 len:eT.length=ps.size
 jR:∀ p∈ps,p<N
 FQ:g<nb
 low:∀ k x,ai (Os++Vs) k=some x->k<nb/\k≠g/\fe nb x
 ok':∀ k x,ai cx k=some x->∀ v∈x.cells,sQ nb ns v=true
 own:∀ k x,ai Os k=some x->x.owns=true
 US:∀ k x,ai cx k=some x->x.owns=true\/x=.dead
 view:∀ k x,ai Vs k=some x->x.soft=true
 keys:∀ k,ai cx k=none↔(ai Os k=none/\ns.contains k=false)
 new:∀ k,ns.contains k=true->nb<=k
 run:∃ rA rB:lK,(∀ B,af P B N dW (O0 (ps.toList.zip eT) fr) (Os++Vs) nb rA)/\rA.ex=.normal/\nb<=rA.next/\ai rA.M g=none/\
  (∀ B,af P B N dz rA.fr rA.M rA.next rB)/\(∀ k x,ai cx k=some x->ai rB.M k=some x)/\UQ rB.ex=j
theorem UT{ps:Array Tmp}{dz:Code}{j:Option Code}(au:FP P g nb N ps dW dz fr Os Vs cx ns eT j)
  {o:Oper} {x:m_} (ho:dC o.op=some x) {T:p_} {cB:FuncId} (pa:BE g N fr m T) :
  cA P (pN W1 l S m) o (.func (.yield l) #[] #[]::eT) ((g,some (.fact (fH l (gJ cB T ps dW dz D))))::(ns.map (λk=>(k,none))++(Os++Vs).map (λp=>(p.1,some p.2)))) (.bool j.isNone)
   ((g,.fact (fH l (u5 (gJ cB T ps dW dz D) j)))::cx):=by
 intro R ι c a w hv hm hn K Q hK;obtain⟨rA,rB,hA,UU,UW,O3,hB,UX,UY⟩:=au.run;have hg:c g=some (.fact (fH l (gJ cB T ps dW dz D))):=hn (g,_) (aP ..);have AP:∀ k,ns.contains k=true->c k=none:=λk hk=>hn (k,none) (bH _ (tY _ (dj.2 ⟨k,by simpa using hk,rfl⟩)));have hL:da c (Os++Vs):=UR λp hp=>hn p (bH _ (vS _ hp));have hO:da c Os:=λk x e=>hL k x (by rw[jQ,e]);have FO:ai (Os++Vs) g=none:=by
  cases e:ai (Os++Vs) g with
  |none=>rfl
  |some x=>exact absurd rfl (au.low _ _ e).2.1
 have hOg:ai Os g=none:=by
  rw[jQ]at FO;cases e:ai Os g with
  |none=>rfl
  |some x=>rw[e]at FO;cases FO
 have hng:ns.contains g=false:=by
  cases e:ns.contains g with
  |false=>rfl
  |true=>have:=au.new g e;have:=au.FQ;omega
 have aK6:ai cx g=none:=(au.keys g).2 ⟨hOg,hng⟩;have hr:=FN hm hg;obtain⟨S',hS'⟩:∃ S':Nat->Prop,∀ b,S' b↔∃ k x o cap,ai Os k=some x/\ι k=some (.at b o cap):=⟨_,λb=>Iff.rfl⟩;obtain⟨dst,op,ty,pos,after,guard⟩:=o;dsimp only at ho hv;unfold dC at ho;split at ho
 ·rename_i x' lh wP;injection ho with ho;subst ho;have yK:(Op.operands (.call ⟨.value x',lh,wP⟩)).toList=x'::lh.toList:=by simp[Op.operands,Call.operands]
  rw[yK]at hv;cases hv with
  |cons hx rX=>
  obtain⟨j0,gM,he,h1,h2⟩:=hx.AH;have ef:j0=#[]:=by
   cases kv:j0.toList with
   |nil=>exact Il.1 kv
   |cons _ _=>rw[kv]at h1;cases h1
  have ec:gM=#[]:=by
   cases kv:gM.toList with
   |nil=>exact Il.1 kv
   |cons _ _=>rw[kv]at h2;cases h2
  subst ef;subst ec;have aQ:lh.toList.map a.eval=eT:=nC rX au.flat;have e3:execOp a.eval ⟨dst,.call ⟨.value x',lh,wP⟩,ty,pos,after,guard⟩=Instr.yield l eT.toArray:=by
   have:execOp a.eval ⟨dst,.call ⟨.value x',lh,wP⟩,ty,pos,after,guard⟩=(do let d <-Deferred.ofValue (a.eval x') (lh.map a.eval);invoke d.target d.args):=rfl;rw[this,he,<-aQ];have:lh.map a.eval=(lh.toList.map a.eval).toArray:=by apply EF;simp
   rw[this];simp[Deferred.ofValue,invoke,go_sem]
  have hy:=run_yield (P:=P) (args:=eT.toArray) hr (by simpa[gJ]using au.len);have aK7:((gJ cB T ps dW dz D).params.zip eT.toArray).foldl (λtmps (t,a)=>tmps.setIfInBounds t a) (gJ cB T ps dW dz D).tmps=(ps.toList.zip eT).foldl (λt p=>t.setIfInBounds p.1 p.2) T:=by rw[<-aBI];simp[gJ]
  rw[aK7]at hy;obtain⟨f1,f2⟩:=aBH (ps.toList.zip eT) pa.size pa.jR λp hp=>by have:=List.of_mem_zip hp;exact⟨au.jR _ (by simpa using this.1),au.flat _ this.2⟩
  refine⟨λ_ _=>trivial,?_⟩;rw[MI _ _ _ n_,e3,hy,Oper.uponIn_round];refine⟨λe=>(by cases e),roundIn_of_wpIn trivial ?_⟩
  -- the aVV own memory
  obtain⟨UZ,KP,xD⟩:=aK3 (S':=S') (next:=nb) hm hg au.FQ hL FO (λk x e=>⟨(au.low k x e).1,(au.low k x e).2.2⟩) (λk F e=>OX au.own au.view e) (λk x b o cap e hx hb=>(hS' b).2 ⟨k,x,o,cap,UN au.view e hx,hb⟩);have KQ:=KP g (.fact (fH l (gJ cB T ps dW dz D))) (by show(if Nat.beq g g then _ else _)=_;rw[ax (EW g)]);have aBJ:∀ k,k≠g->ai ((g,Obj.fact (fH l (gJ cB T ps dW dz D)))::(Os++Vs)) k=ai (Os++Vs) k:=λk hk=>by show(if Nat.beq g k then _ else _)=_;rw[oO (mN hk)];rfl
  have aBK:da (rD c nb ((g,.fact (fH l (gJ cB T ps dW dz D)))::(Os++Vs))) (Os++Vs):=λk x e=>KP k x (by rw[aBJ k λh=>by subst h;rw[FO]at e;cases e];exact e);refine hA _ (some l) _ _ _ _ _ ⟨rfl,f1,λt=>(f2 t).mono λk lc e=>by rw[Ii (lO (pa.low k lc e) au.FQ)];exact hm.rV k lc e⟩ UZ aBK xD λbP gA a1 w1 ju ik c7 eE dS gY _=>?_;rw[UU];have tW:gA g=some (.fact (fH l (gJ cB T ps dW dz D))):=(gY g au.FQ FO).trans KQ;refine⟨_,run_beginRound (FN c7 tW) rfl,?_⟩;have dF:=aBy (r':={ gJ cB T ps dW dz D with state:=.busy }) c7 tW;refine hB _ (some l) _ _ _ _ _ ik dF (λk x e=>?_) (λk hk=>?_) λdG r5 a2 w2 kQ _ vA BF U0 U1 _=>?_
  ·unfold bh;by_cases Dr:k=g
   ·subst Dr;rw[O3]at e;cases e
   ·rw[ao Dr];exact eE k x e
  ·unfold bh;rw[ao (by have:=au.FQ;omega)];exact dS k hk
  ·have hg3:r5 g=some (.fact (fH l { gJ cB T ps dW dz D with state:=.busy })):=(U1 g (by have:=au.FQ;omega) O3).trans (by unfold bh;rw[ax rfl]);have u7:=run_endRound (P:=P) j (FN vA hg3);have O4:∀ k,k<nb->∀ lc,dG k=some lc->ι k=some lc:=aBG hm (L:=(g,.fact (fH l (gJ cB T ps dW dz D)))::(Os++Vs)) vA (ju.trans kQ) (λk hk e=>by
    have Dr:k≠g:=λh=>by subst h;rw[KQ]at e;cases e
    have q1:=(gY k hk (Ij aBK e)).trans e;rw[U1 k (cF hk UW) (Ij eE q1)];unfold bh;rw[ao Dr];exact q1) (λk x e=>by
    by_cases hk:k=g
    ·subst hk;simp[ai]at e;subst e;exact hg
    ·exact hL k x (by rw[<-aBJ k hk];exact e))
   obtain⟨c5,hm5,hO5⟩:=aK4 (g:=g) (cx:=cx) vA hg3 hr (λk x e=>BF k x (UX k x e)) au.US;obtain⟨hle,hm6⟩:=aBD (K:=nb) (ns:=ns) hm hO au.own au.US au.keys AP (λb hb=>(hS' b).1 hb) hm5 hO5 O4 au.ok' (λk x e=>(au.low k x (by rw[jQ,e])).1);have hg6:lI c cx g=some (.fact (fH l (gJ cB T ps dW dz D))):=by rw[wM,aK6];exact hg
   have hm7:=aBy (r':=u5 (gJ cB T ps dW dz D) j) hm6 hg6;rw[aK5]at hm7;have hm8:aM (pN W1 l S m) (jC ι dG ns) (lI c ((g,.fact (fH l (u5 (gJ cB T ps dW dz D) j)))::cx)) (w2.putObj l (.loop (u5 (gJ cB T ps dW dz D) j))):=by
    have e:lI c ((g,Obj.fact (fH l (u5 (gJ cB T ps dW dz D) j)))::cx)=bh (lI c cx) g (.fact (fH l (u5 (gJ cB T ps dW dz D) j))):=by
     funext k
     rw[wM];unfold bh;by_cases hk:k=g
     ·subst hk;rw[ax rfl];simp[ai]
     ·rw[ao hk,wM];have:ai ((g,Obj.fact (fH l (u5 (gJ cB T ps dW dz D) j)))::cx) k=ai cx k:=by show(if Nat.beq g k then _ else _)=_;rw[oO (mN hk)];rfl
      rw[this]
    rw[e];exact hm7
   have fin:=hK (jC ι dG ns) (.bool j.isNone) _ hle (.same rfl) hm8;subst UY;cases hx:rB.ex with
   |normal=>rw[hx]at u7 fin;exact⟨_,_,u7,fin⟩
   |ret=>rw[hx]at u7 fin;exact⟨_,_,u7,fin⟩
   |exit id=>rw[hx]at u7 fin;exact⟨_,_,u7,fin⟩
 ·cases ho
end
end Go.Proofs.YthjhinbiabcfiaaGreatDoor
