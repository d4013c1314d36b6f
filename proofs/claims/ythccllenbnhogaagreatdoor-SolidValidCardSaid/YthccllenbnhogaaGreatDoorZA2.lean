/- Valid records and points: the proof of SolidValidCardSaid (the law's function answers true at every record and vector; theorem solidValid_card, last part), part 2 of 7; no condition. -/
import Derived.Test.YthccllenbnhogaaGreatDoorZA1
namespace Go.Proofs.YthccllenbnhogaaGreatDoor
open Go Go.RowKit Tryz
abbrev q_:=List (Nat×Option Obj)
abbrev g_:=Nat->Option Obj
variable{i m k a q b j size e d off cc cap n2 k1 k2 D A m1 m2:Nat}{w w':h_}{ι κ av bJ:Map}{o:Oper}{c:g_}{f:FuncId}{B:ae}{x:m_}{fr:aM}{ty:TypeId}{M L Os Vs cy ms:aE}{y z:Int}{xs args cells' ew post:ah}{fn:Func}{v' va res:i_}{F:Fact}{P:j_}{σ:List (Option Nat)}{Q:Ending->World->Prop}{x1 x2:Obj}{ns:l_}{cur:p_}{ep:Code}
section
variable{P:j_}{B:ae}{N:Nat}
theorem iC.aIa{w0 w1:h_}{l:pw}{x:Obj}(h0:iC κ w0 l x)(h1:iC bJ w1 l x)(uh:Map.le κ bJ)(Cy:Map.le κ av):iC av w1 l x:=by
 cases x with
 |aI cells ty=>
  obtain⟨b,cs,e1,e2,_⟩:=h0;obtain⟨b',bY,Cz,Cm,Cn⟩:=h1;rw[Ek Cm (mY uh e2)]at Cn;rw[e1]at Cz;injection Cz with Cz _ _;subst Cz;exact⟨b,cs,e1,mY Cy e2,Cn⟩
 |row cells ty size=>
  rcases h0 with h0|⟨b,cap,cur,e1,e2,e3,e4,e5⟩
  ·exact .inl h0
  ·rcases h1 with h1|⟨b',bj,fP,Cz,Cm,Cn,e4',e5'⟩
   ·exact .inl h1
   ·refine .inr ⟨b',bj,fP,Cz,Cm,Cn,e4',?_⟩;rw[Ek e5' (mY uh e5)];exact mY Cy e5
 |view cells=>
  rcases h0 with h0|⟨b,o,cap,cs,e1,e2,e3⟩
  ·exact .inl h0
  ·rcases h1 with h1|⟨b',o',bj,bY,Cz,Cm,Cn⟩
   ·exact .inl h1
   ·refine .inr ⟨b',o',bj,bY,Cz,?_,Cn⟩;rw[Ek Cm (mY uh e2)];exact mY Cy e2
 |fact F=>exact h1
 |dead=>trivial
def kp(ι:Map)(next:Nat)(σ:List (Option Nat)):Map:=λk=>if k<next then ι k else match σ[k-next]? with
 |some (some m)=>ι m
 |some none=>some .nil
 |none=>none
def yL(c0:g_)(next:Nat)(X:List Obj):g_:=λk=>if k<next then c0 k else X[k-next]?
def marks:Nat->List Obj->aE
 |_,[]=>[]
 |k,x::l=>(k,x)::marks (k+1) l
def dj:List (Option Nat)->List Obj->aE
 |some m::σ,x::l=>(m,x)::dj σ l
 |none::σ,_::l=>dj σ l
 |_,_=>[]
def Obj.isNil:Obj->Bool
 |.row [] _ _=>true
 |.view []=>true
 |_=>false
def pN(next:Nat)(σ:List (Option Nat)):Value->Value
 |.slice (some ad) n c=>if Nat.ble next ad.block&&mr ad then(match σ[ad.block-next]? with
   |some (some m)=>.slice (some ⟨m,ad.off,some 7⟩) n c
   |some none=>.slice none 0 0
   |none=>.slice (some ad) n c)else .slice (some ad) n c
 |v=>v
def nQ(next:Nat)(σ:List (Option Nat)):Value->Bool
 |.slice (some ad) n c=>if Nat.ble next ad.block&&mr ad then(match σ[ad.block-next]? with
   |some (some _)=>true
   |some none=>Nat.beq ad.off 0&&(Nat.beq n 0&&Nat.beq c 0)
   |none=>false)else nk next (.slice (some ad) n c)
 |v=>nk next v
def oZ(next:Nat)(σ:List (Option Nat)):Obj->Obj
 |.aI cs ty=>.aI (cs.map (pN next σ)) ty
 |x=>x
def pO(next:Nat)(σ:List (Option Nat))(F:aE):aE:=F.map λp=>(p.1,oZ next σ p.2)
def wU(next:Nat)(σ:List (Option Nat)):Obj->Prop
 |.aI cs _=>∀ v∈cs,nQ next σ v=true
 |x=>fH next x
def fm(next:Nat)(σ:List (Option Nat))(fr:aM):aM:=fr.map λp=>(p.1,pN next σ p.2)
theorem Jt{next:Nat}(h:k<next):kp ι next σ k=ι k:=by unfold kp;rw[au h]
theorem R1{next:Nat}(h:σ[j]?=some (some m)):kp ι next σ (next+j)=ι m:=by unfold kp;rw[al o_,EB,h]
theorem Za{next:Nat}(h:σ[j]?=some none):kp ι next σ (next+j)=some .nil:=by unfold kp;rw[al o_,EB,h]
theorem R2{next:Nat}{v:i_}(ax:nQ next σ v=true)(h:aH ι (pN next σ v) v'):aH (kp ι next σ) v v':=by
 have low:∀ k,k<next->∀ l,ι k=some l->kp ι next σ k=some l:=λk hk l e=>by rw[Jt hk];exact e
 have jw:∀{v:i_},nk next v=true->aH ι v v'->aH (kp ι next σ) v v':=λhb h=>h.low low hb;cases v with
 |slice oa n c=>
  cases oa with
  |none=>exact jw ax h
  |some ad=>
   unfold nQ at ax;unfold pN at h;dsimp only at ax h;split at ax
   ·rename_i hc;rw[au hc]at h;simp only[cY]at hc;have fG:=pB hc.1;obtain⟨j,hj⟩:∃ j,ad.block=next+j:=⟨ad.block-next,by omega⟩;have wR:ad.block-next=j:=by omega
    rw[wR]at ax h;have eta:=B0 hc.2;cases GA:σ[j]? with
    |none=>rw[GA]at ax;cases ax
    |some o=>
     cases o with
     |none=>
      rw[GA]at ax h;simp only[cY]at ax;have h1:=jY ax.1;have h2:=jY ax.2.1;have h3:=jY ax.2.2;rw[h.fh rfl,eta,h1,h2,h3,hj];exact .slcN (Za GA)
     |some m=>
      rw[GA]at h;dsimp only at h;rw[eta,hj];rcases h.gR rfl with ⟨q1,q2,q3,q4,q5⟩|⟨b,o,cap,c',q1,q2,q3,q5⟩
      ·dsimp only at q1 q4;rw[q5,q2,q3,q4];exact .slcN (by rw[R1 GA];exact q1)
      ·dsimp only at q1 q5;rw[q5];exact .slc (by rw[R1 GA];exact q1) q2 q3
   ·rename_i hc;rw[al hc]at h;exact jw ax h
 |_=>exact jw ax h
theorem Zb{next:Nat}{v:i_}(h:nk next v=true):pN next σ v=v/\nQ next σ v=true:=by
 unfold pN nQ;split
 ·rename_i ad n c;split
  ·rename_i hb;rw[cY]at hb;have h:(lP ad||Nat.blt ad.block next)=true:=h;rw[LV hb.2,wQ,yu]at h;have:=pB hb.1;omega
  ·exact⟨rfl,h⟩
 ·exact⟨rfl,h⟩
theorem R3(next:Nat)(σ:List (Option Nat)):∀(F:aE) (k:Nat),ai (pO next σ F) k=(ai F k).map (oZ next σ)
 |[],_=>rfl
 |(j,x)::F,k=>by show(if Nat.beq j k then some (oZ next σ x)else ai (pO next σ F) k)=(if Nat.beq j k then some x else ai F k).map (oZ next σ);rw[R3 next σ F k];split<;>rfl
theorem GB{next:Nat}{σ:List (Option Nat)}:∀{F:aE},(∀ p∈F,fH next p.2)->pO next σ F=F/\∀ p∈F,wU next σ p.2
 |[],_=>⟨rfl,λp hp=>(by cases hp)⟩
 |(j,x)::F,h=>by
  obtain⟨h1,h2⟩:=GB (σ:=σ) (F:=F) λp hp=>h p (bw _ hp);have hx:fH next x:=h (j,x) (aL ..);have e:oZ next σ x=x/\wU next σ x:=by
   cases x with
   |aI cs ty=>
    refine⟨?_,λv hv=>(Zb (hx v hv)).2⟩;show Obj.aI (cs.map (pN next σ)) ty=_;have e:cs.map (pN next σ)=cs:=(wD (g:=id) λv hv=>(Zb (σ:=σ) (hx v hv)).1).trans (List.map_id cs);rw[e]
   |_=>exact⟨rfl,hx⟩
  refine⟨by show(j,oZ next σ x)::pO next σ F=_;rw[e.1,h1],λp hp=>?_⟩;rcases b9.1 hp with rfl|hp
  ·exact e.2
  ·exact h2 p hp
theorem R4(next:Nat)(σ:List (Option Nat))(x:Obj):(oZ next σ x).owns=x.owns/\(oZ next σ x).jv=x.jv/\(∀ F,x=.fact F->oZ next σ x=.fact F):=by cases x<;>exact⟨rfl,rfl,λF e=>(by first|exact e|cases e)⟩
theorem aIb{l:pw}{next:Nat}{x:Obj}(ax:wU next σ x)(du:∀ k,k<next->∀ l,ι k=some l->kp ι next σ k=some l)(h:iC ι w l (oZ next σ x)):iC (kp ι next σ) w l x:=by
 cases x with
 |aI cells ty=>
  obtain⟨b,bY,e1,e2,e3⟩:=h;refine⟨b,bY,e1,?_,e3⟩;have go:∀{l l':ah},(∀ v∈l,nQ next σ v=true)->bL (aH ι) (l.map (pN next σ)) l'->bL (aH (kp ι next σ)) l l':=λ{l}=>by
   induction l with
   |nil=>intro l' _ h;cases h;exact .nil
   |cons v l ih=>
    intro l' hk h;cases h with
    |cons h1 h2=>exact .cons (R2 (hk v (aL ..)) h1) (ih (λu hu=>hk u (bw _ hu)) h2)
  exact go ax e2
 |row cells ty size=>exact iC.below du h ax
 |view cells=>exact iC.below du h ax
 |fact F=>exact h
 |dead=>trivial
theorem R5:∀(X:List Obj) (next k:Nat),ai (marks next X) k=if k<next then none else X[k-next]?
 |[],next,k=>by unfold marks ai;split<;>simp
 |x::X,next,k=>by
  unfold marks ai;by_cases h:next=k
  ·subst h;have:Nat.beq next next=true:=Eh next;rw[au this,al (Nat.lt_irrefl _),vo];rfl
  ·rw[om h];simp only[ui,uj];rw[R5 X (next+1) k];by_cases h2:k<next
   ·rw[au o_,au h2]
   ·rw[al o_,al h2];obtain⟨d,rfl⟩:∃ d,k=next+1+d:=⟨k-next-1,by omega⟩;rw[EB,show next+1+d-next=d+1 by omega];rfl
theorem Zc:∀{σ:List (Option Nat)} {X:List Obj} {j m:Nat} {x:Obj},σ[j]?=some (some m)->X[j]?=some x->(m,x)∈dj σ X
 |o::σ,y::X,0,m,x,h1,h2=>by simp at h1 h2;subst h1;subst h2;exact aL ..
 |o::σ,y::X,j+1,m,x,h1,h2=>by
  have:=Zc (σ:=σ) (X:=X) (j:=j) (by simpa using h1) (by simpa using h2);cases o with
  |none=>exact this
  |some q=>exact bw _ this
 |[],_,j,m,x,h1,_=>by simp at h1
 |_::_,[],j,m,x,_,h2=>by simp at h2
structure GC(M:aE)(next:Nat)(σ:List (Option Nat))(fr:aM)(F:aE)(X:List Obj):Prop where
 len:X.length=σ.length
 nodup:∀ i j m:Nat,σ[i]?=some (some m)->σ[j]?=some (some m)->i=j
 low:∀ i m:Nat,σ[i]?=some (some m)->m<next->ai F m=none/\ai M m≠none
 nil:∀(i:Nat) (x:Obj),σ[i]?=some none->X[i]?=some x->x.isNil=true
 jZ:∀ p∈fr,nQ next σ p.2=true
 keys:∀ p∈F,p.1<next/\ai M p.1≠none
 aIc:∀ p∈F,wU next σ p.2
 news:∀ x∈X,fH next x
theorem rename{c0 c1:g_}{w0 w1:h_}{next:Nat}{F:aE}{X:List Obj}(ok:GC M next σ fr F X)
  (h0:aJ B κ c0 w0) (yM:eH c0 next) (nj:cX c0 M) (uh:Map.le κ bJ) (h1:aJ B bJ c1 w1) (hF:∀ k x,ai F k=some x->c1 k=some (oZ next σ x)) (hX:∀ p∈dj σ X,c1 p.1=some p.2) (hk:∀ k,k<next->ai M k=none->c1 k=c0 k) :
  ∃ c2,Map.le κ (kp bJ next σ)/\aJ B (kp bJ next σ) c2 w1/\cX c2 (F++marks next X)/\eH c2 (next+X.length)/\(∀ k,k<next->ai M k=none->c2 k=c0 k):=by
 have R6:∀ k l,κ k=some l->k<next:=λk l e=>by
  rcases eU k next with h|h
  ·exact h
  ·rw[h0.dw k (yM k h)]at e;cases e
 have hle:Map.le κ (kp bJ next σ):=λk l e=>by rw[Jt (R6 k l e)];exact uh k l e
 have low:∀ k,k<next->∀ l,bJ k=some l->kp bJ next σ k=some l:=λk hk l e=>by rw[Jt hk];exact e
 -- the objects
 let cl:g_:=λk=>match ai F k with
  |some x=>some x
  |none=>match ai M k with
   |none=>c1 k
   |some _=>some .dead
 have gS:∀ k x,cl k=some x->(x=.dead/\ai M k≠none)\/∃ y,c1 k=some y/\(ai F k=some x/\y=oZ next σ x\/(ai F k=none/\ai M k=none/\y=x)):=by
  intro k x hx;have hx:(match ai F k with|some x=>some x|none=>match ai M k with|none=>c1 k|some _=>some Obj.dead)=some x:=hx;cases hf:ai F k with
  |some y=>rw[hf]at hx;injection hx with hx;subst hx;exact .inr ⟨_,hF k y hf,.inl ⟨rfl,rfl⟩⟩
  |none=>
   rw[hf]at hx;dsimp only at hx;cases hm:ai M k with
   |none=>rw[hm]at hx;exact .inr ⟨_,hx,.inr ⟨rfl,rfl,rfl⟩⟩
   |some y=>rw[hm]at hx;injection hx with hx;exact .inl ⟨hx.symm,λe=>by cases e⟩
 have aId:∀(j:Nat) (x:Obj),X[j]?=some x->(σ[j]?=some none/\x.isNil=true)\/∃ m,σ[j]?=some (some m)/\c1 m=some x:=by
  intro j x hx;have hj:j<σ.length:=by rw[<-ok.len];exact(eB.1 hx).1
  cases hs:σ[j]? with
  |none=>rw[Zd]at hs;omega
  |some o=>
   cases o with
   |none=>exact .inl ⟨rfl,ok.nil j x hs hx⟩
   |some m=>exact .inr ⟨m,rfl,hX _ (Zc hs hx)⟩
 -- where a mark that is not dead comes from
 have src:∀ k x,yL cl next X k=some x->(x=.dead/\k<next/\ai M k≠none)\/(x.isNil=true/\kp bJ next σ k=some .nil/\¬k<next)\/
   ∃ m y,c1 m=some y/\y.owns=x.owns/\y.jv=x.jv/\(∀ F',x=.fact F'->y=.fact F')/\kp bJ next σ k=bJ m/\((k<next/\m=k/\(ai F k=some x/\y=oZ next σ x\/(ai F k=none/\ai M k=none/\y=x)))\/(¬k<next/\σ[k-next]?=some (some m)/\X[k-next]?=some x/\y=x)):=by
  intro k x hx;unfold yL at hx;split at hx
  ·rename_i ao;rcases gS k x hx with h|⟨y,h1,h2⟩
   ·exact .inl ⟨h.1,ao,h.2⟩
   ·refine .inr (.inr ⟨k,y,h1,?_,?_,?_,Jt ao,.inl ⟨ao,rfl,h2⟩⟩)<;>rcases h2 with ⟨_,rfl⟩|⟨_,_,rfl⟩
    ·exact(R4 next σ x).1
    ·rfl
    ·exact(R4 next σ x).2.1
    ·rfl
    ·exact(R4 next σ x).2.2
    ·exact λ_ e=>e
  ·rename_i fG;obtain⟨j,rfl⟩:∃ j,k=next+j:=⟨k-next,by omega⟩;rw[EB]at hx ⊢;rcases aId j x hx with ⟨h1,h2⟩|⟨m,h1,h2⟩
   ·exact .inr (.inl ⟨h2,Za h1,fG⟩)
   ·exact .inr (.inr ⟨m,x,h2,rfl,rfl,λ_ e=>e,R1 h1,.inr ⟨fG,h1,hx,rfl⟩⟩)
 -- an owner comes from an owner
 have own:∀ k x b o cap,yL cl next X k=some x->x.owns=true->kp bJ next σ k=some (.at b o cap)->∃ m y,c1 m=some y/\y.owns=true/\bJ m=some (.at b o cap)/\((k<next/\m=k/\(ai F k=some x/\y=oZ next σ x\/(ai F k=none/\ai M k=none/\y=x)))\/(¬k<next/\σ[k-next]?=some (some m)/\X[k-next]?=some x/\y=x)):=by
  intro k x b o cap hx ho hl;rcases src k x hx with ⟨rfl,_⟩|⟨_,h,_⟩|⟨m,y,h1,h2,_,_,h3,h4⟩
  ·cases ho
  ·rw[h]at hl;cases hl
  ·exact⟨m,y,h1,h2.trans ho,by rw[<-h3];exact hl,h4⟩
 have view:∀ k x b o cap,yL cl next X k=some x->x.jv=true->kp bJ next σ k=some (.at b o cap)->∃ m y,c1 m=some y/\y.jv=true/\bJ m=some (.at b o cap):=by
  intro k x b o cap hx ho hl;rcases src k x hx with ⟨rfl,_⟩|⟨_,h,_⟩|⟨m,y,h1,_,h2,_,h3,h4⟩
  ·cases ho
  ·rw[h]at hl;cases hl
  ·exact⟨m,y,h1,h2.trans ho,by rw[<-h3];exact hl⟩
 have M3:∀ k F' v,yL cl next X k=some (.fact F')->kp bJ next σ k=some (.val v)\/True->∃ m,c1 m=some (.fact F')/\kp bJ next σ k=bJ m/\∃ y x,x=.fact F'/\((k<next/\m=k/\(ai F k=some x/\y=oZ next σ x\/(ai F k=none/\ai M k=none/\y=x)))\/(¬k<next/\σ[k-next]?=some (some m)/\X[k-next]?=some x/\y=x)):=by
  intro k F' v hx _;rcases src k (.fact F') hx with ⟨e,_⟩|⟨hn,_⟩|⟨m,y,h1,_,_,h2,h3,h4⟩
  ·cases e
  ·cases hn
  ·rw[h2 F' rfl]at h1 h4;exact⟨m,h1,h3,_,_,rfl,h4⟩
 have one:∀{k j m x y u v},((k<next/\m=k/\(ai F k=some x/\u=oZ next σ x\/(ai F k=none/\ai M k=none/\u=x)))\/(¬k<next/\σ[k-next]?=some (some m)/\X[k-next]?=some x/\u=x))->((j<next/\m=j/\(ai F j=some y/\v=oZ next σ y\/(ai F j=none/\ai M j=none/\v=y)))\/(¬j<next/\σ[j-next]?=some (some m)/\X[j-next]?=some y/\v=y))->k=j:=λ{k j m x y u v} q q'=>by
  have Ze:∀{k j},k<next->m=k->((∃ z,ai F k=some z)\/ai M k=none)->¬j<next->σ[j-next]?=some (some m)->False:=λ{k j} ao e h fG hs=>by
   subst e;obtain⟨p1,p2⟩:=ok.low _ _ hs ao;rcases h with ⟨z,h⟩|h
   ·rw[p1]at h;cases h
   ·exact p2 h
  rcases q with ⟨h1,h2,h3⟩|⟨h1,h2,_⟩<;>rcases q' with ⟨g1,g2,g3⟩|⟨g1,g2,_⟩
  ·omega
  ·exact(Ze h1 h2 (h3.imp (λh=>⟨_,h.1⟩) λh=>h.2.1) g1 g2).elim
  ·exact(Ze g1 g2 (g3.imp (λh=>⟨_,h.1⟩) λh=>h.2.1) h1 h2).elim
  ·have:=ok.nodup _ _ _ h2 g2;omega
 refine⟨yL cl next X,hle,⟨h1.base,?_,?_,?_,?_,?_,?_,?_,?_,h0.rC.trans hle⟩,?_,?_,?_⟩
 ·intro k hk;unfold yL at hk;split at hk
  ·rename_i ao;rw[Jt ao];have hk:(match ai F k with|some x=>some x|none=>match ai M k with|none=>c1 k|some _=>some Obj.dead)=none:=hk;cases hf:ai F k with
   |some y=>rw[hf]at hk;cases hk
   |none=>
    rw[hf]at hk;dsimp only at hk;cases hm:ai M k with
    |none=>rw[hm]at hk;exact h1.dw k hk
    |some y=>rw[hm]at hk;cases hk
  ·rename_i fG;unfold kp;rw[al fG];have:σ[k-next]?=none:=by rw[Zd]at hk ⊢;rw[<-ok.len];exact hk
   rw[this]
 ·intro k x hx;rcases src k x hx with ⟨rfl,ao,hM⟩|⟨hn,h,_⟩|⟨m,y,q1,_,_,_,q2,q3⟩
  ·cases hm:ai M k with
   |none=>exact absurd hm hM
   |some y=>
    obtain⟨l,e1,_⟩:=h0.born k y (nj k y hm);exact⟨l,hle k l e1,trivial⟩
  ·refine⟨.nil,h,?_⟩;cases x with
   |row cells ty size=>cases cells with
    |nil=>exact .inl ⟨rfl,rfl⟩
    |cons _ _=>cases hn
   |view cells=>cases cells with
    |nil=>exact .inl ⟨rfl,rfl⟩
    |cons _ _=>cases hn
   |_=>cases hn
  ·obtain⟨l,e1,e2⟩:=h1.born m y q1;refine⟨l,by rw[q2];exact e1,?_⟩;rcases q3 with ⟨ao,rfl,⟨h,rfl⟩|⟨hf,hm,rfl⟩⟩|⟨fG,hs,th,rfl⟩
   ·exact aIb (ok.aIc _ (iQ h)) low e2
   ·have e:=hk m ao hm;rw[q1]at e;obtain⟨l',f1,f2⟩:=h0.born m y e.symm;have:=uh m l' f1;rw[e1]at this;injection this with this;subst this;exact f2.aIa e2 uh hle
   ·exact e2.below low (ok.news _ (cN th))
 ·intro k x b o cap hx ho hl;obtain⟨m,y,q1,qo,q2,_⟩:=own k x b o cap hx ho hl;exact h1.own m y b o cap q1 qo q2
 ·intro k j x y b o cap o' bj hx II hy IV hl cZ;obtain⟨m,u,q1,qo,q2,q3⟩:=own k x b o cap hx II hl;obtain⟨m',u',Ab,qo',q2',R7⟩:=own j y b o' bj hy IV cZ;have e:=h1.inj m m' u u' b o cap o' bj q1 qo Ab qo' q2 q2';subst e;exact one q3 R7
 ·intro k j x F' b o cap v hx II hl hj hv hf;obtain⟨m,u,q1,qo,q2,_⟩:=own k x b o cap hx II hl;obtain⟨m',p1,p2,_⟩:=M3 j F' v hj (.inr trivial);exact h1.apart m m' u F' b o cap v q1 qo q2 p1 (by rw[<-p2];exact hv) hf
 ·intro k x b o cap hx iG hl;obtain⟨m,u,q1,qv,q2⟩:=view k x b o cap hx iG hl;obtain⟨p1,p2⟩:=h1.seen m u b o cap q1 qv q2;refine⟨p1,λj y o' bj hy IV hj=>?_⟩;obtain⟨m',u',s1,so,s2,_⟩:=own j y b o' bj hy IV hj;exact p2 m' u' o' bj s1 so s2
 ·intro j F' hj;obtain⟨m',p1,_⟩:=M3 j F' undef hj (.inr trivial);exact h1.fa m' F' p1
 ·intro k j F' Zf hx hy hr DY;obtain⟨m,q1,_,_,_,_,q3⟩:=M3 k F' undef hx (.inr trivial);obtain⟨m',Ab,_,_,_,_,R7⟩:=M3 j Zf undef hy (.inr trivial);have e:=h1.one m m' F' Zf q1 Ab hr DY;subst e;exact one q3 R7
 ·intro k x hx;rw[jz]at hx;unfold yL;cases hf:ai F k with
  |some y=>
   rw[hf]at hx;injection hx with hx;subst hx;have ao:=(ok.keys _ (iQ hf)).1;dsimp only at ao;rw[au ao];show(match ai F k with|some x=>some x|none=>match ai M k with|none=>c1 k|some _=>some Obj.dead)=some y;rw[hf]
  |none=>
   rw[hf]at hx;dsimp only at hx;rw[R5]at hx;by_cases ao:k<next
   ·rw[au ao]at hx;cases hx
   ·rw[al ao]at hx ⊢;exact hx
 ·intro k gU;unfold yL;rw[al o_,Zd];omega
 ·intro k ao hm;unfold yL;rw[au ao];show(match ai F k with|some x=>some x|none=>match ai M k with|none=>c1 k|some _=>some Obj.dead)=c0 k;cases hf:ai F k with
  |some y=>exact absurd hm (ok.keys _ (iQ hf)).2
  |none=>rw[hm];exact hk k ao hm
theorem aIe{An:aM}{a:Act}{next:Nat}(hf:fD B ι (bC An) N a)(ax:∀ p∈fr,nQ next σ p.2=true)(h:∀ p∈fm next σ fr,bC An p.1=p.2)(AE:∀ p∈fr,mw (pN next σ p.2)=false):
  fD B (kp ι next σ) (bC fr) N a:=by
 refine⟨hf.defers,hf.size,λt=>?_⟩;have key:∀(l:aM),(∀ p∈l,p∈fr)->nJ (kp ι next σ) (bC l t) (a.tmps.getD t undef):=by
  intro l;induction l with
  |nil=>intro _;exact .inl rfl
  |cons p l ih=>
   intro hl;obtain⟨s,v⟩:=p;show nJ _ (if Nat.beq s t then v else bC l t) _;by_cases hs:Nat.beq s t=true
   ·rw[au hs];have hm:=hl _ (aL ..);have h1:=h (s,pN next σ v) (de.2 ⟨(s,v),hm,rfl⟩);dsimp only at h1;have e:=jY hs;subst e;have h2:=hf.slot s;rw[h1]at h2;exact .inr (R2 (ax _ hm) (h2.z8 (AE _ hm)))
   ·rw[al hs];exact ih λq hq=>hl q (bw _ hq)
 exact key fr λ_ h=>h
theorem R8:∀{σ:List (Option Nat)} {X:List Obj} {m:Nat} {x:Obj},(∀ i j m:Nat,σ[i]?=some (some m)->σ[j]?=some (some m)->i=j)->(m,x)∈dj σ X->ai (dj σ X) m=some x
 |[],_,m,x,_,h=>by simp[dj]at h
 |none::_,[],m,x,_,h=>by simp[dj]at h
 |some _::_,[],m,x,_,h=>by simp[dj]at h
 |none::σ,y::X,m,x,hn,h=>R8 (σ:=σ) (X:=X) (λi j m h1 h2=>by have:=hn (i+1) (j+1) m (by simpa using h1) (by simpa using h2);omega) h
 |some q::σ,y::X,m,x,hn,h=>by
  have oj:∀ i j m:Nat,σ[i]?=some (some m)->σ[j]?=some (some m)->i=j:=λi j m h1 h2=>by have:=hn (i+1) (j+1) m (by simpa using h1) (by simpa using h2);omega
  show(if Nat.beq q m then some y else ai (dj σ X) m)=some x;rcases b9.1 h with e|h'
  ·injection e with e1 e2;subst e1;subst e2;rw[au (Eh m)]
  ·have bd:q≠m:=by
    rintro rfl
    have idx:∀{σ:List (Option Nat)} {X:List Obj},(q,x)∈dj σ X->∃ j:Nat,σ[j]?=some (some q):=by
     intro σ;induction σ with
     |nil=>intro X h;simp[dj]at h
     |cons o σ ih=>
      intro X h;cases X with
      |nil=>cases o<;>simp[dj]at h
      |cons z X=>
       cases o with
       |none=>obtain⟨j,hj⟩:=ih (X:=X) h;exact⟨j+1,by simpa using hj⟩
       |some t=>
        rcases b9.1 h with e|h
        ·injection e with e1 _;exact⟨0,by simp[e1]⟩
        ·obtain⟨j,hj⟩:=ih (X:=X) h;exact⟨j+1,by simpa using hj⟩
    obtain⟨j,hj⟩:=idx h';have:=hn 0 (j+1) q s_ (by simpa using hj);omega
   rw[om bd];simp only[ui,uj];exact R8 oj h'
theorem R9:∀{σ:List (Option Nat)} {X:List Obj} {m:Nat} {x:Obj},(m,x)∈dj σ X->∃ j:Nat,σ[j]?=some (some m)
 |[],_,_,_,h=>by simp[dj]at h
 |none::_,[],_,_,h=>by simp[dj]at h
 |some _::_,[],_,_,h=>by simp[dj]at h
 |none::σ,_::X,_,_,h=>by obtain⟨j,hj⟩:=R9 (σ:=σ) (X:=X) h;exact⟨j+1,by simpa using hj⟩
 |some t::σ,_::X,m,x,h=>by
  rcases b9.1 h with e|h
  ·injection e with e1 _;exact⟨0,by simp[e1]⟩
  ·obtain⟨j,hj⟩:=R9 (σ:=σ) (X:=X) h;exact⟨j+1,by simpa using hj⟩
theorem GC.Zg{next:Nat}{F:aE}{X:List Obj}(ok:GC M next σ fr F X)(h:cX c (pO next σ F++dj σ X)):
  (∀ k x,ai F k=some x->c k=some (oZ next σ x))/\∀ p∈dj σ X,c p.1=some p.2:=by
 refine⟨λk x hx=>h k _ (by rw[jz,R3,hx];rfl),λp hp=>?_⟩;obtain⟨m,x⟩:=p;have hf:ai F m=none:=by
  obtain⟨j,hj⟩:=R9 hp;rcases eU m next with ao|fG
  ·exact(ok.low j m hj ao).1
  ·cases hF:ai F m with
   |none=>rfl
   |some y=>have:=(ok.keys _ (iQ hF)).1;dsimp only at this;omega
 exact h m x (by rw[jz,R3,hf];exact R8 ok.nodup hp)
theorem aIf{a:Act}{next:Nat}(hf:fD B ι (bC (fm next σ fr)) N a)(ax:∀ p∈fr,nQ next σ p.2=true)(AE:∀ p∈fr,mw (pN next σ p.2)=false):
  fD B (kp ι next σ) (bC fr) N a:=by
 refine⟨hf.defers,hf.size,λt=>?_⟩;have key:∀(l:aM),(∀ p∈l,p∈fr)->nJ ι (bC (fm next σ l) t) (a.tmps.getD t undef)->nJ (kp ι next σ) (bC l t) (a.tmps.getD t undef):=by
  intro l;induction l with
  |nil=>intro _ _;exact .inl rfl
  |cons p l ih=>
   intro hl h;obtain⟨s,v⟩:=p;have h:nJ ι (if Nat.beq s t then pN next σ v else bC (fm next σ l) t) (a.tmps.getD t undef):=h;show nJ _ (if Nat.beq s t then v else bC l t) _;by_cases hs:Nat.beq s t=true
   ·rw[au hs]at h ⊢;have hm:=hl _ (aL ..);exact .inr (R2 (ax _ hm) (h.z8 (AE _ hm)))
   ·rw[al hs]at h ⊢;exact ih (λq hq=>hl q (bw _ hq)) h
 exact key fr (λ_ h=>h) (hf.slot t)
theorem aIg{b:Code}{next p:Nat}{r:lv}(n:Nat)(I:Nat->aM)(F:Nat->aE)(X:Nat->List Obj)(hp:∀ i,i<=n->(X i).length=p)
  (start:∃ σ,GC M next σ (I 0) (F 0) (X 0)/\(∀ q∈I 0,mw (pN next σ q.2)=false)/\(∀ q∈fm next σ (I 0),bC fr q.1=q.2)/\(∀ k x,ai (pO next σ (F 0)++dj σ (X 0)) k=some x->ai M k=some x))
  (body:∀ i,i<n->∃ σ fY,GC M next σ (I (i+1)) (F (i+1)) (X (i+1))/\(∀ q∈I (i+1),mw (pN next σ q.2)=false)/\af P B N b (I i) (F i++marks next (X i)) (next+p) ⟨.normal,fm next σ (I (i+1)),pO next σ (F (i+1))++dj σ (X (i+1)),fY⟩)
  (last:af P B N b (I n) (F n++marks next (X n)) (next+p) r) (hr:r.ex≠.normal):af P B N (.loop b) fr M next r:=by
 intro R tg c0 a0 w0 Q Ao jX nj yM hQ;refine Rq (n+1) ?_;have key:∀ d i,i+d=n->∀(bJ:Map) (c1:g_) (a1:Act) (w1:h_),Map.le tg bJ->fD B bJ (bC (I i)) N a1->aJ B bJ c1 w1->cX c1 (F i++marks next (X i))->eH c1 (next+p)->
   (∀ k,k<next->ai M k=none->ai (F i) k=none)->(∀ k,k<next->ai M k=none->c1 k=c0 k)->
   (∀ t,tZ (.loop b) t=false->a1.tmps.getD t undef=a0.tmps.getD t undef)->Code.roundsIn (FW R) 0 P b Q (d+1) a1 w1:=by
  have tY:∀(i k:Nat),k<next->ai M k=none->ai (F i) k=none->ai (F i++marks next (X i)) k=none:=λi k hk _ hf=>by rw[jz,hf];dsimp only;rw[R5,au hk]
  intro d;induction d with
  |zero=>
   intro i hi bJ c1 a1 w1 jc gW cS dY dy Sa gN iE;have:i=n:=by omega
   subst this;rw[Ei];refine last R bJ c1 a1 w1 _ gW cS dY dy λdq c2 a2 w2 kC jm dx fX eF gi nP=>?_;have:=hQ dq c2 a2 w2 (jc.trans kC) jm dx fX eF (λk hk h0=>(gi k o_ (tY i k hk h0 (Sa k hk h0))).trans (gN k hk h0)) λt ht=>(nP t ht).trans (iE t ht);show Exit.then _ Q r.ex.Ai a2 w2;cases hx:r.ex with
   |normal=>exact absurd hx hr
   |exit id=>rw[hx]at this;exact this
   |ret=>rw[hx]at this;exact this
  |succ d ih=>
   intro i hi bJ c1 a1 w1 jc gW cS dY dy Sa gN iE;rw[Ei];obtain⟨σ,fY,ok,AE,hb⟩:=body i o_;refine hb R bJ c1 a1 w1 _ gW cS dY dy λdq c2 a2 w2 kC jm dx fX eF gi nP=>?_;obtain⟨q1,q2⟩:=ok.Zg fX;have gU:∀ k,k<next->ai M k=none->c2 k=c0 k:=λk hk h0=>(gi k o_ (tY i k hk h0 (Sa k hk h0))).trans (gN k hk h0);obtain⟨c3,e1,e2,e3,e4,e5⟩:=rename ok jX yM nj (jc.trans kC) dx q1 q2 gU;rw[hp (i+1) o_]at e4;refine ih (i+1) o_ _ c3 a2 w2 e1 (aIf jm ok.jZ AE) e2 e3 e4 (λk hk h0=>?_) e5 λt ht=>(nP t ht).trans (iE t ht);cases hF:ai (F (i+1)) k with
   |none=>rfl
   |some y=>exact absurd h0 (ok.keys _ (iQ hF)).2
 obtain⟨σ,ok,AE,mD,hM⟩:=start;obtain⟨q1,q2⟩:=ok.Zg (c:=c0) λk x hx=>nj k x (hM k x hx);obtain⟨c3,e1,e2,e3,e4,e5⟩:=rename ok jX yM nj (Map.le.refl _) jX q1 q2 (λ_ _ _=>rfl);rw[hp 0 o_]at e4;refine key n 0 o_ _ c3 a0 w0 e1 (aIe Ao ok.jZ mD AE) e2 e3 e4 (λk hk h0=>?_) e5 λ_ _=>rfl;cases hF:ai (F 0) k with
 |none=>rfl
 |some y=>exact absurd h0 (ok.keys _ (iQ hF)).2
end
def gw(n a:Nat):List UInt8:=(List.range n).map λi=>UInt8.ofNat (a/256^(n-1-i)%256)
theorem Ju(n a:Nat):(gw n a).length=n:=by simp[gw]
theorem wW(n a:Nat):gw (n+1) a=UInt8.ofNat (a/256^n%256)::gw n a:=by
 unfold gw;rw[List.range_succ_eq_map,qE,List.map_map]
 congr 1
 refine wD λi hi=>?_;have hi:=kk.1 hi;show UInt8.ofNat (a/256^(n+1-1-(i+1))%256)=_;rw[show n+1-1-(i+1)=n-1-i by omega]
theorem M4(a:Nat):gw 0 a=[]:=rfl
theorem Zh(n a m:Nat)(h:n<=m):gw n (a%256^m)=gw n a:=by
 unfold gw;refine wD λi hi=>?_;have hi:=kk.1 hi
 congr 1
 obtain⟨s,hs⟩:∃ s,m=(n-1-i)+1+s:=⟨m-(n-1-i)-1,by omega⟩;have e:256^m=256^(n-1-i)*(256*256^s):=by rw[hs,eh,dr,fK]
 rw[e,Ay,Jo]
theorem Zi(m n a:Nat):gw (m+n) a=gw m (a/256^n)++gw n a:=by
 induction m with
 |zero=>simp[M4]
 |succ m ih=>
  rw[show m+1+n=(m+n)+1 by omega,wW,wW,ih,GD,kE,<-eh,mF n m]
theorem aIh(n a:Nat):fQ (gw n a)=a%256^n:=by
 induction n with
 |zero=>simp[M4,fQ,s9]
 |succ n ih=>
  rw[wW,Jn,ih,Ju];have h1:(UInt8.ofNat (a/256^n%256)).toNat=a/256^n%256:=by rw[M5];exact dJ (cE _ d_)
  rw[h1,dr,MD,cK (256^n),mF]
def cD(a:Nat):List UInt8:=gw (nd 256 a) a
theorem EC(a:Nat):fQ (cD a)=a:=by unfold cD;rw[aIh,dJ (dQ d_ a)]
theorem CA:cD 0=[]:=by unfold cD;rw[qF];rfl
theorem ti(a:Nat):(cD a).length=nd 256 a:=Ju _ _
theorem aIi:cD a=[]↔a=0:=by
 constructor
 ·intro h;have:=EC a;rw[h]at this;exact this.symm
 ·rintro rfl;exact CA
theorem aIj(h:cD a=cD b):a=b:=by rw[<-EC a,h,EC]
theorem M6(h:a≠0):∃ c l,cD a=c::l/\c≠0:=by
 have hp:=wJ (B:=256) d_ h;obtain⟨n,hn⟩:∃ n,nd 256 a=n+1:=⟨nd 256 a-1,by omega⟩;have ao:=dQ (B:=256) d_ a;rw[hn]at ao;refine⟨_,_,by unfold cD;rw[hn,wW],λe=>?_⟩;have h1:(UInt8.ofNat (a/256^n%256)).toNat=a/256^n%256:=by rw[M5];exact dJ (cE _ d_)
 rw[e]at h1;have h2:a<256^n:=(Gn d_ ao).1 h1.symm;have:=jd (B:=256) d_ h2;omega
theorem aIk(k:Nat)(l:List UInt8):jC (List.replicate k 0++l)=k+jC l:=by
 induction k with
 |zero=>simp
 |succ k ih=>
  have e:jC (0::(List.replicate k 0++l))=jC (List.replicate k 0++l)+1:=rfl;rw[List.replicate_succ,GD,e,ih];omega
theorem Zj{n:Nat}(h:a<256^n):gw (k+n) a=List.replicate k 0++gw n a:=by
 rw[Zi,lV h]
 congr 1
 induction k with
 |zero=>rfl
 |succ k ih=>rw[wW,ih,List.replicate_succ,Nat.zero_div];rfl
theorem aIl{n:Nat}(h:a<256^n):Jq (gw n a)=cD a:=by
 have hle:=jd (B:=256) d_ h;obtain⟨k,hk⟩:∃ k,n=k+nd 256 a:=⟨n-nd 256 a,by omega⟩;have hz:jC (gw (nd 256 a) a)=0:=by
  by_cases h0:a=0
  ·subst h0;rw[qF];rfl
  ·obtain⟨c,l,e,hc⟩:=M6 h0;unfold cD at e;rw[e];unfold jC;rw[al hc]
 unfold Jq;rw[hk,Zj (dQ d_ a),aIk,hz,ja,List.drop_append_of_le_length s_];simp[cD]
theorem Zk{c:UInt8}{l:List UInt8}(h:c≠0):256^l.length<=fQ (c::l):=by
 rw[Jn];have:1<=c.toNat:=by
  rcases nq c.toNat with e|e
  ·exact absurd (MU.1 (by rw[e];rfl)) h
  ·exact e
 have:=eZ (256^l.length) this;omega
theorem aIm{l:List UInt8}(h:∀ c r,l=c::r->c≠0):cD (fQ l)=l:=by
 have hlen:nd 256 (fQ l)=l.length:=by
  refine Zl (jd d_ (Ax l)) ?_;cases l with
  |nil=>simp
  |cons c r=>
   have h1:=Zk (l:=r) (h c r rfl);rcases eU (nd 256 (fQ (c::r))) (r.length+1)with h2|h2
   ·have h3:=dQ (B:=256) d_ (fQ (c::r));have h4:256^nd 256 (fQ (c::r))<=256^r.length:=c7 d_ o_;omega
   ·exact h2
 unfold cD;rw[hlen];clear hlen h;induction l with
 |nil=>rfl
 |cons c r ih=>
  have hv:=Ax r;have hp:0<256^r.length:=cF d_;rw[nL,wW,Jn]
  congr 1
  ·rw[mF,oY _ _ hp,lV hv,jL];have hc:c.toNat<256:=c.toNat_lt;rw[dJ hc];simp
  ·rw[<-Zh _ _ _ (bh r.length),mF,CB,dJ hv,ih]
theorem aIn(d:Nat):gw 4 d=[UInt8.ofNat (d/16777216%256),UInt8.ofNat (d/65536%256),UInt8.ofNat (d/256%256),UInt8.ofNat (d%256)]:=by rw[wW,wW,wW,wW,M4];simp
section
variable{P:j_}{B:ae}{N:Nat}
def aQ.mkc(fn:Func)(key k cp e size bytes:Nat)(z:i_)(hb:bytes*cp<=281474976710656)(hn:cp<=maxLen)(ho:MA P (ay fn key)=some (e,size,bytes,z)):aQ P B N:=
 .step key (ay fn key) [vI 0,vI cp] [(k,none)] (.slice (some ⟨k,0,some 7⟩) 0 0) [(k,.row [] e size)] (by
  unfold MA at ho;split at ho
  ·rename_i t a b bM;split at ho
   ·rename_i e' ht;split at ho
    ·rename_i i hi;split at ho
     ·rename_i z' lQ;injection ho with ho;injection ho with h1 ho;injection ho with h2 ho;injection ho with h3 h4;subst h1;subst h4;have:=XG (P:=P) (B:=B) bM ht hi lQ (kl:=.i64) (kc:=.i64) (l:=0) (cp:=cp) (kB _) (by rw[h3];exact hb) hn (cells:=[]) (by rw[lB,Sb]) s_ n_ k;rw[h2]at this;exact this.step
     ·cases ho
    ·cases ho
   ·cases ho
  ·cases ho)
def aQ.pP(fn:Func)(key k j n m nm e size bytes:Nat)(cells:ah)(q:Nat)(x:Obj)(new:ah)(lA:n+m=nm)(hx:x.reads=true)(hlen:x.cells.length=m*size)(jb:cells.length=n*size)(iP:cells++x.cells=new)
  (h1:∀ v∈x.cells,v.oneCell'=true) (bE:0<size) (h63:nm<=maxLen) (hb:nm*bytes<=140737488355328) (ho:EA P (ay fn key)=some (e,size,bytes,size,true)):aQ P B N:=
 .step key (ay fn key) [.slice (some ⟨j,0,some 7⟩) n 0,.slice (some ⟨q,0,some 7⟩) m 0] [(k,none),(j,some (.row cells e size)),(q,some x)] (.slice (some ⟨k,0,some 7⟩) nm 0) [(k,.row new e size),(j,.dead)] (by
  subst lA;have hs:BW B (.slice (some ⟨q,0,some 7⟩) m 0) m x.cells [(q,some x)]:=by have:=L0 (B:=B) (k:=q) (off:=0) (m:=m) (cc:=0) hx (len:=m*size) (λh=>by rw[h,lB]);rw[lW,j0 (u4 hlen)]at this;exact this
  have:=Y7 (B:=B) ho bE hs hlen h1 (j:=j) (n:=n) (cells:=cells) (u4 jb.symm) h63 hb k;rw[j0 (u4 jb),iP]at this;exact this)
def gE(l:List UInt8):ah:=l.map λc=>.int .u8 (c.toNat:Int)
theorem aIo(l:List UInt8):∀ u∈gE l,flat u=true:=λu hu=>by obtain⟨x,_,rfl⟩:=de.1 hu;rfl
theorem Zm(l:List UInt8):∀ acc:List UInt8,(l.map λc=>(c.toNat:Int)).foldl (λ(r:ByteArray) (n:Int)=>r.push (UInt8.ofNat n.toNat)) (BA acc)=BA (acc++l):=by
 induction l with
 |nil=>intro acc;simp
 |cons c l ih=>
  intro acc;rw[qE,vi];have e:(BA acc).push (UInt8.ofNat ((c.toNat:Int)).toNat)=BA (acc++[c]):=by unfold BA;simp[ByteArray.push]
  rw[e,ih,B8];rfl
def M7(P:j_)(o:Oper):Bool:=match o.op with
 |.convert src dst _=>match P.underlying src,P.underlying dst with
  |some (.slice e),some .string=>(match P.underlying e with|some (.int .u8)=>true|_=>false)
  |_,_=>false
 |_=>false
def aQ.Sc(fn:Func)(key k n:Nat)(l:List UInt8)(x:Obj)(hx:x.reads=true)(hc:x.cells=gE l)(hn:l.length=n)(ho:M7 P (ay fn key)=true):aQ P B N:=
 .step key (ay fn key) [.slice (some ⟨k,0,some 7⟩) n 0] [(k,some x)] (.string (BA l)) [] (by
  unfold M7 at ho;split at ho
  ·rename_i src dst y bM;split at ho
   ·rename_i e hs hd;split at ho
    ·rename_i he;have:=XI (P:=P) (B:=B) bM hs he hd (k:=k) (off:=0) (n:=n) (cc:=0) (y:=x) (ns:=l.map λc=>(c.toNat:Int)) hx (by rw[hc,lW,j0 (by simp[gE,hn])];simp[gE,Function.comp_def]) (by simpa using hn)
     have e2:=Zm l [];rw[jy]at e2;rw[show ByteArray.empty=BA []from rfl,e2]at this;exact this.step
    ·cases ho
   ·cases ho
  ·cases ho)
end
section
variable{P:j_}{B:ae}{N:Nat}
theorem GF{x:Obj}(h:∀ u∈x.cells,flat u=true):fH m x:=λu hu=>iF (h u hu)
def GG:List (Option Nat)->Bool
 |[]=>true
 |none::l=>GG l
 |some m::l=>(l.all λo=>match o with|some k=>!Nat.beq m k|none=>true)&&GG l
theorem Zn:∀{σ:List (Option Nat)},GG σ=true->∀ i j m:Nat,σ[i]?=some (some m)->σ[j]?=some (some m)->i=j
 |[],_,i,j,m,h,_=>by simp at h
 |o::l,h,i,j,m,h1,h2=>by
  have hl:GG l=true/\∀ k,o=some k->∀ j:Nat,l[j]?≠some (some k):=by
   cases o with
   |none=>exact⟨h,λk e=>by cases e⟩
   |some q=>
    simp only[GG,cY,aY]at h;refine⟨h.2,λk e j hj=>?_⟩;injection e with e;subst e;have:=h.1 _ (cN hj);simp at this
  cases i with
  |zero=>
   cases j with
   |zero=>rfl
   |succ j=>
    simp at h1 h2;exact absurd h2 (hl.2 m h1 j)
  |succ i=>
   cases j with
   |zero=>
    simp at h1 h2;exact absurd h1 (hl.2 m h2 i)
   |succ j=>
    simp at h1 h2;rw[Zn hl.1 i j m h1 h2]
def Zo(M:aE)(F:aE)(next:Nat)(σ:List (Option Nat)):Bool:=σ.all λo=>match o with
 |some m=>Nat.ble next m||((match ai F m with|none=>true|some _=>false)&&(match ai M m with|none=>false|some _=>true))
 |none=>true
def GH:List (Option Nat)->List Obj->Bool
 |none::σ,x::X=>x.isNil&&GH σ X
 |some _::σ,_::X=>GH σ X
 |_,_=>true
theorem Zp:∀{σ:List (Option Nat)} {X:List Obj},GH σ X=true->∀(i:Nat) (x:Obj),σ[i]?=some none->X[i]?=some x->x.isNil=true
 |[],_,_,i,x,h,_=>by simp at h
 |_::_,[],_,i,x,_,h=>by simp at h
 |o::σ,y::X,h,i,x,h1,h2=>by
  cases i with
  |zero=>
   simp at h1 h2;subst h1;subst h2;simp only[GH,cY]at h;exact h.1
  |succ i=>
   simp at h1 h2;refine Zp (σ:=σ) (X:=X) ?_ i x h1 h2;cases o with
   |none=>simp only[GH,cY]at h;exact h.2
   |some _=>exact h
def vp(M:aE)(next:Nat)(σ:List (Option Nat))(fr:aM)(F:aE)(X:List Obj):Bool:=
 Nat.beq X.length σ.length&&(GG σ&&(Zo M F next σ&&(GH σ X&&((fr.all λp=>nQ next σ p.2&&!mw (pN next σ p.2))&&(F.all λp=>Nat.blt p.1 next&&(match ai M p.1 with|none=>false|some _=>true))))))
theorem Zq{next:Nat}{F:aE}{X:List Obj}(h:vp M next σ fr F X=true)(hF:∀ p∈F,wU next σ p.2)(hX:∀ x∈X,fH next x):
  GC M next σ fr F X/\∀ q∈fr,mw (pN next σ q.2)=false:=by
 simp only[vp,cY,aY,yr]at h;obtain⟨h1,h2,h3,h4,h5,h6⟩:=h;refine⟨⟨jY h1,Zn h2,λi m hi hm=>?_,Zp h4,λp hp=>(h5 p hp).1,λp hp=>?_,hF,hX⟩,λq hq=>(h5 q hq).2⟩
 ·unfold Zo at h3;rw[aY]at h3;have:=h3 _ (cN hi);simp only[rH,cY]at this;rcases this with this|⟨p1,p2⟩
  ·have:=pB this;omega
  ·constructor
   ·cases hf:ai F m with
    |none=>rfl
    |some y=>rw[hf]at p1;cases p1
   ·intro e;rw[e]at p2;cases p2
 ·obtain⟨q1,q2⟩:=h6 p hp;refine⟨Nat.lt_of_succ_le (by simpa[Nat.blt]using q1),λe=>?_⟩;rw[e]at q2;cases q2
theorem Sd{b:Code}{next p:Nat}{r:lv}(n:Nat)(I:Nat->aM)(F:Nat->aE)(X:Nat->List Obj)(lF:List (Option Nat))(hp:∀ i,i<=n->(X i).length=p)
  (hF:∀ q∈F 0,wU next lF q.2) (hX:∀ i,i<=n->∀ x∈X i,fH next x) (h0:vp (pO next lF (F 0)++dj lF (X 0)) next lF (I 0) (F 0) (X 0)=true)
  (hs:((fm next lF (I 0)).map λq=>bC (fm next lF (I 0)) q.1)=(fm next lF (I 0)).map λq=>q.2)
  (body:∀ i,i<n->∃ σ fY,vp (pO next lF (F 0)++dj lF (X 0)) next σ (I (i+1)) (F (i+1)) (X (i+1))=true/\(∀ q∈F (i+1),wU next σ q.2)/\af P B N b (I i) (F i++marks next (X i)) (next+p) ⟨.normal,fm next σ (I (i+1)),pO next σ (F (i+1))++dj σ (X (i+1)),fY⟩)
  (last:af P B N b (I n) (F n++marks next (X n)) (next+p) r) (hr:r.ex≠.normal):af P B N (.loop b) (fm next lF (I 0)) (pO next lF (F 0)++dj lF (X 0)) next r:=by
 refine aIg n I F X hp ?_ ?_ last hr
 ·obtain⟨q1,q2⟩:=Zq h0 hF (hX 0 (kB _));exact⟨lF,q1,q2,My hs,λ_ _ h=>h⟩
 ·intro i hi;obtain⟨σ,fY,e1,e0,e2⟩:=body i hi;obtain⟨q1,q2⟩:=Zq e1 e0 (hX (i+1) o_);exact⟨σ,fY,q1,q2,e2⟩
theorem rT{b:Code}{next p:Nat}{r:lv}(n:Nat)(I:Nat->aM)(F:Nat->aE)(X:Nat->List Obj)(lF:List (Option Nat))(hp:∀ i,i<=n->(X i).length=p)
  (AF:∀ i,i<=n->(∀ q∈F i,fH next q.2)/\∀ x∈X i,fH next x) (h0:vp (F 0++dj lF (X 0)) next lF (I 0) (F 0) (X 0)=true)
  (hs:((fm next lF (I 0)).map λq=>bC (fm next lF (I 0)) q.1)=(fm next lF (I 0)).map λq=>q.2)
  (body:∀ i,i<n->∃ σ fY,vp (F 0++dj lF (X 0)) next σ (I (i+1)) (F (i+1)) (X (i+1))=true/\af P B N b (I i) (F i++marks next (X i)) (next+p) ⟨.normal,fm next σ (I (i+1)),F (i+1)++dj σ (X (i+1)),fY⟩)
  (last:af P B N b (I n) (F n++marks next (X n)) (next+p) r) (hr:r.ex≠.normal):af P B N (.loop b) (fm next lF (I 0)) (F 0++dj lF (X 0)) next r:=by
 have e0:=(GB (σ:=lF) (AF 0 (kB _)).1).1;rw[<-e0]at h0 body ⊢;refine Sd n I F X lF hp (GB (AF 0 (kB _)).1).2 (λi hi=>(AF i hi).2) (by rw[e0]at h0 ⊢;exact h0) hs (λi hi=>?_) last hr;obtain⟨σ,fY,e1,e2⟩:=body i hi;exact⟨σ,fY,by rw[e0]at e1 ⊢;exact e1,(GB (AF (i+1) o_).1).2,by rw[(GB (σ:=σ) (AF (i+1) o_).1).1];exact e2⟩
end
def vb(m:Nat):Value:=.int .u8 (m:Int)
theorem aIp(d:Nat):gE (gw 4 d)=[vb (d/16777216%256),vb (d/65536%256),vb (d/256%256),vb (d%256)]:=by
 have e:∀ m,Value.int .u8 ((UInt8.ofNat (m%256)).toNat:Int)=vb (m%256):=λm=>by rw[M5,dJ (cE _ d_)];rfl
 rw[aIn];simp only[gE,qE,M8,e]
theorem M9(l m:List UInt8):gE (l++m)=gE l++gE m:=by simp[gE]
theorem ED(l:List UInt8):(gE l).length=l.length:=by simp[gE]
section
variable{Bs:ae}{n a:Nat}
def GI(n j m:Nat):aM:=[(4,da j),(0,sl 0 n),(3,sl 2 (4*m))]
def EE(n a:Nat):aE:=[(0,.view (aj (aa base n a)))]
def EF(a j m:Nat):List Obj:=[.row (gE (gw (4*m) (a/base^j))) 5 1]
theorem aIq(hn:n=m+1+j)(h63:n<35184372088832):
  af prog Bs 45 (aF (ag f204 0)) (GI n (j+1) m) (EE n a++marks 2 (EF a (j+1) m)) 3 ⟨.normal,fm 2 [some 4] (GI n j (m+1)),EE n a++dj [some 4] (EF a j (m+1)),5⟩:=by
 have hj:j<n:=by omega
 obtain⟨d,hd⟩:∃ d,d=a/base^j%base:=⟨_,rfl⟩;have mH:d<base:=by rw[hd];exact gO d_ a j
 have iS:(aj (aa base n a))[j]?=some (aR d):=by rw[hd];exact kG (ee hj)
 have sh:∀ k:Nat,(d:Int).fdiv ((2:Int)^k)=((d/2^k:Nat):Int):=λk=>by rw[rO _ (GJ d_),te,GK];rfl
 have w8:∀ m:Nat,IntKind.u8.wrap ((m:Nat):Int)=((m%256:Nat):Int):=λm=>by rw[Zr];omega
 have iP:gE (gw (4*m) (a/base^(j+1)))++[vb (d/2^24%256),vb (d/2^16%256),vb (d/2^8%256),vb (d%256)]=gE (gw (4*(m+1)) (a/base^j)):=by
  have e1:a/base^j/256^4=a/base^(j+1):=by rw[show(256:Nat)^4=base by decide,kE,<-dr]
  rw[show 4*(m+1)=4*m+4 by omega,Zi,e1,M9,<-Zh 4 (a/base^j) 4 (bh _),show a/base^j%256^4=d from hd.symm,aIp]
 exact az [.rw 12 (da (j+1)) (vI j) (dV j),.ge 13 j 0 true s_,.rw 18 (da (j+1)) (vI j) (dV j),.ix f204 19 0 n j hj k_,.ld f204 20 172 0 j (.view (aj (aa base n a))) (aR d) rfl (by rw[fN];exact iS) k_,.quo 21 .u32 ((d:Int).fdiv ((2:Int)^24)) ((d/2^24:Nat):Int) (sh 24),.wr 22 .u8 ((d/2^24:Nat):Int) ((d/2^24%256:Nat):Int) (w8 _),.rw 24 (da (j+1)) (vI j) (dV j),.ix f204 25 0 n j hj k_,.ld f204 26 172 0 j (.view (aj (aa base n a))) (aR d) rfl (by rw[fN];exact iS) k_,.quo 27 .u32 ((d:Int).fdiv ((2:Int)^16)) ((d/2^16:Nat):Int) (sh 16),.wr 28 .u8 ((d/2^16:Nat):Int) ((d/2^16%256:Nat):Int) (w8 _),.rw 30 (da (j+1)) (vI j) (dV j),.ix f204 31 0 n j hj k_,.ld f204 32 172 0 j (.view (aj (aa base n a))) (aR d) rfl (by rw[fN];exact iS) k_,.quo 33 .u32 ((d:Int).fdiv ((2:Int)^8)) ((d/2^8:Nat):Int) (sh 8),.wr 34 .u8 ((d/2^8:Nat):Int) ((d/2^8%256:Nat):Int) (w8 _),.rw 36 (da (j+1)) (vI j) (dV j),.ix f204 37 0 n j hj k_,.ld f204 38 172 0 j (.view (aj (aa base n a))) (aR d) rfl (by rw[fN];exact iS) k_,.wr 39 .u8 (d:Int) ((d%256:Nat):Int) (w8 _),.bs f204 40 3 4 5 1 [0,1,2,3] (vb 0) [vb (d/2^24%256),vb (d/2^16%256),vb (d/2^8%256),vb (d%256)] #[vb (d/2^24%256),vb (d/2^16%256),vb (d/2^8%256),vb (d%256)]
   (.row [vb (d/2^24%256),vb (d/2^16%256),vb (d/2^8%256),vb (d%256)] 5 1) rfl (λv hv=>by simp at hv;rcases hv with rfl|rfl|rfl|rfl<;>rfl) (λv hv=>by simp at hv;rcases hv with rfl|rfl|rfl|rfl<;>rfl) k_ rfl o_ o_ k_,
  .pP f204 41 4 2 (4*m) 4 (4*(m+1)) 5 1 1 (gE (gw (4*m) (a/base^(j+1)))) 3 (.row [vb (d/2^24%256),vb (d/2^16%256),vb (d/2^8%256),vb (d%256)] 5 1) (gE (gw (4*(m+1)) (a/base^j)))
   o_ rfl rfl (by rw[ED,Ju];omega) iP (λv hv=>by simp[Obj.cells]at hv;rcases hv with rfl|rfl|rfl|rfl<;>rfl) o_ (by simp[maxLen];omega) o_ k_,
  .rw 14 (da (j+1)) (vI j) (dV j),.wr 15 .i64 ((j:Int)-1) ((j:Int)-1) (oB o_)]
theorem aIr(h63:n<35184372088832):
  af prog Bs 45 (.block 0 (ag f204 0)) (fm 2 [some 1] (GI n n 0)) (EE n a++dj [some 1] (EF a n 0)) 2 ⟨.normal,GI n 0 n,EE n a++marks 2 (EF a 0 n),3⟩:=by
 have:=rT (P:=prog) (B:=Bs) (N:=45) (b:=aF (ag f204 0)) (next:=2) (p:=1) (r:=⟨.exit 0,GI n 0 n,EE n a++marks 2 (EF a 0 n),3⟩) n (λi=>GI n (n-i) i) (λ_=>EE n a) (λi=>EF a (n-i) i) [some 1] (λ_ _=>rfl)
  (λi _=>⟨λq hq=>by simp[EE]at hq;subst hq;exact GF (fq _),λx hx=>by simp[EF]at hx;subst hx;exact GF (aIo _)⟩) k_ k_
  (λi hi=>⟨[some 4],5,k_,by
   obtain⟨j,hj⟩:∃ j,n=i+1+j:=⟨n-(i+1),by omega⟩;have e1:n-i=j+1:=by omega
   have e2:n-(i+1)=j:=by omega
   simp only[e1,e2];exact aIq hj h63⟩)
  (by simp only[vo];exact az [.rw 13 (.bool (decide (((0:Nat):Int)-1>=0))) a_ rfl]) n_
 simp only[Gl]at this;exact bO (id:=0) this
end
theorem Zs(fZ:iw w va a)(h1:nd base a<35184372088832):
  Calls prog 204 #[va] w λe w'=>e=.returned (.string (BA (cD a)))/\Below w.heap.size w w':=by
 have ao:=dQ (B:=base) d_ a;have hl:∀ s∈[cA.row va (nd base a) (aj (aa base (nd base a) a))],s.OK w:=by intro s hs;simp at hs;subst hs;exact⟨fZ,fq _⟩
 unfold iw at fZ;generalize nd base a=n at *;have ht:Jq (gw (4*n) (a/base^0))=cD a:=by rw[rP,Ey];refine aIl ?_;rw[rQ];exact ao
 have tl:=aHX (gw (4*n) (a/base^0));rw[ht]at tl
 refine lC (Q:=λe w'=>e=.returned (.string (BA (cD a)))/\Below w.heap.size w w') mixed func204 [cA.row va n (aj (aa base n a))] hl 100 (N:=45) k_
  (rs:=[(aQ.wr 7 .i64 (4*(n:Int)) ((4*n:Nat):Int) (by rw[dU];omega):aQ prog (ae.at w) 45),.mkc f204 8 1 (4*n) 5 1 1 (vb 0) o_ (by simp[maxLen];omega) k_,.wr 11 .i64 ((n:Int)-1) ((n:Int)-1) (oB o_),.code 0 _ _ _ _ _ (aIr (n:=n) (a:=a) h1),.Sc f204 43 2 (4*n) (gw (4*n) (a/base^0)) (.row (gE (gw (4*n) (a/base^0))) 5 1) rfl rfl (Ju _ _) k_,tl.at 44])
  (v:=.string (BA (cD a))) (ms:=[]) k_ λav bX v' w' hc bo _ _=>⟨by rw[hc.fh rfl],bo.base⟩
section
variable{P:j_}{B:ae}{N:Nat}
def cA.apart(g:Nat):cA->Prop
 |.plain _=>True
 |.row v n _=>∀ b o c',v=.slice (some ⟨b,o,none⟩) n c'->b≠g
theorem Se{w:h_}{g:Nat}:∀(l:List cA) (k:Nat) (ι:Map) (c:g_),aJ B ι c w->(∀ j x b o cap,c j=some x->x.owns=true->ι j=some (.at b o cap)->b=g)->eH c k->(∀ s∈l,cA.OK w s)->(∀ s∈l,cA.apart g s)->
  ∃ av c',Map.le ι av/\aJ B av c' w/\eH c' (s7 k l)/\cX c' (uf k l)/\(∀ j,j<k->c' j=c j)/\bL (aH av) (rM k l) (l.map cA.real)/\k<=s7 k l
 |[],k,ι,c,hm,ho,hu,_,_=>⟨ι,c,Map.le.refl _,hm,hu,λk x h=>(by cases h),λ_ _=>rfl,.nil,bh _⟩
 |.plain v::l,k,ι,c,hm,ho,hu,hl,bd=>by obtain⟨av,c',h1,h2,h3,h4,h5,h6,h7⟩:=Se l k ι c hm ho hu (λs hs=>hl s (bw _ hs)) (λs hs=>bd s (bw _ hs));have hv:flat v=true:=hl _ (aL ..);exact⟨av,c',h1,h2,h3,h4,h5,.cons (.same hv) h6,h7⟩
 |.row v n xs::l,k,ι,c,hm,ho,hu,hl,bd=>by
  obtain⟨hv,cG⟩:c8 w v n xs/\∀ u∈xs,flat u=true:=hl _ (aL ..);have hap:∀ b o c',v=.slice (some ⟨b,o,none⟩) n c'->b≠g:=bd _ (aL ..);obtain⟨bJ,q1,q2,q3⟩:=yx hm (k:=k) (hu k (bh _)) hv cG (λb o c' hb j y o' bj hj hy he=>hap b o c' hb (ho j y b o' bj hj hy he));have wX:∀ j x b o cap,aV c k (.view xs) j=some x->x.owns=true->bJ j=some (.at b o cap)->b=g:=by
   intro j x b o cap hj hx hb;unfold aV at hj;by_cases bT:j=k
   ·rw[au bT]at hj;injection hj with hj;subst hj;cases hx
   ·rw[al bT]at hj;obtain⟨lo,e1,_⟩:=hm.born j x hj;have:=q1 j lo e1;rw[hb]at this;injection this with this;subst this;exact ho j x b o cap hj hx e1
  have dy:eH (aV c k (.view xs)) (k+1):=λj hj=>by unfold aV;rw[al o_];exact hu j o_
  obtain⟨av,c',h1,h2,h3,h4,h5,h6,h7⟩:=Se l (k+1) bJ _ q2 wX dy (λs hs=>hl s (bw _ hs)) (λs hs=>bd s (bw _ hs));refine⟨av,c',q1.trans h1,h2,h3,λj x hj=>?_,λj hj=>?_,.cons (q3.mono h1) h6,by show k<=s7 (k+1) l;omega⟩
  ·unfold uf ai at hj;split at hj
   ·rename_i hb;injection hj with hj;subst hj;rw[<-jY hb,h5 k o_];unfold aV;rw[au rfl]
   ·exact h4 j x hj
  ·rw[h5 j o_];unfold aV;rw[al o_]
theorem aIs{g:Nat}{cells:ah}{c':Nat}{v:i_}(iq:P.follows .mixedOrders=true)(hf:P.funcs[f]?=some fn)
  (hg:w.heap[g]?=some (.cells cur ty (0,0))) (jx:cap<=maxLen) (bE:cur.size=cap*size) (hc:cur.toList.take cells.length=cells) (cG:∀ v∈cells,flat v=true) (Av:∀ v∈cells',flat v=true) (hn:m<=c') (mA:cc+c'=cap)
  (l:List cA) (hl:∀ s∈l,cA.OK w s) (bd:∀ s∈l,cA.apart g s) (n:Nat) {N:Nat} (hN:N=((.slice (some ⟨0,off,some 7⟩) m cc:i_)::rM 1 l).length+(fn.ntmps-((.slice (some ⟨0,off,some 7⟩) m cc:i_)::rM 1 l).length))
  {rs:bH P (ae.vl w g) N}
  (h:ou (gD (P:=P) fn n (.slice (some ⟨0,off,some 7⟩) m cc::rM 1 l) ((0,.row cells ty size)::uf 1 l) (s7 1 l) rs) ((0,.row cells' ty size)::ms)=ow (gD fn n (.slice (some ⟨0,off,some 7⟩) m cc::rM 1 l) ((0,.row cells ty size)::uf 1 l) (s7 1 l) rs) v ((0,.row cells' ty size)::ms))
  (hQ:∀ av Sf v' w',av 0=some (.at g 0 cap)->aH av v v'->Au g w w'->(∃ fP,w'.heap[g]?=some (.cells fP ty (0,0))/\fP.size=cap*size/\fP.toList.take cells'.length=cells')->aJ (ae.vl w g) av Sf w'->(∀ p∈ms,Sf p.1=some p.2)->Q (.returned v') w') :
  Calls P f (.slice (some ⟨g,off,none⟩) m c'::l.map cA.real).toArray w Q:=by
 have jX:=RJ hg jx bE hc cG;have Zt:dD (λ_=>none) 0 (.at g 0 cap) 0=some (.at g 0 cap):=fC _ _ _;obtain⟨ι,c,h1,h2,h3,h4,h5,h6,h7⟩:=Se (g:=g) l 1 _ _ jX (λj x b o cp hj _ hb=>by
   by_cases AG:j=0
   ·subst AG;rw[Zt]at hb;injection hb with hb;injection hb with hb _ _;exact hb.symm
   ·unfold dD at hb;rw[al AG]at hb;cases hb) (λk hk=>by unfold aV;rw[al o_]) hl bd
 have tT:ι 0=some (.at g 0 cap):=h1 0 _ Zt;have ha:cX c ((0,.row cells ty size)::uf 1 l):=λk x hk=>by
  unfold ai at hk;split at hk
  ·rename_i hb;injection hk with hk;subst hk;rw[<-jY hb,h5 0 o_];unfold aV;rw[au rfl]
  ·exact h4 k x hk
 have aIt:aH ι (.slice (some ⟨0,off,some 7⟩) m cc) (.slice (some ⟨g,off,none⟩) m c'):=by have:=aH.slc (off:=off) tT hn mA;rwa[jL]at this
 refine uc iq hf hN n h (.cons aIt h6) h2 ha h3 λav bX v' w' hle jW hm dG=>?_;obtain⟨e1,e2⟩:=RK hm (hle 0 _ tT) (dG _ (aL ..)) Av;exact hQ av bX v' w' (hle 0 _ tT) jW e1 e2 hm λp hp=>dG p (bw _ hp)
theorem aIu{Sg:Nat}{cells:ah}{val:i_}(ho:di o.op=some x)(eK:fW P f=true)(hkk:k2≠k)(jX:0<m)
  (cG:∀ v∈cells,flat v=true) (Av:∀ v∈cells',flat v=true) (mI:flat val=true) (gK:x2.reads=true) (aIv:∀ v∈x2.cells,flat v=true) (aIw:n2=0->Sg=0)
  (h:∀ w g cap cur c' v2,w.heap[g]?=some (.cells cur ty (0,0))->m<=c'->cc+c'=cap->cap<=maxLen->cur.size=cap*size->cur.toList.take cells.length=cells->c8 w v2 n2 (x2.cells.take Sg)->(∀ b o c,v2=.slice (some ⟨b,o,none⟩) n2 c->b≠g)->Calls P f #[.slice (some ⟨g,off,none⟩) m c',v2] w λe w'=>e=.returned val/\Au g w w'/\∃ fP,w'.heap[g]?=some (.cells fP ty (0,0))/\fP.size=cap*size/\fP.toList.take cells'.length=cells') :
  cz P B o [.func (.func f) #[] #[],.slice (some ⟨k,off,some 7⟩) m cc,.slice (some ⟨k2,0,some 7⟩) n2 0] [(k,some (.row cells ty size)),(k2,some x2)] val [(k,.row cells' ty size)]:=by
 refine jP (fi:=[]) (ca:=[]) ho eK λι c w hm jR args' aU=>?_;have hk:c k=some (.row cells ty size):=jR _ (aL ..);have gi:c k2=some x2:=jR _ (bw _ (aL ..));obtain⟨v,v2,rfl,hv,iu⟩:=iY aU;have hr:=ox hm gi gK aIv aIw iu;rw[lW]at hr;rcases hv.gR rfl with ⟨_,h0,_⟩|⟨g,oo,cap,c',hb,lq,mA,he⟩
 ·omega
 ·dsimp only at hb he;obtain⟨l,q1,q2⟩:=hm.born k _ hk;rw[hb]at q1;injection q1 with q1;subst q1;rcases q2 with q2|⟨b,bj,cur,e1,lR,dF,fo,jb⟩
  ·cases q2.1
  ·injection e1 with e1 e2 e3;subst e1;subst e2;subst e3;rw[jL]at he;rw[he];have bd:∀ b o c,v2=.slice (some ⟨b,o,none⟩) n2 c->b≠g:=by
    rintro b o c1 rfl rfl
    rcases iu.gR rfl with ⟨_,_,_,_,e⟩|⟨b',o',bj,c2,gM,_,_,e⟩
    ·cases e
    ·injection e with e _ _;injection e with e;injection e with e _ _;subst e;simp only[Obj.reads,rH]at gK;rcases gK with gK|gK
     ·exact hkk (hm.inj k2 k x2 _ _ _ _ _ _ gi gK hk rfl gM hb)
     ·exact(hm.seen k2 x2 _ _ _ gi gK gM).2 k _ _ _ hk rfl hb
   refine(h w g cap cur c' v2 lR lq mA dF fo (mZ jb cG) hr bd).mono ?_
   rintro e w' ⟨rfl,pL,fP,p1,p2,p3⟩
   refine⟨ι,val,rfl,Map.le.refl _,.same mI,hm.write hk rfl hb pL.os pL.tape pL.output pL.size (λj hj Eu=>pL.block j hj Eu) (.inr ⟨g,cap,fP,rfl,p1,dF,p2,?_⟩) n_ rfl⟩;rw[p3];exact ky Av
end
section
variable{B U V n T v1 v2 u2:Nat}
structure lX(B n U V T u2 v1 v2:Nat):Prop where
 hB:2<=B
 hU:U<V*B
 hT:T=U/B^(n+1)
 hu:u2=U/B^n%B
 kz:v1=V/B^(n+1)
 iu:v2=V/B^n%B
 top:B<=2*v1
 CC:v1<B
theorem lX.pow(h:lX B n U V T u2 v1 v2):0<B^n:=cF (by have:=h.hB;omega)
theorem lX.two(h:lX B n U V T u2 v1 v2):U/B^n=T*B+u2/\V/B^n=v1*B+v2:=by rw[h.hT,h.hu,h.kz,h.iu];exact⟨wM U n,wM V n⟩
theorem lX.aIx(h:lX B n U V T u2 v1 v2)(hq:q*v1<=T->False):U/V<q:=by
 have qI:0<V:=by
  rcases nq V with e|e
  ·have:=h.hU;rw[e]at this;omega
  ·exact e
 refine Nat.lt_of_not_le λhle=>hq ?_;have h1:q*V<=U:=(CD qI).1 hle;rw[h.hT,h.kz];have hp:0<B^(n+1):=cF (by have:=h.hB;omega);rw[CD hp];have h2:V/B^(n+1)*B^(n+1)<=V:=CE _ _
 calc q*(V/B^(n+1))*B^(n+1)=q*(V/B^(n+1)*B^(n+1)):=by rw[fK]
  _<=q*V:=jq _ h2
  _<=U:=h1
structure AH(U V T v1 q r:Nat):Prop where
 eq:q*v1+r=T
 le:U/V<=q
theorem lX.start(h:lX B n U V T u2 v1 v2):AH U V T v1 (T/v1) (T%v1):=by
 refine⟨by rw[cK];exact jf T v1,?_⟩;have hv:0<v1:=by have:=h.top;have:=h.hB;omega
 have:=h.aIx (q:=T/v1+1) λhle=>by have:=(CD hv).2 hle;omega
 omega
theorem lX.small(h:lX B n U V T u2 v1 v2):U/V<B:=by
 have qI:0<V:=by
  rcases nq V with e|e
  ·have:=h.hU;rw[e]at this;omega
  ·exact e
 exact(iv qI).2 (by rw[cK];exact h.hU)
theorem lX.aIy(h:lX B n U V T u2 v1 v2){r:Nat}(g:AH U V T v1 q r)(hc:B<=q\/r*B+u2<q*v2):U/V<q:=by
 rcases hc with hc|hc
 ·exact cC h.small hc
 ·have qI:0<V:=by
   rcases nq V with e|e
   ·have:=h.hU;rw[e]at this;omega
   ·exact e
  rw[iv qI];obtain⟨e1,e2⟩:=h.two;have hp:=h.pow;have h1:U/B^n<q*(V/B^n):=by rw[e1,e2,<-g.eq,oz,fp,<-fK];omega
  have h2:U<q*(V/B^n)*B^n:=(iv hp).1 h1;rw[fK]at h2;exact cC h2 (jq _ (CE _ _))
theorem lX.less(h:lX B n U V T u2 v1 v2){r:Nat}(g:AH U V T v1 q r)(hc:B<=q\/r*B+u2<q*v2):0<q/\AH U V T v1 (q-1) (r+v1):=by have ao:=h.aIy g hc;obtain⟨p,rfl⟩:∃ p,q=p+1:=⟨q-1,(Nat.sub_add_cancel (Nat.one_le_of_lt ao)).symm⟩;refine⟨by omega,?_,Nat.le_of_lt_succ ao⟩;have:=g.eq;rw[fp,pK]at this;rw[Na];omega
theorem lX.fin(h:lX B n U V T u2 v1 v2){r:Nat}(g:AH U V T v1 q r)(hc:(q<B/\q*v2<=r*B+u2)\/B<=r):q<B/\q*V<U+V:=by
 obtain⟨e1,e2⟩:=h.two;have hp:=h.pow;have iD:B^(n+1)=B^n*B:=dr ..;have hVd:=jf V (B^n);have hVm:=cE V hp;rcases hc with ⟨hq,hc⟩|hr
 ·refine⟨hq,?_⟩;have h1:q*(V/B^n)<=U/B^n:=by rw[e1,e2,<-g.eq,oz,fp,<-fK];omega
  have h2:q*(V/B^n)*B^n<=U:=(CD hp).1 h1;have h3:q*V=q*(V/B^n)*B^n+q*(V%B^n):=by rw[fK,<-oz,cK (V/B^n),hVd]
  have h4:q*(V%B^n)<V:=by
   have h5:q*(V%B^n)<=(B-1)*B^n:=Cr o_ (jD hVm);have h6:v1*B^(n+1)<=V:=by rw[h.kz];exact CE _ _
   have h7:1*B^(n+1)<=v1*B^(n+1):=eZ _ (by have:=h.top;have:=h.hB;omega);have h8:(B-1)*B^n<B^(n+1):=by rw[iD,cK (B^n)];exact AJ (by have:=h.hB;omega) hp
   omega
  omega
 ·have wY:V<(v1+1)*B^(n+1):=by rw[h.kz];have jg:0<B^(n+1):=cF (by have:=h.hB;omega);exact(iv jg).1 (GL _)
  have jg:0<B^(n+1):=cF (by have:=h.hB;omega);have hTU:T*B^(n+1)<=U:=by rw[h.hT];exact CE _ _
  have Zu:T<(v1+1)*B:=by rw[h.hT,iv jg];refine cC h.hU ?_;rw[fK,cK B,<-fK];exact eZ _ (jD wY)
  have hqB:q<B:=by
   have h1:q*v1<B*v1:=by have:=g.eq;rw[fp,pK,cK v1]at Zu;omega
   exact aIz h1
  refine⟨hqB,?_⟩;have h2:q*V<=q*((v1+1)*B^(n+1)):=jq _ (jD wY);have h3:q*((v1+1)*B^(n+1))<=T*B^(n+1):=by rw[<-fK];refine eZ _ ?_;have:=g.eq;rw[oz,gn];omega
  have qI:0<V:=by
   rcases nq V with e|e
   ·have:=h.hU;rw[e]at this;omega
   ·exact e
  omega
theorem lX.aIA(h:lX B n U V T u2 v1 v2)(r:Nat):B<=r+v1+v1:=by have:=h.top;omega
theorem lX.aIB(h:lX B n U V T u2 v1 v2){r:Nat}(g:AH U V T v1 q r):q<=B*2+1:=by
 have jg:0<B^(n+1):=cF (by have:=h.hB;omega);have wY:V<(v1+1)*B^(n+1):=by rw[h.kz];exact(iv jg).1 (GL _)
 have Zu:T<(v1+1)*B:=by rw[h.hT,iv jg];refine cC h.hU ?_;rw[fK,cK B,<-fK];exact eZ _ (jD wY)
 have hv:0<v1:=by have:=h.top;have:=h.hB;omega
 have h1:q*v1<(B*2)*v1:=by
  have:=g.eq;have h2:(v1+1)*B<=(B*2)*v1:=by
   rw[fp,pK,fK,cK v1];have:B*1<=B*v1:=jq _ hv;have e:B*(2*v1)=B*v1+B*v1:=by rw[Nat.two_mul,oz]
   omega
  omega
 have:=aIz h1;omega
def nR(B q V i:Nat):Nat:=q*(V%B^i)/B^i
theorem aIC:nR B q V 0=0:=by simp[nR,s9]
theorem Zv(hB:0<B)(q V i:Nat):nR B q V i+q*(V/B^i%B)=q*(V%B^(i+1))/B^i:=by have hp:0<B^i:=cF hB;rw[oX,oz,<-fK,oY _ _ hp];rfl
theorem aID(hB:0<B)(q V i:Nat):(nR B q V i+q*(V/B^i%B))/B=nR B q V (i+1):=by rw[Zv hB,kE,<-dr];rfl
theorem Zw(hB:0<B)(q V i:Nat):(nR B q V i+q*(V/B^i%B))%B=q*V/B^i%B:=by
 have hp:0<B^i:=cF hB;rw[Zv hB];have e:q*V=q*(V%B^(i+1))+(q*(V/B^(i+1))*B)*B^i:=by
  have h1:=jf V (B^(i+1));have h2:q*(V/B^(i+1))*B*B^i=q*(B^(i+1)*(V/B^(i+1))):=by rw[dr];simp only[cK,mG,fK]
  rw[h2,<-oz,mF,h1]
 rw[e,oY _ _ hp,CB]
theorem Zx(hB:0<B)(hq:q<B)(V i:Nat):nR B q V i<B:=by have hp:0<B^i:=cF hB;unfold nR;rw[iv hp];have h1:q*(V%B^i)<=q*B^i:=jq _ (jD (cE _ hp));exact eX h1 (AJ hq hp)
end
section
variable{B:Nat}
def ga(B j R D:Nat):Nat:=R%B^j+D*B^j
theorem wZ(hB:0<B)(j R D i:Nat):ga B j R D/B^(j+i)%B=D/B^i%B:=by have hp:0<B^j:=cF hB;unfold ga;rw[eh,<-kE,oY _ _ hp,lV (cE _ hp),jL]
theorem Sh(hB:0<B){t:Nat}(ht:t<j)(R D:Nat):ga B j R D/B^t%B=R/B^t%B:=by
 unfold ga;obtain⟨s,rfl⟩:∃ s,j=t+1+s:=⟨j-(t+1),by omega⟩;have hp:0<B^t:=cF hB;have e1:R%B^(t+1+s)/B^t%B=R/B^t%B:=by
  have e:B^(t+1+s)=B^t*(B*B^s):=by rw[eh,dr,fK]
  rw[e,Ay,Jo]
 have e2:D*B^(t+1+s)=(D*B^s*B)*B^t:=by rw[eh,dr];simp only[cK,mG,fK]
 rw[e2,oY _ _ hp,CB,e1]
theorem GM(hB:0<B)(R:Nat)(h:D<B^m):ga B j R D<B^(j+m):=by have hp:0<B^j:=cF hB;unfold ga;have h1:=cE R hp;have h2:(D+1)*B^j<=B^m*B^j:=eZ _ h;rw[fp,pK]at h2;rw[eh,cK (B^j)];omega
theorem Zy(hB:0<B)(j R D E:Nat):ga B j (ga B j R D) E=ga B j R E:=by unfold ga;rw[CB,Nat.mod_mod]
theorem aIE(j R:Nat):ga B j R (R/B^j)=R:=by unfold ga;rw[cK,mF];exact jf R (B^j)
theorem GN(j R i:Nat):R/B^(j+i)%B=R/B^j/B^i%B:=by rw[eh,kE]
theorem Nb(hB:0<B)(L j R D:Nat):cW B L j (ga B j R D) R=aa B L R:=by
 unfold cW aa;refine wD λt _=>?_;by_cases h:t<j
 ·rw[au h,Sh hB h]
 ·rw[al h]
theorem EG(hB:0<B){L R S:Nat}(hR:R<B^m)(hS:S<B^m):cW B L m S R=aa B L S:=by
 unfold cW aa;refine wD λt _=>?_;by_cases h:t<m
 ·rw[au h]
 ·rw[al h,qG hR o_ hB,qG hS o_ hB]
def fR(B m U V q:Nat):Nat:=(U+B^(m+1)-q*V)%B^(m+1)
section
variable{m U V q:Nat}
theorem Si(hB:0<B):fR B m U V q<B^(m+1):=cE _ (cF hB)
theorem Zz(hB:0<B)(h:i<k):a%B^k/B^i%B=a/B^i%B:=by have:=Sh hB h a 0;unfold ga at this;rw[lB,ja]at this;exact this
theorem aIF(hB:0<B)(h:i<k):(a+B^k)/B^i%B=a/B^i%B:=by
 have e:B^k=B^(k-i-1)*B*B^i:=by rw[<-dr,<-eh];congr 1;omega
 rw[e,oY _ _ (cF hB),CB]
theorem aIG(h:i<=k):(a+B^k)%B^i=a%B^i:=by
 have e:B^k=B^i*B^(k-i):=by rw[<-eh];congr 1;omega
 rw[e,Er]
def oC(B U V q i:Nat):Nat:=kF B U (q*V) i
theorem aIH(h:i<=k):kF B (a+B^k) b i=kF B a b i:=by unfold kF;rw[aIG h]
theorem aII(hB:0<B)(hq:q*V<=U+B^(m+1))(hi:i<=m):
  (U/B^i%B+2*B-(nR B q V i+q*(V/B^i%B))%B-oC B U V q i)%B=fR B m U V q/B^i%B:=by
 unfold fR oC;rw[Zz hB o_,Zw hB,<-aIF hB (show i<m+1 by omega),<-aIH (show i<=m+1 by omega)];exact RF hB hq i
theorem aIJ(hB:0<B)(i:Nat):(if U/B^i%B<(nR B q V i+q*(V/B^i%B))%B+oC B U V q i then 1 else 0)=oC B U V q (i+1):=by unfold oC;rw[Zw hB];exact RE hB _ _ _
theorem aIK(hB:0<B)(hq:q<B)(hV:V<B^m):q*V<B^(m+1):=by rw[dr,cK (B^m)];exact eX (eZ _ (jD hq)) (YG hV hB)
theorem aIL(hB:0<B)(hq:q<B)(hV:V<B^m)(hU:U<V*B):oC B U V q (m+1)=if U<q*V then 1 else 0:=by
 have CF:U<B^(m+1):=by rw[dr];exact cC hU (eZ _ (jD hV))
 unfold oC kF;rw[dJ CF,dJ (aIK hB hq hV)]
theorem ZA(hB:0<B)(hV:V<B^m)(hU:U<V*B)(hle:U/V<=q)(h:¬U<q*V):q=U/V/\fR B m U V q=U%V:=by
 have CF:U<B^(m+1):=by rw[dr];exact cC hU (eZ _ (jD hV))
 have qI:0<V:=by
  rcases nq V with e|e
  ·rw[e]at hU;omega
  ·exact e
 have e:q=U/V:=by have:=(CD qI).2 (Jv.1 h);omega
 refine⟨e,?_⟩;unfold fR;have h1:=jf U V;rw[cK]at h1;rw[<-e]at h1;have h2:U+B^(m+1)-q*V=U%V+B^(m+1):=by omega
 rw[h2,Jw,dJ (eX (Jg _ _) CF)]
theorem ZB(hB:0<B)(hV:V<B^m)(hU:U<V*B)(hb:q*V<U+V)(h:U<q*V):q=U/V+1/\(fR B m U V q+V)%B^(m+1)=U%V:=by
 have CF:U<B^(m+1):=by rw[dr];exact cC hU (eZ _ (jD hV))
 have qI:0<V:=by
  rcases nq V with e|e
  ·rw[e]at hU;omega
  ·exact e
 have o5:0<q:=by
  rcases nq q with e|e
  ·rw[e,lB]at h;omega
  ·exact e
 obtain⟨p,rfl⟩:∃ p,q=p+1:=⟨q-1,by omega⟩;rw[fp,pK]at h hb;have e:p=U/V:=by have h1:p<=U/V:=(CD qI).2 o_;have h2:U/V<p+1:=(iv qI).2 (by rw[fp,pK];exact h);omega
 refine⟨by rw[e],?_⟩;unfold fR;have h1:=jf U V;rw[cK,<-e]at h1;rw[Nat.mod_add_mod,fp,pK];have hpV:p*V<=U:=by omega
 have Sj:V<=B^(m+1):=dc (jD hV) (c7 hB o_);have h2:U+B^(m+1)-(p*V+V)+V=U%V+B^(m+1):=by omega
 rw[h2,Jw,dJ (eX (Jg _ _) CF)]
theorem Sk(hB:0<B)(hi:i<=m):(D/B^i%B+V/B^i%B+eL B D V i)%B=(D+V)%B^(m+1)/B^i%B:=by rw[Zz hB o_];exact Gr hB D V i
end
theorem ZC(hB:0<B)(A V j:Nat):ga B j (A%(V*B^(j+1))) (A%(V*B^(j+1))/B^j%V)=A%(V*B^j):=by
 have hp:0<B^j:=cF hB;have h1:A%(V*B^j)=A%(V*B^(j+1))%(B^j*V):=by rw[cK (B^j),dr,<-fK,Jo]
 rw[h1];generalize A%(V*B^(j+1))=R;rw[MD];unfold ga;rw[cK (B^j) (_%V)]
theorem ZD(A V j:Nat):A%(V*B^(j+1))/B^j/V=A/V/B^j%B:=by rw[kE,dr,<-fK,cK (B^j) V,Ay,kE]
theorem ZE{V:Nat}(hB:0<B)(hV:0<V)(A j:Nat):A%(V*B^(j+1))/B^j<V*B:=by have hp:0<B^j:=cF hB;rw[iv hp,fK,cK B,<-dr];exact cE _ (qJ hV (cF hB))
theorem ZF{B X:Nat}(hB:0<B)(hk:∃ c,B=2^k*c):((X/B^(i+1)%B*B+X/B^i%B)/2^k)%B=X/2^k/B^i%B:=by
 obtain⟨c,hc⟩:=hk;have h2:0<2^k:=cF d_;have e1:X/B^i=X/B^(i+1)*B+X/B^i%B:=wM X i;have e2:X/B^(i+1)=X/B^(i+1)/B*B+X/B^(i+1)%B:=by rw[cK];exact(jf _ _).symm
 have e3:X/2^k/B^i=X/B^i/2^k:=by rw[kE,kE,cK]
 rw[e3];generalize X/B^i%B=x0 at *;generalize X/B^i=Y at *;generalize X/B^(i+1)%B=x1 at *;generalize X/B^(i+1)/B=H at *;generalize X/B^(i+1)=Z at *;subst e1;subst e2;have e4:(H*B+x1)*B+x0=(x1*B+x0)+H*B*c*2^k:=by
  rw[fp];have:H*B*c*2^k=H*B*B:=by rw[fK (H*B),cK c,<-hc]
  omega
 have e5:H*B*c=H*c*B:=by rw[fK,cK B c,<-fK]
 rw[e4,oY _ _ h2,e5,CB]
end
section
variable{Bs:ae}{N:Nat}
def pQ(x:Obj)(a:Nat):Prop:=x.reads=true/\∃ M,nd base a<=M/\x.cells=aj (aa base M a)
theorem AK(hm:aJ Bs ι c w){x:Obj}{v:i_}(hk:c k=some x)(hx:pQ x a)(hv:aH ι (sl k (nd base a)) v):iw w v a:=by
 obtain⟨h1,M,h2,h3⟩:=hx;have:=ox (len:=nd base a) hm hk h1 (by rw[h3];exact fq _) (λh=>h) hv;rw[h3,lW]at this;have e:(aj (aa base M a)).take (nd base a)=aj (aa base (nd base a) a):=by unfold aj;rw[<-Cd,Jc h2]
 rw[e]at this;exact this
def uk(a:Nat):Obj:=.row (aj (aa base (nd base a) a)) 172 1
theorem rU(a:Nat):pQ (uk a) a:=⟨rfl,_,bh _,rfl⟩
theorem w6(a:Nat):pQ (.view (aj (aa base (nd base a) a))) a:=⟨rfl,_,bh _,rfl⟩
theorem Nd{y:m_}{c:Nat}(ho:di o.op=some y)(eK:fW prog f=true)(dz:∀ v∈args,flat v=true)
  (h:∀ w,Calls prog f args.toArray w λe w'=>∃ v,e=.returned v/\jB w w' v c/\Below w.heap.size w w') (k:Nat) :
  cz prog Bs o (.func (.func f) #[] #[]::args) [(k,none)] (sl k (nd base c)) [(k,uk c)]:=by
 refine jP (fi:=[]) (ca:=[]) ho eK λι cc w hm hn args' aU=>?_;rw[jy,gY]at aU;rw[mZ aU dz];refine(h w).mono ?_
 rintro e w' ⟨v,rfl,h1,h2⟩
 obtain⟨av,q1,q2,q3⟩:=En hm h2 (k:=k) (hn _ (aL ..)) h1 (fq _);exact⟨av,v,rfl,q1,q3,q2⟩
theorem Sl{y:m_}{c:Nat}(ho:di o.op=some y)(eK:fW prog f=true)(hx:pQ x1 a)(gK:pQ x2 b)
  (h:∀ w va vb,iw w va a->iw w vb b->Calls prog f #[va,vb] w λe w'=>∃ v,e=.returned v/\jB w w' v c/\Below w.heap.size w w') (k:Nat) :
  cz prog Bs o [.func (.func f) #[] #[],sl k1 (nd base a),sl k2 (nd base b)] [(k1,some x1),(k2,some x2),(k,none)] (sl k (nd base c)) [(k,uk c)]:=by
 refine jP (fi:=[]) (ca:=[]) ho eK λι cc w hm hn args' aU=>?_;rw[jy,gY]at aU;obtain⟨va,vb,rfl,hv,iu⟩:=iY aU;refine(h w va vb (AK hm (hn (k1,some x1) s_) hx hv) (AK hm (hn (k2,some x2) s_) gK iu)).mono ?_
 rintro e w' ⟨v,rfl,h1,h2⟩
 obtain⟨av,q1,q2,q3⟩:=En hm h2 (k:=k) (hn (k,none) s_) h1 (fq _);exact⟨av,v,rfl,q1,q3,q2⟩
theorem GO{y:m_}(ho:di o.op=some y)(eK:fW prog f=true)(hx:pQ x1 a)(RL:∀ v∈post,flat v=true)(Aj:flat res=true)
  (h:∀ w va,iw w va a->Calls prog f (va::post).toArray w λe w'=>e=.returned res/\Below w.heap.size w w') :
  cz prog Bs o (.func (.func f) #[] #[]::sl k1 (nd base a)::post) [(k1,some x1)] res []:=by
 refine jP (fi:=[]) (ca:=[]) ho eK λι cc w hm hn args' aU=>?_;rw[jy,gY]at aU;cases aU with
 |cons hv hp=>
 rw[mZ hp RL];refine(h w _ (AK hm (hn _ (aL ..)) hx hv)).mono ?_
 rintro e w' ⟨rfl,h2⟩
 exact⟨ι,res,rfl,Map.le.refl _,.same Aj,hm.call h2⟩
theorem Nf{y:m_}(ho:di o.op=some y)(eK:fW prog f=true)(hx:pQ x1 a)(gK:pQ x2 b)(Aj:flat res=true)
  (h:∀ w va vb,iw w va a->iw w vb b->Calls prog f #[va,vb] w λe w'=>e=.returned res/\Below w.heap.size w w') :
  cz prog Bs o [.func (.func f) #[] #[],sl k1 (nd base a),sl k2 (nd base b)] [(k1,some x1),(k2,some x2)] res []:=by
 refine jP (fi:=[]) (ca:=[]) ho eK λι cc w hm hn args' aU=>?_;rw[jy,gY]at aU;obtain⟨va,vb,rfl,hv,iu⟩:=iY aU;refine(h w va vb (AK hm (hn (k1,some x1) s_) hx hv) (AK hm (hn (k2,some x2) s_) gK iu)).mono ?_
 rintro e w' ⟨rfl,h2⟩
 exact⟨ι,res,rfl,Map.le.refl _,.same Aj,hm.call h2⟩
end
def o6(a:Nat):Value:=.string (BA (cD a))
def AL(neg:Bool)(a:Nat):Value:=.agg #[.bool (neg&&decide (a≠0)),o6 a]
theorem qK(a:Nat):((BA (cD a)).toList==(ByteArray.mk #[]).toList)=decide (a=0):=by rw[Ev,oW];exact aIi
theorem ZG{neg:Bool}(fZ:iw w va a)(h1:nd base a<35184372088832):
  Calls prog 156 #[va,.bool neg] w λe w'=>e=.returned (AL neg a)/\Below w.heap.size w w':=by
 have hl:∀ s∈[cA.row va (nd base a) (aj (aa base (nd base a) a)),.plain (.bool neg)],s.OK w:=by
  intro s hs;simp at hs;rcases hs with rfl|rfl
  ·exact⟨fZ,fq _⟩
  ·exact rfl
 cases neg with
 |false=>
  exact lC (Q:=λe w'=>e=.returned (AL false a)/\Below w.heap.size w w') mixed func156 [cA.row va (nd base a) (aj (aa base (nd base a) a)),.plain a_] hl 100 (N:=15) k_
   (rs:=[(.step 7 (ay f156 7) _ _ _ _ (GO (y:=.func 204) (k1:=0) (post:=[]) k_ k_ (w6 a) n_ rfl λw va h=>Zs h h1):aQ prog (ae.at w) 15)])
   (v:=.agg #[.bool false,o6 a]) (ms:=[]) k_ λav bX v' w' hc bo _ _=>⟨by rw[hc.fh rfl];rfl,bo.base⟩
 |true=>
  have e:(!((BA (cD a)).toList==(ByteArray.mk #[]).toList))=decide (a≠0):=by rw[qK];simp
  exact lC (Q:=λe w'=>e=.returned (AL true a)/\Below w.heap.size w w') mixed func156 [cA.row va (nd base a) (aj (aa base (nd base a) a)),.plain b_] hl 100 (N:=15) k_
   (rs:=[(.step 7 (ay f156 7) _ _ _ _ (GO (y:=.func 204) (k1:=0) (post:=[]) k_ k_ (w6 a) n_ rfl λw va h=>Zs h h1):aQ prog (ae.at w) 15),.rw 11 (.bool (!((BA (cD a)).toList==(ByteArray.mk #[]).toList))) (.bool (decide (a≠0))) (by rw[e])])
   (v:=.agg #[.bool (decide (a≠0)),o6 a]) (ms:=[]) k_ λav bX v' w' hc bo _ _=>⟨by rw[hc.fh rfl];simp[AL],bo.base⟩
section
variable{Bs:ae}{n a k:Nat}
theorem aIM{B L X:Nat}(h:i+1<L)(h0:d=A/B^i%B)(h1:e=A/B^(i+1)%B)(ho:∀ t,t≠i->t≠i+1->X/B^t%B=A/B^t%B):((aa B L X).set i d).set (i+1) e=aa B L A:=by
 refine Sn λt=>?_;rw[List.getElem?_set,List.getElem?_set];by_cases ht:t<L
 ·rw[ee ht,ee ht];by_cases h2:i+1=t
  ·subst h2;rw[au rfl,au (by simp[oy];omega),h1]
  ·rw[al h2];by_cases h3:i=t
   ·subst h3;rw[au rfl,au (by rw[oy];omega),h0]
   ·rw[al h3,ho t (λe=>h3 e.symm) (λe=>h2 e.symm)]
 ·have e1:(aa B L X)[t]?=none:=yj (by rw[oy];omega);have e2:(aa B L A)[t]?=none:=yj (by rw[oy];omega);rw[e1,e2,al o_,al o_]
theorem aIN{x c k:Nat}(hk:k<=31)(hx:x<base)(hc:c<2^k):(c||| (x*2^k%base))=(c+x*2^k)%base/\(c+x*2^k)/base=x*2^k/base/\x*2^k/base<2^k:=by
 obtain⟨m,hm⟩:∃ m,base=m*2^k:=⟨2^(32-k),by rw[<-eh,show 32-k+k=32 by omega]⟩;have hp:0<2^k:=cF d_;have qL:0<m:=by
  rcases nq m with e|e
  ·rw[e,lB]at hm;exact absurd hm d_
  ·exact e
 have e1:x*2^k%base=x%m*2^k:=by rw[hm,ZH]
 have e2:x*2^k/base=x/m:=by rw[hm,ZI _ _ hp]
 have e3:(c+x*2^k)/base=x/m:=by rw[hm,cK m,<-kE,oY _ _ hp,lV hc,jL]
 have e4:(c+x*2^k)%base=c+x%m*2^k:=by
  have h1:=jf (c+x*2^k) base;rw[e3]at h1;have h2:=jf x m;have h3:x*2^k=base*(x/m)+x%m*2^k:=by
   rw[hm]
   conv=>lhs;rw[<-h2]
   rw[fp,AM]
  generalize base*(x/m)=z at h1 h3;omega
 refine⟨?_,e3.trans e2.symm,?_⟩
 ·have:=MS (i:=k) hc (x%m);rw[e1,e4,Nat.or_comm,cK,<-this];omega
 ·rw[e2,iv qL,cK,<-hm];exact hx
theorem aIO(hk:k<=31):(a%base^i*2^k)/base^i%base=(a%base^i*2^k)/base^i/\(a%base^i*2^k)/base^i<2^k:=by
 have hp:0<base^i:=cF d_;have h1:(a%base^i*2^k)/base^i<2^k:=by rw[iv hp,cK];exact YG (cE _ hp) (cF d_)
 refine⟨dJ (cC h1 ?_),h1⟩;exact dc (c7 d_ hk) d_
theorem aIP:(a%base^(i+1)*2^k)/base^i=(a%base^i*2^k)/base^i+a/base^i%base*2^k:=by have hp:0<base^i:=cF d_;rw[oX,fp,AM,oY _ _ hp]
def rV(n a k i:Nat):aM:=[(14,vI i),(13,vI n),(12,sl 0 n),(5,sl 1 (n+1)),(1,vI k)]
def oD(n a k i:Nat):aE:=[(0,.view (aj (aa base n a))),(1,.row (aj (aa base (n+1) (a%base^i*2^k))) 172 1)]
theorem Sp(hi:i<n)(hk:k<=31)(h63:n<35184372088832):
  af prog Bs 40 (aF (ag f233 0)) (rV n a k i) (oD n a k i) 2 ⟨.normal,rV n a k (i+1),oD n a k (i+1),2⟩:=by
 have hx:=gO (B:=base) d_ a i;obtain⟨s1,s2⟩:=aIO (a:=a) (k:=k) (i:=i) hk;have s3:=aIP (a:=a) (k:=k) (i:=i);have iS:(aj (aa base (n+1) (a%base^i*2^k)))[i]?=some (aR ((a%base^i*2^k)/base^i)):=by rw[<-s1];exact kG (ee o_)
 have iO:∀ d e,d=(a%base^(i+1)*2^k)/base^i%base->e=(a%base^(i+1)*2^k)/base^(i+1)%base->((aa base (n+1) (a%base^i*2^k)).set i d).set (i+1) e=aa base (n+1) (a%base^(i+1)*2^k):=by
  intro d e hd he;refine aIM o_ hd he λt h1 h2=>?_;rcases eU t i with h|h
  ·have e1:a%base^(i+1)*2^k=ga base i (a%base^i*2^k) ((a%base^i*2^k)/base^i+a/base^i%base*2^k):=by unfold ga;rw[oX,fp,fp,<-tX,Nat.mod_add_div',AM]
   rw[e1,Sh d_ h]
  ·have hp:0<base^i:=cF d_;have b1:a%base^i*2^k<base^(i+1):=by rw[dr];exact ZJ (cE _ hp) (dc (c7 d_ hk) d_) d_
   have b2:a%base^(i+1)*2^k<base^(i+2):=by rw[dr _ (i+1)];exact ZJ (cE _ (cF d_)) (dc (c7 d_ hk) d_) d_
   rw[qG b1 o_ d_,qG b2 o_ d_]
 generalize hc:(a%base^i*2^k)/base^i=c at *;generalize GP:a/base^i%base=x at *;obtain⟨t1,t2,t3⟩:=aIN hk hx s2;have hd:(c||| x*2^k%base)=(a%base^(i+1)*2^k)/base^i%base:=by rw[s3,t1]
 have he:x*2^k/base=(a%base^(i+1)*2^k)/base^(i+1)%base:=by
  have e5:∀ Z:Nat,Z/base^(i+1)=Z/base^i/base:=λZ=>by rw[dr,kE]
  rw[e5,s3,t2];exact(dJ (cC t3 (dc (c7 d_ hk) d_))).symm
 have iO:=iO _ _ hd he;have h64:x*2^k<18446744073709551616:=by have h1:x*2^k<=(base-1)*2^31:=Cr o_ (c7 d_ hk);exact eX h1 d_
 have w25:IntKind.u32.wrap ((x:Int)*2^(min k IntKind.u32.bits))=((x*2^k%base:Nat):Int):=by
  have e:(x:Int)*2^k=((x*2^k:Nat):Int):=by simp
  rw[show min k IntKind.u32.bits=k from nh (by show k<=32;omega),nr,e];unfold base;omega
 have w34:IntKind.u64.wrap ((x:Int)*2^(min k IntKind.u64.bits))=((x*2^k:Nat):Int):=by
  have e:(x:Int)*2^k=((x*2^k:Nat):Int):=by simp
  rw[show min k IntKind.u64.bits=k from nh (by show k<=64;omega),jQ,e];omega
 have q1:x*2^k%base<base:=cE _ d_;have q2:c<base:=cC s2 (dc (c7 d_ hk) d_);have q3:x*2^k/base<base:=cC t3 (dc (c7 d_ hk) d_);have Jx:eT prog 172 (aj (aa base (n+1) (a%base^i*2^k))) i (aR (c||| x*2^k%base))=some (aj ((aa base (n+1) (a%base^i*2^k)).set i (c||| x*2^k%base))):=by rw[yC _ _ _ (by simp[aj,oy];omega),yD]
 have Sq:eT prog 172 (aj ((aa base (n+1) (a%base^i*2^k)).set i (c||| x*2^k%base))) (i+1) (aR (x*2^k/base))=some (aj (aa base (n+1) (a%base^(i+1)*2^k))):=by rw[yC _ _ _ (by simp[aj,oy];omega),yD,iO]
 generalize x*2^k=y at *;generalize kU:(c||| y%base)=d at *;exact az [.lt 15 i n true (by simp[hi]),.ix f233 17 0 n i hi k_,.ld f233 18 172 0 i (.view (aj (aa base n a))) (aR x) rfl (by rw[fN,<-GP];exact kG (ee hi)) k_,.ix f233 21 1 (n+1) i o_ k_,.ld f233 22 172 1 i (.row (aj (aa base (n+1) (a%base^i*2^k))) 172 1) (aR c) rfl (by rw[fN];exact iS) k_,.shl f233 25 .u32 (x:Int) ((y%base:Nat):Int) k w25 k_,.quo 26 .u32 _ ((d:Nat):Int) ((RH q2 q1).trans (by rw[kU])),.ix f233 27 1 (n+1) i o_ k_,.st f233 100027 172 1 i (.row (aj (aa base (n+1) (a%base^i*2^k))) 172 1) (aR d) (.row (aj ((aa base (n+1) (a%base^i*2^k)).set i d)) 172 1) rfl Jx rfl k_,.sum 30 i 1 (i+1) rfl o_,.wr 32 .u64 (x:Int) (x:Int) (by rw[jQ];unfold base at hx;omega),.shl f233 34 .u64 (x:Int) (y:Int) k w34 k_,.quo 35 .u64 ((y:Int).fdiv ((2:Int)^32)) ((y/base:Nat):Int) (by rw[rO _ d_];unfold base;omega),.wr 36 .u32 ((y/base:Nat):Int) ((y/base:Nat):Int) (by rw[nr];unfold base at q3 ⊢;omega),.ix f233 37 1 (n+1) (i+1) o_ k_,.st f233 100037 172 1 (i+1) (.row (aj ((aa base (n+1) (a%base^i*2^k)).set i d)) 172 1) (aR (y/base)) (.row (aj (aa base (n+1) (a%base^(i+1)*2^k))) 172 1) rfl Sq rfl k_,.sum 38 i 1 (i+1) rfl o_]
theorem Sr(hk:k<=31)(h63:n<35184372088832):
  af prog Bs 40 (.block 0 (ag f233 0)) (rV n a k 0) (oD n a k 0) 2 ⟨.normal,rV n a k n,oD n a k n,2⟩:=
 bO (ck (b:=aF (ag f233 0)) (r:=⟨.exit 0,rV n a k n,oD n a k n,2⟩) n (rV n a k) (oD n a k) (λi t _=>jO (l:=oD n a k i) (m:=oD n a k 0) rfl t) (λi hi=>Sp hi hk h63)
  (az [.lt 15 n n false s_]) n_)
end
def ZK(w w':h_)(v:i_)(n a:Nat):Prop:=w'.ownsRow w.heap.size 172 1 v n (aj (aa base n a))
theorem aIQ(fZ:iw w va a)(hk:k<=31)(h1:nd base a<35184372088832):
  Calls prog 233 #[va,vI k] w λe w'=>∃ v,e=.returned v/\ZK w w' v (nd base a+1) (a*2^k)/\Below w.heap.size w w':=by
 have ao:=dQ (B:=base) d_ a;have hl:∀ s∈[cA.row va (nd base a) (aj (aa base (nd base a) a)),.plain (vI k)],s.OK w:=by
  intro s hs;simp at hs;rcases hs with rfl|rfl
  ·exact⟨fZ,fq _⟩
  ·exact rfl
 unfold iw at fZ;generalize nd base a=n at *;have aU:a%base^n=a:=dJ ao
 refine lC (Q:=λe w'=>∃ v,e=.returned v/\ZK w w' v (n+1) (a*2^k)/\Below w.heap.size w w') mixed func233 [cA.row va n (aj (aa base n a)),.plain (vI k)] hl 100 (N:=40) k_
  (rs:=[(aQ.sum 10 n 1 (n+1) rfl o_:aQ prog (ae.at w) 40),.pI f233 11 1 (n+1) 172 4 (aR 0) (aj (aa base (n+1) (a%base^0*2^k))) (by rw[rP,s9,lB,RQ,Es]) rfl rfl o_ (by simp[maxLen];omega) k_,.code 0 _ _ _ _ _ (Sr (n:=n) (a:=a) hk h1)])
  (v:=sl 1 (n+1)) (ms:=[(1,.row (aj (aa base (n+1) (a%base^n*2^k))) 172 1)]) k_ λav bX v' w' hc bo dG _=>⟨v',rfl,?_,bo.base⟩
 have:=vk bo (dG _ (aL ..)) hc (by simp[aj,oy]) (fq _);rw[j0 (by simp[aj,oy]),aU]at this;exact this
def bl(x:Nat):Nat:=if x=0 then 0 else x.log2+1
theorem Ss{x:Nat}(h:2^k<=x):bl x=bl (x/2^k)+k:=by
 have hp:0<2^k:=cF d_;have hx:x≠0:=by omega
 have hq:0<x/2^k:=Ng h hp;unfold bl;rw[al hx,al o_];have h1:=ZL (n:=x/2^k) o_;have h2:=Nat.lt_log2_self (n:=x/2^k);have e:x.log2=(x/2^k).log2+k:=by
  rw[Nat.log2_eq_iff hx];constructor
  ·rw[eh];exact(CD hp).1 h1
  ·rw[show(x/2^k).log2+k+1=((x/2^k).log2+1)+k by omega,eh];exact(iv hp).1 h2
 omega
theorem ZM{x n:Nat}(h:x<2^n):bl x<=n:=by
 unfold bl;split
 ·omega
 ·rename_i hx;have:=ZL hx;rcases eU x.log2 n with h1|h1
  ·omega
  ·have:=c7 (show 0<2 by decide) h1;omega
theorem aIR{x:Nat}(h:x≠0):∃ k,bl x=k+1/\2^k<=x/\x<2^(k+1):=by refine⟨x.log2,by unfold bl;rw[al h],ZL h,Nat.lt_log2_self⟩
section
variable{P:j_}{B:ae}{N:Nat}
theorem aIS(ho:Gx P o=true){kd:IntKind}{s:ByteArray}{c:UInt8}(hc:s[i]?=some c):cz P B o [.string s,.int kd i] [] (.int .u8 (c.toNat:Int)) []:=by
 unfold Gx at ho;split at ho
 ·rename_i t p q bM;split at ho
  ·rename_i ht;refine(Ac (λu hu=>by simp at hu;rcases hu with rfl|rfl<;>rfl) rfl λρ e6 w _=>?_).step;rw[bM]at e6;simp[Op.operands]at e6;have h0:(0:Int)<=(i:Int):=by omega
   simp[execOp,bM,e6.1,e6.2,Instr.index,asIntOf,iZ ht,h0,hc]
  ·cases ho
 ·cases ho
def aQ.Nh(fn:Func)(key:Nat)(kd:IntKind)(s:ByteArray)(i:Nat)(c:UInt8)(hc:s[i]?=some c)(ho:Gx P (ay fn key)=true):aQ P B N:=
 .step key (ay fn key) [.string s,.int kd i] [] (.int .u8 (c.toNat:Int)) [] (aIS ho hc)
end
noncomputable def GQ:ByteArray:=match (ay f170 16).op with|.index _ (.const (.string s)) _=>s|_=>default
theorem aIT:∀ i,i<256->GQ[i]?=some (UInt8.ofNat (bl i)):=by decide +kernel
theorem aIU{x:Nat}(hx:x<base):aD prog 170 [aR x] (vI (bl x)):=by
 have fin:∀ z,z<256->∃ c:UInt8,GQ[z]?=some c/\c.toNat=bl z:=λz hz=>⟨_,aIT z hz,by have:=ZM (x:=z) (n:=8) hz;rw[M5];exact dJ o_⟩
 have w8:∀ z,z<256->IntKind.u8.wrap ((z:Nat):Int)=(z:Int):=λz h=>by rw[Zr];omega
 have shr:∀(z k:Nat),(z:Int).fdiv ((2:Int)^k)=((z/2^k:Nat):Int):=λz k=>by rw[rO _ (GJ d_),te,GK];rfl
 by_cases h1:65536<=x
 ·have e1:=Ss (k:=16) h1;obtain⟨y,hy⟩:∃ y,y=x/2^16:=⟨_,rfl⟩;have Gd:y<65536:=by rw[hy];unfold base at hx;omega
  by_cases h2:256<=y
  ·have e2:=Ss (x:=y) (k:=8) h2;obtain⟨z,hz⟩:∃ z,z=y/2^8:=⟨_,rfl⟩;have AN:z<256:=by rw[hz];omega
   obtain⟨c,c1,c2⟩:=fin z AN;have e:bl x=24+c.toNat:=by rw[e1,<-hy,e2,<-hz,c2];omega
   rw[e];exact aZ func170 (λ_=>[.ge 4 x 65536 true (by simp[h1]),.quo 6 .u32 ((x:Int).fdiv ((2:Int)^16)) (y:Int) (by rw[shr,hy]),.ge 8 y 256 true (by simp[h2]),.quo 10 .u32 ((y:Int).fdiv ((2:Int)^8)) (z:Int) (by rw[shr,hz]),.wr 15 .u8 (z:Int) (z:Int) (w8 z AN),.Nh f170 16 .u8 GQ z c c1 k_,.wr 17 .i64 (c.toNat:Int) (c.toNat:Int) (by rw[dU];have:=c.toNat_lt;omega),.sum 18 24 c.toNat (24+c.toNat) rfl (by have:=c.toNat_lt;omega)])
  ·obtain⟨c,c1,c2⟩:=fin y o_;have e:bl x=16+c.toNat:=by rw[e1,<-hy,c2];omega
   rw[e];exact aZ func170 (λ_=>[.ge 4 x 65536 true (by simp[h1]),.quo 6 .u32 ((x:Int).fdiv ((2:Int)^16)) (y:Int) (by rw[shr,hy]),.ge 8 y 256 false (by simp;omega),.wr 15 .u8 (y:Int) (y:Int) (w8 y o_),.Nh f170 16 .u8 GQ y c c1 k_,.wr 17 .i64 (c.toNat:Int) (c.toNat:Int) (by rw[dU];have:=c.toNat_lt;omega),.sum 18 16 c.toNat (16+c.toNat) rfl (by have:=c.toNat_lt;omega)])
 ·by_cases h2:256<=x
  ·have e2:=Ss (x:=x) (k:=8) h2;obtain⟨z,hz⟩:∃ z,z=x/2^8:=⟨_,rfl⟩;have AN:z<256:=by rw[hz];omega
   obtain⟨c,c1,c2⟩:=fin z AN;have e:bl x=8+c.toNat:=by rw[e2,<-hz,c2];omega
   rw[e];exact aZ func170 (λ_=>[.ge 4 x 65536 false (by simp;omega),.ge 8 x 256 true (by simp[h2]),.quo 10 .u32 ((x:Int).fdiv ((2:Int)^8)) (z:Int) (by rw[shr,hz]),.wr 15 .u8 (z:Int) (z:Int) (w8 z AN),.Nh f170 16 .u8 GQ z c c1 k_,.wr 17 .i64 (c.toNat:Int) (c.toNat:Int) (by rw[dU];have:=c.toNat_lt;omega),.sum 18 8 c.toNat (8+c.toNat) rfl (by have:=c.toNat_lt;omega)])
  ·obtain⟨c,c1,c2⟩:=fin x o_;have e:bl x=0+c.toNat:=by rw[c2];omega
   rw[e];exact aZ func170 (λ_=>[.ge 4 x 65536 false (by simp;omega),.ge 8 x 256 false (by simp;omega),.wr 15 .u8 (x:Int) (x:Int) (w8 x o_),.Nh f170 16 .u8 GQ x c c1 k_,.wr 17 .i64 (c.toNat:Int) (c.toNat:Int) (by rw[dU];have:=c.toNat_lt;omega),.sum 18 0 c.toNat (0+c.toNat) rfl (by have:=c.toNat_lt;omega)])
theorem aIV{x:Nat}(hx:x<base):aD prog 232 [aR x] (vI (32-bl x)):=
 aZ func232 (λ_=>[(aIU hx).at 4,.eW 5 32 (bl x) (32-bl x) (by have:=ZM (x:=x) (n:=32) hx;omega) o_])
def pR(x:Nat):Value:=.int .u64 (x:Int)
theorem qM{x:Nat}(h:x<18446744073709551616):IntKind.u64.wrap (x:Int)=(x:Int):=by rw[jQ];omega
theorem Su{x:Nat}(h:x<base):IntKind.u64.wrap ((x:Int)*2^32)=((x*base:Nat):Int):=by
 have e:(x:Int)*2^32=((x*base:Nat):Int):=by rw[nM];rfl
 rw[e];exact qM (by have:=AJ (k:=base) h d_;exact cC this d_)
theorem Sv{x y:Nat}(hx:x<base)(hy:y<base):IntKind.u64.wrap (((BitVec.ofInt IntKind.u64.bits ((x*base:Nat):Int))||| (BitVec.ofInt IntKind.u64.bits (y:Int))).toNat:Int)=((x*base+y:Nat):Int):=by
 have h1:x*base<18446744073709551616:=by have:=AJ (k:=base) hx d_;exact cC this d_
 have h2:=MS (i:=32) hy x;rw[RW h1 (lD hy d_),cK x base];exact ch _ h2.symm
section
variable{Bs:ae}{j m L R V T v1 v2 u2:Nat}
def us(j m:Nat):Value:=.slice (some ⟨0,j,some 7⟩) (m+1) j
def kH(j m q r:Nat):aM:=[(7,pR q),(8,pR r),(5,vI m),(0,us j m),(1,sl 1 m)]
def gQ(L R m V:Nat):aE:=[(0,.row (aj (aa base L R)) 172 1),(1,.view (aj (aa base m V)))]
structure DG(j e L R V T v1 v2 u2:Nat):Prop where
 ds:lX base e (R/base^j) V T u2 v1 v2
 hL:j+(e+2)+1<=L
 hV:V<base^(e+2)
 h63:L<35184372088832
section
variable{e:Nat}(h:DG j e L R V T v1 v2 u2)
include h
theorem DG.hR:R/base^j<base^(e+3):=by have h1:=h.ds.hU;have h2:V*base<=base^(e+2)*base:=eZ _ (jD h.hV);rw[<-dr]at h2;exact cC h1 h2
theorem DG.ud(hi:i<=e+2):(aj (aa base L R))[j+i]?=some (aR (R/base^j/base^i%base)):=by rw[<-GN];exact kG (ee (by have:=h.hL;omega))
omit h in
theorem DG.vd(hi:i<e+2):(aj (aa base (e+2) V))[i]?=some (aR (V/base^i%base)):=kG (ee hi)
theorem DG.Sw:V/base^(e+1)%base=v1:=by rw[h.ds.kz];exact Eo h.hV
theorem DG.ZN:R/base^j/base^(e+2)%base*base+R/base^j/base^(e+1)%base=T:=by rw[Eo (h.hR),h.ds.hT,<-wM]
theorem DG.u2d:R/base^j/base^e%base=u2:=h.ds.hu.symm
theorem DG.v2d:V/base^e%base=v2:=h.ds.iu.symm
end
noncomputable def Sx(h:DG j e L R V T v1 v2 u2)(q r:Nat)(GR:q<base)(hr:r<base)(tr:Bool)(hq:tr=decide (r*base+u2<q*v2))(more:bH prog Bs 159):bH prog Bs 159:=
 have iu:v2<base:=by rw[h.ds.iu];exact cE _ d_
 have eF:u2<base:=by rw[h.ds.hu];exact cE _ d_
 have hp:q*v2<18446744073709551616:=cC (pJ GR iu) d_;
  .ge 48 q 4294967296 false (by simp;exact GR)::.eW 53 (e+2) 2 e rfl (by have:=h.hL;have:=h.h63;omega)::.ix f234 54 1 (e+2) e o_ k_::
  .ld f234 55 172 1 e (.view (aj (aa base (e+2) V))) (aR v2) rfl (by rw[fN,<-h.v2d];exact DG.vd o_) k_::.wr 56 .u64 (v2:Int) (v2:Int) (qM (lD iu d_))::
  .wr 57 .u64 ((q:Int)*(v2:Int)) ((q*v2:Nat):Int) (by rw[<-nM];exact qM hp)::.wr 59 .u64 ((r:Int)*2^32) ((r*base:Nat):Int) (Su hr)::
  .eW 62 (e+2) 2 e rfl (by have:=h.hL;have:=h.h63;omega)::.wI f234 63 0 j (e+3) j e o_ k_::
  .ld f234 64 172 0 (j+e) (.row (aj (aa base L R)) 172 1) (aR u2) rfl (by rw[fN,<-h.u2d];exact h.ud o_) k_::.wr 65 .u64 (u2:Int) (u2:Int) (qM (lD eF d_))::
  .quo 66 .u64 _ ((r*base+u2:Nat):Int) (Sv hr eF)::.gt 67 (q*v2) (r*base+u2) tr hq.symm::more
noncomputable def Ni(h:DG j e L R V T v1 v2 u2)(q r:Nat)(hq:0<q/\q<18446744073709551616)(hr:r<base)(tr:Bool)(ht:tr=decide (base<=r+v1)):bH prog Bs 159:=
 have kz:v1<base:=h.ds.CC;
 [.wr 70 .u64 ((q:Int)-1) ((q-1:Nat):Int) (by rw[jQ];omega),.eW 74 (e+2) 1 (e+1) rfl (by have:=h.hL;have:=h.h63;omega),.ix f234 75 1 (e+2) (e+1) o_ k_,.ld f234 76 172 1 (e+1) (.view (aj (aa base (e+2) V))) (aR v1) rfl (by rw[fN,<-h.Sw];exact DG.vd o_) k_,.wr 77 .u64 (v1:Int) (v1:Int) (qM (lD kz d_)),.wr 78 .u64 ((r:Int)+(v1:Int)) ((r+v1:Nat):Int) (by rw[<-vt];exact qM (by unfold base at hr kz;omega)),.ge 80 (r+v1) 4294967296 tr ht.symm]
section
variable{e:Nat}(h:DG j e L R V T v1 v2 u2)
include h
theorem ZO{r:Nat}(GR:q<base)(hr:r<base)(hq:q*v2<=r*base+u2):
  af prog Bs 159 (aF (ag f234 0)) (kH j (e+2) q r) (gQ L R (e+2) V) 2 ⟨.exit 0,kH j (e+2) q r,gQ L R (e+2) V,2⟩:=
 az (Sx h q r GR hr false (by simp;omega) [])
theorem aIW{r:Nat}(hq:0<q/\q<18446744073709551616)(hr:r<base)(hc:base<=q\/r*base+u2<q*v2)(ht:r+v1<base):
  af prog Bs 159 (aF (ag f234 0)) (kH j (e+2) q r) (gQ L R (e+2) V) 2 ⟨.normal,kH j (e+2) (q-1) (r+v1),gQ L R (e+2) V,2⟩:=by
 by_cases hb:base<=q
 ·exact az (.ge 48 q 4294967296 true (by simp;exact hb)::Ni h q r hq hr false (by simp;omega))
 ·exact az (Sx h q r o_ hr true (by simp[hc.resolve_left hb]) (Ni h q r hq hr false (by simp;omega)))
theorem ZP{r:Nat}(hq:0<q/\q<18446744073709551616)(hr:r<base)(hc:base<=q\/r*base+u2<q*v2)(ht:base<=r+v1):
  af prog Bs 159 (aF (ag f234 0)) (kH j (e+2) q r) (gQ L R (e+2) V) 2 ⟨.exit 0,kH j (e+2) (q-1) (r+v1),gQ L R (e+2) V,2⟩:=by
 by_cases hb:base<=q
 ·exact az (.ge 48 q 4294967296 true (by simp;exact hb)::Ni h q r hq hr true (by simp;omega))
 ·exact az (Sx h q r o_ hr true (by simp[hc.resolve_left hb]) (Ni h q r hq hr true (by simp;omega)))
theorem aIX:∃ q r,af prog Bs 159 (.block 0 (ag f234 0)) (kH j (e+2) (T/v1) (T%v1)) (gQ L R (e+2) V) 2 ⟨.normal,kH j (e+2) q r,gQ L R (e+2) V,2⟩/\q<base/\q*V<R/base^j+V/\R/base^j/V<=q:=by
 have kz:v1<base:=h.ds.CC;have w7:=h.ds.top;have EH:0<v1:=by unfold base at w7;omega
 have nS:T%v1<v1:=cE _ EH;have g0:=h.ds.start;have sm:∀{q r},AH (R/base^j) V T v1 q r->q<18446744073709551616:=λg=>eX (h.ds.aIB g) d_;have one:∀{q r q' r':Nat},af prog Bs 159 (.loop (aF (ag f234 0))) (kH j (e+2) q r) (gQ L R (e+2) V) 2 ⟨.exit 0,kH j (e+2) q' r',gQ L R (e+2) V,2⟩->
   af prog Bs 159 (.block 0 (ag f234 0)) (kH j (e+2) q r) (gQ L R (e+2) V) 2 ⟨.normal,kH j (e+2) q' r',gQ L R (e+2) V,2⟩:=λg=>bO (id:=0) g
 have zero:∀{q r:Nat} {o:lv},o.ex≠.normal->af prog Bs 159 (aF (ag f234 0)) (kH j (e+2) q r) (gQ L R (e+2) V) 2 o->af prog Bs 159 (.loop (aF (ag f234 0))) (kH j (e+2) q r) (gQ L R (e+2) V) 2 o:=λ{q r o} ho g=>
  ck (P:=prog) (B:=Bs) (N:=159) (b:=aF (ag f234 0)) (next:=2) 0 (λ_=>kH j (e+2) q r) (λ_=>gQ L R (e+2) V) (λ_ _ _=>Iff.rfl) (λi hi=>by omega) g ho
 generalize T/v1=q0 at *;generalize T%v1=r0 at *;by_cases c1:base<=q0\/r0*base+u2<q0*v2
 ·obtain⟨p1,g1⟩:=h.ds.less g0 c1;by_cases t1:base<=r0+v1
  ·obtain⟨a1,a2⟩:=h.ds.fin g1 (.inr t1);exact⟨_,_,one (zero n_ (ZP h ⟨p1,sm g0⟩ o_ c1 t1)),a1,a2,g1.le⟩
  ·have t1:=Nat.not_le.1 t1;have two:∀{o:lv},o.ex≠.normal->af prog Bs 159 (aF (ag f234 0)) (kH j (e+2) (q0-1) (r0+v1)) (gQ L R (e+2) V) 2 o->af prog Bs 159 (.loop (aF (ag f234 0))) (kH j (e+2) q0 r0) (gQ L R (e+2) V) 2 o:=λ{o} ho g=>
    ck (P:=prog) (B:=Bs) (N:=159) (b:=aF (ag f234 0)) (next:=2) 1 (λi=>if i=0 then kH j (e+2) q0 r0 else kH j (e+2) (q0-1) (r0+v1)) (λ_=>gQ L R (e+2) V) (λ_ _ _=>Iff.rfl) (λi hi=>by
     have:i=0:=by omega
     subst this;exact aIW h ⟨p1,sm g0⟩ o_ c1 t1) g ho
   by_cases c2:base<=q0-1\/(r0+v1)*base+u2<(q0-1)*v2
   ·obtain⟨p2,g2⟩:=h.ds.less g1 c2;have t2:=h.ds.aIA r0;obtain⟨a1,a2⟩:=h.ds.fin g2 (.inr t2);exact⟨_,_,one (two n_ (ZP h ⟨p2,sm g1⟩ t1 c2 t2)),a1,a2,g2.le⟩
   ·have Sy:q0-1<base/\(q0-1)*v2<=(r0+v1)*base+u2:=by
     constructor
     ·exact Nat.not_le.1 λhh=>c2 (.inl hh)
     ·exact Jv.1 λhh=>c2 (.inr hh)
    obtain⟨a1,a2⟩:=h.ds.fin g1 (.inl Sy);exact⟨_,_,one (two n_ (ZO h Sy.1 t1 Sy.2)),a1,a2,g1.le⟩
 ·have SA:q0<base/\q0*v2<=r0*base+u2:=by
   constructor
   ·exact Nat.not_le.1 λhh=>c1 (.inl hh)
   ·exact Jv.1 λhh=>c1 (.inr hh)
  obtain⟨a1,a2⟩:=h.ds.fin g0 (.inl SA);exact⟨_,_,one (zero n_ (ZO h SA.1 o_ SA.2)),a1,a2,g0.le⟩
end
end
section
variable{Bs:ae}{j L R V T v1 v2 u2:Nat}
theorem GS{L R S t:Nat}(ht:t<L)(h:i<=t):(aj (cW base L i S R))[t]?=some (aR (R/base^t%base)):=kG (Cg ht h)
theorem Jy{L R S:Nat}(hi:i<L)(hd:d=S/base^i%base):eT prog 172 (aj (cW base L i S R)) i (aR d)=some (aj (cW base L (i+1) S R)):=by rw[yC _ i _ (by simp[aj,wL];omega),yD,yB hi hd]
def fT(j m R V q:Nat):Nat:=ga base j R (fR base m (R/base^j) V q)
def CG(j m R V q i:Nat):aM:=
 [(83,vI i),(82,vI m),(81,sl 1 m),(7,pR q),(9,pR (nR base q V i)),(10,aR (oC base (R/base^j) V q i)),(5,vI m),(0,us j m),(1,sl 1 m)]
def AO(j m L R V q i:Nat):aE:=[(0,.row (aj (cW base L (j+i) (fT j m R V q) R)) 172 1),(1,.view (aj (aa base m V)))]
section
variable{e q:Nat}(h:DG j e L R V T v1 v2 u2)(hq:q<base)(pH:q*V<R/base^j+V)
include h hq pH
omit hq in
theorem DG.qle:q*V<=R/base^j+base^(e+3):=by have h1:V<=base^(e+3):=dc (jD h.hV) (c7 d_ o_);omega
omit hq in
theorem DG.sub(hi:i<=e+2):aD prog 236 [aR (R/base^j/base^i%base),aR ((nR base q V i+q*(V/base^i%base))%base),aR (oC base (R/base^j) V q i)]
  (.tuple #[aR (fT j (e+2) R V q/base^(j+i)%base),aR (oC base (R/base^j) V q (i+1))]):=by
 have hb:oC base (R/base^j) V q i<=1:=MF _ _ _;have:=YT (x:=R/base^j/base^i%base) (y:=(nR base q V i+q*(V/base^i%base))%base) (b:=oC base (R/base^j) V q i) (cE _ d_) (cE _ d_) hb;rw[aII d_ (h.qle pH) hi,aIJ d_]at this;unfold fT;rw[wZ d_];exact this
theorem aIY(hi:i<e+2):
  af prog Bs 159 (aF (ag f234 2)) (CG j (e+2) R V q i) (AO j (e+2) L R V q i) 2 ⟨.normal,CG j (e+2) R V q (i+1),AO j (e+2) L R V q (i+1),2⟩:=by
 have hL:=h.hL;have h63:=h.h63;have wR:=h.sub pH (show i<=e+2 by omega);have hc:=Zx (B:=base) d_ hq V i;have vh:=aID (B:=base) d_ q V i;have hv:V/base^i%base<base:=cE _ d_;have bK:eT prog 172 (aj (cW base L (j+i) (fT j (e+2) R V q) R)) (j+i) (aR (fT j (e+2) R V q/base^(j+i)%base))=some (aj (cW base L (j+(i+1)) (fT j (e+2) R V q) R)):=Jy o_ rfl;have SB:=DG.vd (V:=V) hi;have SC:(aj (cW base L (j+i) (fT j (e+2) R V q) R))[j+i]?=some (aR (R/base^j/base^i%base)):=by rw[<-GN];exact GS o_ (bh _)
 generalize R/base^j/base^i%base=x at *;generalize V/base^i%base=y at *;generalize hC:nR base q V i=C at *;have hp:q*y<18446744069414584321:=by have h1:q*y<=(base-1)*(base-1):=Cr o_ o_;exact eX h1 d_
 have hs:C+q*y<18446744073709551616:=by unfold base at hc;omega
 have e1:CG j (e+2) R V q i=[(83,vI i),(82,vI (e+2)),(81,sl 1 (e+2)),(7,pR q),(9,pR C),(10,aR (oC base (R/base^j) V q i)),(5,vI (e+2)),(0,us j (e+2)),(1,sl 1 (e+2))]:=by unfold CG;rw[hC]
 rw[e1];generalize hP:q*y=W at *;exact az [.lt 84 i (e+2) true (by simp[hi]),.ix f234 86 1 (e+2) i hi k_,.ld f234 87 172 1 i (.view (aj (aa base (e+2) V))) (aR y) rfl (by rw[fN];exact SB) k_,.wr 91 .u64 (y:Int) (y:Int) (qM (lD hv d_)),.wr 92 .u64 ((q:Int)*(y:Int)) (W:Int) (by rw[<-nM,hP];exact qM o_),.wr 93 .u64 ((C:Int)+(W:Int)) ((C+W:Nat):Int) (by rw[<-vt];exact qM hs),.wI f234 99 0 j (e+3) j i o_ k_,.ld f234 100 172 0 (j+i) (.row (aj (cW base L (j+i) (fT j (e+2) R V q) R)) 172 1) (aR x) rfl (by rw[fN];exact SC) k_,.wr 102 .u32 ((C+W:Nat):Int) (((C+W)%base:Nat):Int) (by rw[nr];unfold base;omega),wR.at 104,.wI f234 107 0 j (e+3) j i o_ k_,.st f234 100107 172 0 (j+i) (.row (aj (cW base L (j+i) (fT j (e+2) R V q) R)) 172 1) (aR (fT j (e+2) R V q/base^(j+i)%base)) (.row (aj (cW base L (j+(i+1)) (fT j (e+2) R V q) R)) 172 1) rfl bK rfl k_,.quo 109 .u64 (((C+W:Nat):Int).fdiv ((2:Int)^32)) ((nR base q V (i+1):Nat):Int) (by rw[rO _ d_,<-vh];unfold base;omega),.sum 110 i 1 (i+1) rfl o_]
omit h hq pH in
theorem aIZ:AO j (e+2) L R V q 0=gQ L R (e+2) V:=by unfold AO gQ fT;rw[ja,Nb d_]
theorem aI0:af prog Bs 159 (.block 2 (ag f234 2)) (CG j (e+2) R V q 0) (gQ L R (e+2) V) 2 ⟨.normal,CG j (e+2) R V q (e+2),AO j (e+2) L R V q (e+2),2⟩:=by
 rw[<-aIZ (q:=q)];exact bO (id:=2) (ck (b:=aF (ag f234 2)) (r:=⟨.exit 2,CG j (e+2) R V q (e+2),AO j (e+2) L R V q (e+2),2⟩) (e+2) (CG j (e+2) R V q) (AO j (e+2) L R V q) (λi t _=>jO (l:=AO j (e+2) L R V q i) (m:=AO j (e+2) L R V q 0) rfl t)
  (λi hi=>aIY h hq pH hi) (az [.lt 84 (e+2) (e+2) false s_]) n_)
end
def nu(j m R V q:Nat):Nat:=ga base j R ((fR base m (R/base^j) V q+V)%base^(m+1))
def GV(j m R V q i:Nat):aM:=
 [(131,vI i),(130,vI m),(129,sl 1 m),(13,aR (eL base (fR base m (R/base^j) V q) V i)),(7,pR (q-1)),(5,vI m),(0,us j m),(1,sl 1 m)]
def AP(j m L R V q i:Nat):aE:=[(0,.row (aj (cW base L (j+i) (nu j m R V q) (fT j m R V q))) 172 1),(1,.view (aj (aa base m V)))]
section
variable{e q:Nat}(h:DG j e L R V T v1 v2 u2)
include h
theorem aI1(hi:i<e+2):
  af prog Bs 159 (aF (ag f234 4)) (GV j (e+2) R V q i) (AP j (e+2) L R V q i) 2 ⟨.normal,GV j (e+2) R V q (i+1),AP j (e+2) L R V q (i+1),2⟩:=by
 have hL:=h.hL;have h63:=h.h63;have hc:=As (B:=base) d_ (fR base (e+2) (R/base^j) V q) V i;have yF:=Ji (x:=fR base (e+2) (R/base^j) V q/base^i%base) (y:=V/base^i%base) (c:=eL base (fR base (e+2) (R/base^j) V q) V i) (cE _ d_) (cE _ d_) (eX hc d_);rw[Sk d_ (show i<=e+2 by omega),Ep d_]at yF;have bK:eT prog 172 (aj (cW base L (j+i) (nu j (e+2) R V q) (fT j (e+2) R V q))) (j+i) (aR ((fR base (e+2) (R/base^j) V q+V)%base^(e+2+1)/base^i%base))=some (aj (cW base L (j+(i+1)) (nu j (e+2) R V q) (fT j (e+2) R V q))):=
  Jy o_ (by unfold nu;rw[wZ d_])
 have SB:=DG.vd (V:=V) hi;have SC:(aj (cW base L (j+i) (nu j (e+2) R V q) (fT j (e+2) R V q)))[j+i]?=some (aR (fR base (e+2) (R/base^j) V q/base^i%base)):=by have:=GS (L:=L) (i:=j+i) (R:=fT j (e+2) R V q) (S:=nu j (e+2) R V q) (t:=j+i) o_ (bh _);rw[this];unfold fT;rw[wZ d_]
 exact az [.lt 132 i (e+2) true (by simp[hi]),.ix f234 134 1 (e+2) i hi k_,.ld f234 135 172 1 i (.view (aj (aa base (e+2) V))) (aR (V/base^i%base)) rfl (by rw[fN];exact SB) k_,.wI f234 141 0 j (e+3) j i o_ k_,.ld f234 142 172 0 (j+i) (.row (aj (cW base L (j+i) (nu j (e+2) R V q) (fT j (e+2) R V q))) 172 1) (aR (fR base (e+2) (R/base^j) V q/base^i%base)) rfl (by rw[fN];exact SC) k_,yF.at 145,.wI f234 148 0 j (e+3) j i o_ k_,.st f234 100148 172 0 (j+i) (.row (aj (cW base L (j+i) (nu j (e+2) R V q) (fT j (e+2) R V q))) 172 1) (aR ((fR base (e+2) (R/base^j) V q+V)%base^(e+2+1)/base^i%base)) (.row (aj (cW base L (j+(i+1)) (nu j (e+2) R V q) (fT j (e+2) R V q))) 172 1) rfl bK rfl k_,.sum 149 i 1 (i+1) rfl o_]
omit h in
theorem aI2:AP j (e+2) L R V q 0=gQ L (fT j (e+2) R V q) (e+2) V:=by unfold AP gQ nu;rw[ja,<-Zy (B:=base) d_ j R (fR base (e+2) (R/base^j) V q)];unfold fT;rw[Nb d_]
theorem aI3:af prog Bs 159 (.block 4 (ag f234 4)) (GV j (e+2) R V q 0) (gQ L (fT j (e+2) R V q) (e+2) V) 2 ⟨.normal,GV j (e+2) R V q (e+2),AP j (e+2) L R V q (e+2),2⟩:=by
 rw[<-aI2 (q:=q)];exact bO (id:=4) (ck (b:=aF (ag f234 4)) (r:=⟨.exit 4,GV j (e+2) R V q (e+2),AP j (e+2) L R V q (e+2),2⟩) (e+2) (GV j (e+2) R V q) (AP j (e+2) L R V q) (λi t _=>jO (l:=AP j (e+2) L R V q i) (m:=AP j (e+2) L R V q 0) rfl t)
  (λi hi=>aI1 h hi) (az [.lt 132 (e+2) (e+2) false s_]) n_)
end
noncomputable def ZQ{r:Nat}(h:DG j e L R V T v1 v2 u2)(hq:q<base)(pH:q*V<R/base^j+V)
  (hg:af prog Bs 159 (.block 0 (ag f234 0)) (kH j (e+2) (T/v1) (T%v1)) (gQ L R (e+2) V) 2 ⟨.normal,kH j (e+2) q r,gQ L R (e+2) V,2⟩) (more:bH prog Bs 159):bH prog Bs 159:=
 have hL:=h.hL;have h63:=h.h63;have hx:R/base^j/base^(e+2)%base<base:=cE _ d_;have hy:R/base^j/base^(e+1)%base<base:=cE _ d_;have kz:v1<base:=h.ds.CC;have EH:(v1:Int)≠0:=by have:=h.ds.top;unfold base at this;omega
 have hT:T<18446744073709551616:=by
  rw[<-h.ZN];have:R/base^j/base^(e+2)%base*base<=(base-1)*base:=eZ _ o_;have e3:(base-1)*base=18446744069414584320:=by decide
  rw[e3]at this;clear e3;unfold base at *;omega
 have hc:=Zx (B:=base) d_ hq V (e+2);have h0:V/base^(e+2)%base=0:=qG h.hV (bh _) d_;have wR:=h.sub pH (bh (e+2))
 have aI4:aD prog 236 [aR (R/base^j/base^(e+2)%base),aR (nR base q V (e+2)),aR (oC base (R/base^j) V q (e+2))]
   (.tuple #[aR (fT j (e+2) R V q/base^(j+(e+2))%base),aR (oC base (R/base^j) V q (e+3))]):=by
  rw[h0,Nat.mul_zero,ja (nR base q V (e+2)),dJ hc]at wR;exact wR
 have iS:(aj (cW base L (j+(e+2)) (fT j (e+2) R V q) R))[j+(e+2)]?=some (aR (R/base^j/base^(e+2)%base)):=by rw[<-GN];exact GS o_ (bh _)
 have bK:eT prog 172 (aj (cW base L (j+(e+2)) (fT j (e+2) R V q) R)) (j+(e+2)) (aR (fT j (e+2) R V q/base^(j+(e+2))%base))=some (aj (aa base L (fT j (e+2) R V q))):=by
  rw[Jy o_ rfl,show j+(e+2)+1=j+(e+3)by omega,EG d_]
  ·have:=h.hR;have h2:=GM (B:=base) d_ (j:=j) R this;rw[aIE]at h2;exact h2
  ·exact GM d_ R (Si d_);
 .wI f234 20 0 j (e+3) j (e+2) o_ k_::.ld f234 21 172 0 (j+(e+2)) (.row (aj (aa base L R)) 172 1) (aR (R/base^j/base^(e+2)%base)) rfl (by rw[fN];exact h.ud (bh _)) k_::
 .wr 22 .u64 ((R/base^j/base^(e+2)%base:Nat):Int) ((R/base^j/base^(e+2)%base:Nat):Int) (qM (lD hx d_))::
 .wr 23 .u64 (((R/base^j/base^(e+2)%base:Nat):Int)*2^32) ((R/base^j/base^(e+2)%base*base:Nat):Int) (Su hx)::.eW 26 (e+2) 1 (e+1) rfl o_::
 .wI f234 27 0 j (e+3) j (e+1) o_ k_::.ld f234 28 172 0 (j+(e+1)) (.row (aj (aa base L R)) 172 1) (aR (R/base^j/base^(e+1)%base)) rfl (by rw[fN];exact h.ud o_) k_::
 .wr 29 .u64 ((R/base^j/base^(e+1)%base:Nat):Int) ((R/base^j/base^(e+1)%base:Nat):Int) (qM (lD hy d_))::.quo 30 .u64 _ ((T:Nat):Int) ((Sv hx hy).trans (by rw[h.ZN]))::
 .eW 34 (e+2) 1 (e+1) rfl o_::.ix f234 35 1 (e+2) (e+1) o_ k_::.ld f234 36 172 1 (e+1) (.view (aj (aa base (e+2) V))) (aR v1) rfl (by rw[fN,<-h.Sw];exact DG.vd o_) k_::
 .wr 37 .u64 (v1:Int) (v1:Int) (qM (lD kz d_))::.vm f234 38 .u64 (T:Int) v1 ((T/v1:Nat):Int) EH (by rw[Az o_,<-te];exact qM (eX (tf _ _) hT)) k_::
 .eW 42 (e+2) 1 (e+1) rfl o_::.ix f234 43 1 (e+2) (e+1) o_ k_::.ld f234 44 172 1 (e+1) (.view (aj (aa base (e+2) V))) (aR v1) rfl (by rw[fN,<-h.Sw];exact DG.vd o_) k_::
 .wr 45 .u64 (v1:Int) (v1:Int) (qM (lD kz d_))::.Aw f234 46 .u64 (T:Int) v1 ((T%v1:Nat):Int) EH (by rw[yJ o_];rfl) k_::
 .code 0 _ _ _ _ _ hg::.rw 9 (.int .u64 0) (pR (nR base q V 0)) (by rw[aIC];rfl)::.rw 10 (.int .u32 0) (aR (oC base (R/base^j) V q 0)) (by unfold oC;rw[RD];rfl)::
 .code 2 _ _ _ _ _ (aI0 h hq pH)::.wI f234 116 0 j (e+3) j (e+2) o_ k_::.ld f234 117 172 0 (j+(e+2)) (.row (aj (cW base L (j+(e+2)) (fT j (e+2) R V q) R)) 172 1) (aR (R/base^j/base^(e+2)%base)) rfl (by rw[fN];exact iS) k_::
 .wr 119 .u32 ((nR base q V (e+2):Nat):Int) ((nR base q V (e+2):Nat):Int) (by rw[nr];unfold base at hc ⊢;omega)::aI4.at 121::.wI f234 124 0 j (e+3) j (e+2) o_ k_::
 .st f234 100124 172 0 (j+(e+2)) (.row (aj (cW base L (j+(e+2)) (fT j (e+2) R V q) R)) 172 1) (aR (fT j (e+2) R V q/base^(j+(e+2))%base)) (.row (aj (aa base L (fT j (e+2) R V q))) 172 1) rfl bK rfl k_::more
theorem aI5{g c':Nat}{vv:i_}(h:DG j e L R V T v1 v2 u2)(hg:w.heap[g]?=some (.cells cur 172 (0,0)))(hn:e+3<=c')(mA:j+c'=cap)(jx:cap<=maxLen)(bE:cur.size=cap*1)
  (hc:cur.toList.take (aj (aa base L R)).length=aj (aa base L R)) (hv:c8 w vv (e+2) (aj (aa base (e+2) V))) (bd:∀ b o c,vv=.slice (some ⟨b,o,none⟩) (e+2) c->b≠g) :
  Calls prog 234 #[.slice (some ⟨g,j,none⟩) (e+3) c',vv] w λex w'=>ex=.returned (aR (R/base^j/V))/\Au g w w'/\∃ fP,w'.heap[g]?=some (.cells fP 172 (0,0))/\fP.size=cap*1/\
   fP.toList.take (aj (aa base L (ga base j R (R/base^j%V)))).length=aj (aa base L (ga base j R (R/base^j%V))):=by
 obtain⟨q,r,GW,hq,pH,hle⟩:=aIX (Bs:=ae.vl w g) h;have hU:=h.ds.hU;have kY:=aIL (B:=base) d_ hq h.hV hU;have hL:=h.hL;have h63:=h.h63;have aT9:q<18446744073709551616:=lD hq d_;have key:∀(qq:Nat) (S:Nat) (rs:bH prog (ae.vl w g) 159),qq=R/base^j/V->S=ga base j R (R/base^j%V)->
   ou (gD (P:=prog) f234 100 (us j (e+2)::rM 1 [cA.row vv (e+2) (aj (aa base (e+2) V))]) ((0,.row (aj (aa base L R)) 172 1)::uf 1 [cA.row vv (e+2) (aj (aa base (e+2) V))]) (s7 1 [cA.row vv (e+2) (aj (aa base (e+2) V))]) rs) [(0,.row (aj (aa base L S)) 172 1)] =
    ow (gD f234 100 (us j (e+2)::rM 1 [cA.row vv (e+2) (aj (aa base (e+2) V))]) ((0,.row (aj (aa base L R)) 172 1)::uf 1 [cA.row vv (e+2) (aj (aa base (e+2) V))]) (s7 1 [cA.row vv (e+2) (aj (aa base (e+2) V))]) rs) (aR qq) [(0,.row (aj (aa base L S)) 172 1)]->
   Calls prog 234 #[.slice (some ⟨g,j,none⟩) (e+3) c',vv] w λex w'=>ex=.returned (aR (R/base^j/V))/\Au g w w'/\∃ fP,w'.heap[g]?=some (.cells fP 172 (0,0))/\fP.size=cap*1/\
    fP.toList.take (aj (aa base L (ga base j R (R/base^j%V)))).length=aj (aa base L (ga base j R (R/base^j%V))):=by
  rintro qq S rs rfl rfl Ee
  exact aIs (ms:=[]) (cells':=aj (aa base L (ga base j R (R/base^j%V)))) (v:=aR (R/base^j/V)) mixed func234 hg jx bE hc (fq _) (fq _) hn mA [cA.row vv (e+2) (aj (aa base (e+2) V))]
   (λs hs=>by simp at hs;subst hs;exact⟨hv,fq _⟩) (λs hs=>by simp at hs;subst hs;exact bd) 100 (N:=159) k_ Ee λav Sf v' w' _ jW h1 h2 _ _=>⟨by rw[jW.fh rfl],h1,h2⟩
 by_cases hb:R/base^j<q*V
 ·rw[au hb]at kY;obtain⟨e1,e2⟩:=ZB (B:=base) (m:=e+2) d_ h.hV hU pH hb;have e3:nu j (e+2) R V q=ga base j R (R/base^j%V):=by unfold nu;rw[e2]
  have h0:V/base^(e+2)%base=0:=qG h.hV (bh _) d_;have Jz:=Sk (B:=base) (m:=e+2) (V:=V) (D:=fR base (e+2) (R/base^j) V q) d_ (bh (e+2));rw[h0,ja (fR base (e+2) (R/base^j) V q/base^(e+2)%base)]at Jz;have iS:(aj (cW base L (j+(e+2)) (nu j (e+2) R V q) (fT j (e+2) R V q)))[j+(e+2)]?=some (aR (fR base (e+2) (R/base^j) V q/base^(e+2)%base)):=by have:=GS (L:=L) (i:=j+(e+2)) (R:=fT j (e+2) R V q) (S:=nu j (e+2) R V q) (t:=j+(e+2)) o_ (bh _);rw[this];unfold fT;rw[wZ d_]
  have bK:eT prog 172 (aj (cW base L (j+(e+2)) (nu j (e+2) R V q) (fT j (e+2) R V q))) (j+(e+2)) (aR ((fR base (e+2) (R/base^j) V q+V)%base^(e+2+1)/base^(e+2)%base))=some (aj (aa base L (nu j (e+2) R V q))):=by
   rw[Jy o_ (by unfold nu;rw[wZ d_]),show j+(e+2)+1=j+(e+3)by omega,EG d_]
   ·exact GM d_ R (Si d_)
   ·exact GM d_ R (cE _ (cF d_))
  have hd:fR base (e+2) (R/base^j) V q/base^(e+2)%base<base:=cE _ d_;have gj:=As (B:=base) d_ (fR base (e+2) (R/base^j) V q) V (e+2);have hbk:=aI3 (Bs:=ae.vl w g) (q:=q) h;have AQ:q-1=R/base^j/V:=by rw[e1,Na]
  have o5:0<q:=by rw[e1];exact SD _
  refine key (q-1) (nu j (e+2) R V q) (ZQ h hq pH GW [.rw 126 (.bool (((oC base (R/base^j) V q (e+3):Nat):Int)!=0)) b_ (by rw[show e+3=e+2+1 from rfl,kY];rfl),.wr 128 .u64 ((q:Int)-1) ((q-1:Nat):Int) (by rw[jQ];omega),.rw 13 (.int .u32 0) (aR (eL base (fR base (e+2) (R/base^j) V q) V 0)) (by rw[ME];rfl),.code 4 _ _ _ _ _ hbk,.wI f234 152 0 j (e+3) j (e+2) o_ k_,.ld f234 153 172 0 (j+(e+2)) (.row (aj (cW base L (j+(e+2)) (nu j (e+2) R V q) (fT j (e+2) R V q))) 172 1) (aR (fR base (e+2) (R/base^j) V q/base^(e+2)%base)) rfl (by rw[fN];exact iS) k_,.wr 155 .u32 (((fR base (e+2) (R/base^j) V q/base^(e+2)%base:Nat):Int)+((eL base (fR base (e+2) (R/base^j) V q) V (e+2):Nat):Int)) (((fR base (e+2) (R/base^j) V q+V)%base^(e+2+1)/base^(e+2)%base:Nat):Int)
    (by rw[<-Jz,<-vt,nr];unfold base;omega),.wI f234 156 0 j (e+3) j (e+2) o_ k_,
   .st f234 100156 172 0 (j+(e+2)) (.row (aj (cW base L (j+(e+2)) (nu j (e+2) R V q) (fT j (e+2) R V q))) 172 1) (aR ((fR base (e+2) (R/base^j) V q+V)%base^(e+2+1)/base^(e+2)%base)) (.row (aj (aa base L (nu j (e+2) R V q))) 172 1) rfl bK rfl k_,
   .wr 158 .u32 ((q-1:Nat):Int) ((q-1:Nat):Int) (by rw[nr];unfold base at hq;omega)]) AQ e3 k_
 ·rw[al hb]at kY;obtain⟨e1,e2⟩:=ZA (B:=base) (m:=e+2) d_ h.hV hU hle hb;have e3:fT j (e+2) R V q=ga base j R (R/base^j%V):=by unfold fT;rw[e2]
  exact key q (fT j (e+2) R V q) (ZQ h hq pH GW [.rw 126 (.bool (((oC base (R/base^j) V q (e+3):Nat):Int)!=0)) a_ (by rw[show e+3=e+2+1 from rfl,kY];rfl),.wr 158 .u32 (q:Int) (q:Int) (by rw[nr];unfold base at hq;omega)]) e1 e3 k_
end
section
variable{Bs:ae}{N:Nat}
theorem Nj{y:m_}(ho:di o.op=some y){n M:Nat}{x:Obj}(hx:x.reads=true)(hc:x.cells=aj (aa base M a))(hnM:n<=M)(ha:a<base^n)(h63:n<=9223372036854775807)(hd:nd base a=d):
  cz prog Bs o [.func (.func 203) #[] #[],sl k n] [(k,some x)] (sl k d) []:=by
 subst hd;refine jP (fi:=[]) (ca:=[]) ho k_ λι c w hm hn args' dz=>?_;obtain⟨v,rfl,h1⟩:=mz dz;have hk:c k=some x:=hn _ (aL ..);have hr:=ox (len:=n) hm hk hx (by rw[hc];exact fq _) (λh=>h) h1;have e:(aj (aa base M a)).take n=aj (aa base n a):=by unfold aj;rw[<-Cd,Jc hnM]
 rw[hc,lW,e]at hr;refine(YM hr ha h63).mono ?_
 rintro e w' ⟨rfl,hb⟩
 refine⟨ι,_,rfl,Map.le.refl _,?_,hm.call hb⟩;have jR:=jd (B:=base) d_ ha;rcases h1.gR rfl with ⟨q1,q2,_,_,q5⟩|⟨b,oo,cap,c',q1,q2,q3,q5⟩
 ·rw[q5];have:nd base a=0:=by omega
  rw[this];exact .slcN q1
 ·rw[q5];exact .slc q1 o_ q3
theorem ZR{y:m_}(ho:di o.op=some y){n:Nat}(hx:pQ x1 a)(hk:k<=31)(h1:nd base a<35184372088832)(oj:nd base a=n)(kn:Nat):
  cz prog Bs o [.func (.func 233) #[] #[],sl k1 n,vI k] [(k1,some x1),(kn,none)] (sl kn (n+1)) [(kn,.row (aj (aa base (n+1) (a*2^k))) 172 1)]:=by
 subst oj;refine jP (fi:=[]) (ca:=[]) ho k_ λι cc w hm hn args' aU=>?_;rw[jy,gY]at aU;obtain⟨va,vb,rfl,hv,iu⟩:=iY aU;rw[iu.fh rfl];refine(aIQ (AK hm (hn _ (aL ..)) hx hv) hk h1).mono ?_
 rintro e w' ⟨v,rfl,h1,h2⟩
 obtain⟨av,q1,q2,q3⟩:=En hm h2 (k:=kn) (hn _ (bw _ (aL ..))) h1 (fq _);exact⟨av,v,rfl,q1,q3,q2⟩
def aQ.part(fn:Func)(key k n l h s m off:Nat)(yo:l*s=off)(hh:h<=n)(hm:l+m=h)(h0:0<m)(ho:rN P (ay fn key)=some (true,true,s)):aQ P B N:=
 .step key (ay fn key) [sl k n,vI l,vI h] [] (.slice (some ⟨k,off,some 7⟩) m l) [] (by
  subst yo;have:=Gm (B:=B) ho (k:=k) (off:=0) (n:=n) (cc:=0) (l:=l) (h:=h) n_ n_ o_ hh (.inl o_);have e1:h-l=m:=by omega
  rw[e1,jL,jL]at this;exact this)
end
structure DV(e L A V:Nat):Prop where
 hV:V<base^(e+2)
 top:base<=2*(V/base^(e+1))
 hL:e+2+1<=L
 hA:A<V*base^(L-(e+2))
 h63:L<35184372088832
theorem DV.pos{L V:Nat}(h:DV e L A V):0<V:=by
 rcases nq V with e1|e1
 ·have:=h.hA;rw[e1,lB]at this;omega
 ·exact e1
theorem DV.dg{L V:Nat}(h:DV e L A V)(hj:j+(e+2)+1<=L):
  DG j e L (A%(V*base^(j+1))) V (A%(V*base^(j+1))/base^j/base^(e+1)) (V/base^(e+1)) (V/base^e%base) (A%(V*base^(j+1))/base^j/base^e%base) where
 ds:={ hB:=by decide,hU:=ZE d_ h.pos A j,hT:=rfl,hu:=rfl,kz:=rfl,iu:=rfl,top:=h.top,CC:=by have:=h.hV;rw[iv (cF d_),cK,<-dr];exact this }
 hL:=hj
 hV:=h.hV
 h63:=h.h63
section
variable{Bs:ae}{e L A V M:Nat}
def GX(e L p j:Nat):aM:=[(13,da j),(12,sl 4 p),(10,sl 3 L),(9,sl 2 (e+2)),(11,vI (e+2))]
def AR(L A V M p j:Nat):aE:=[(3,.row (aj (aa base L (A%(V*base^j)))) 172 1),(4,.row (aj (gv base p j (A/V))) 172 1),(2,.row (aj (aa base M V)) 172 1)]
theorem aI6(h:DV e L A V)(hM:e+2<=M){p:Nat}(hp:p+(e+2)=L)(hj:j<p):
  af prog Bs 110 (aF (ag f215 0)) (GX e L p (j+1)) (AR L A V M p (j+1)) 5 ⟨.normal,GX e L p j,AR L A V M p j,5⟩:=by
 have h63:=h.h63;have hdg:=h.dg (j:=j) o_;have hr:=ZC (B:=base) d_ A V j;have hq:=ZD (B:=base) A V j;have bK:eT prog 172 (aj (gv base p (j+1) (A/V))) j (aR (A/V/base^j%base))=some (aj (gv base p j (A/V))):=by rw[yC _ _ _ (by simp[aj,MI];exact hj),yD,MK hj rfl]
 have CH:(aj (aa base M V)).take (e+2)=aj (aa base (e+2) V):=by unfold aj;rw[<-Cd,Jc hM]
 have hw:cz prog Bs (ay f215 76) [.func (.func 234) #[] #[],.slice (some ⟨3,j,some 7⟩) (e+3) j,sl 2 (e+2)] [(3,some (.row (aj (aa base L (A%(V*base^(j+1))))) 172 1)),(2,some (.row (aj (aa base M V)) 172 1))]
   (aR (A/V/base^j%base)) [(3,.row (aj (aa base L (A%(V*base^j)))) 172 1)]:=by
  refine aIu (x:=.func 234) (Sg:=e+2) k_ k_ d_ o_ (fq _) (fq _) rfl rfl (fq _) o_ λw g cap cur c' v2 hg lq mA jx bE hc hv bd=>?_;have hv:c8 w v2 (e+2) ((aj (aa base M V)).take (e+2)):=hv;rw[CH]at hv;have:=aI5 hdg hg lq mA jx bE hc hv bd;rw[hq,hr]at this;exact this
 exact az [.rw 62 (da (j+1)) (vI j) (dV j),.ge 63 j 0 true s_,.rw 67 (da (j+1)) (vI j) (dV j),.rw 69 (da (j+1)) (vI j) (dV j),.rw 70 (da (j+1)) (vI j) (dV j),.sum 72 j (e+2) (j+(e+2)) rfl o_,.sum 73 (j+(e+2)) 1 (j+(e+3)) rfl o_,.part f215 74 3 L j (j+(e+3)) 1 (e+3) j (gn j) o_ rfl o_ k_,.step 76 _ _ _ _ _ hw,.ix f215 77 4 p j hj k_,.st f215 100077 172 4 j (.row (aj (gv base p (j+1) (A/V))) 172 1) (aR (A/V/base^j%base)) (.row (aj (gv base p j (A/V))) 172 1) rfl bK rfl k_,.rw 64 (da (j+1)) (vI j) (dV j),.wr 65 .i64 ((j:Int)-1) ((j:Int)-1) (oB o_)]
theorem aI7(h:DV e L A V)(hM:e+2<=M){p:Nat}(hp:p+(e+2)=L):
  af prog Bs 110 (.block 0 (ag f215 0)) (GX e L p p) (AR L A V M p p) 5 ⟨.normal,GX e L p 0,AR L A V M p 0,5⟩:=by
 have:=ck (P:=prog) (B:=Bs) (N:=110) (b:=aF (ag f215 0)) (next:=5) (r:=⟨.exit 0,GX e L p 0,AR L A V M p 0,5⟩) p (λi=>GX e L p (p-i)) (λi=>AR L A V M p (p-i)) (λi t _=>jO (l:=AR L A V M p (p-i)) (m:=AR L A V M p (p-0)) rfl t)
  (λi hi=>by
   have e1:p-i=(p-(i+1))+1:=by omega
   simp only[e1];exact aI6 h hM hp o_)
  (by simp only[vo];exact az [.rw 63 (.bool (decide (((0:Nat):Int)-1>=0))) a_ rfl]) n_
 exact bO (id:=0) this
section
variable{m X k p:Nat}
def GY(m L k i:Nat):aM:=[(83,vI i),(82,vI m),(14,sl 3 m),(10,sl 3 L),(8,vI k)]
def yN(L X k i:Nat):aE:=[(3,.row (aj (cW base L i (X/2^k) X)) 172 1)]
theorem aI8(hi:i<m)(ZS:m+1<=L)(hk:k<=31)(h63:L<35184372088832):
  af prog Bs 110 (aF (ag f215 2)) (GY m L k i) (yN L X k i) 5 ⟨.normal,GY m L k (i+1),yN L X k (i+1),5⟩:=by
 have uZ:(aj (cW base L i (X/2^k) X))[i+1]?=some (aR (X/base^(i+1)%base)):=GS o_ o_;have sV:(aj (cW base L i (X/2^k) X))[i]?=some (aR (X/base^i%base)):=GS o_ o_;have hd:=ZF (B:=base) (k:=k) (X:=X) (i:=i) d_ ⟨2^(32-k),by rw[<-eh,show k+(32-k)=32 by omega]⟩;have bK:eT prog 172 (aj (cW base L i (X/2^k) X)) i (aR (X/2^k/base^i%base))=some (aj (cW base L (i+1) (X/2^k) X)):=Jy o_ rfl;have hx:X/base^(i+1)%base<base:=cE _ d_;have hy:X/base^i%base<base:=cE _ d_;generalize X/base^(i+1)%base=x at *;generalize X/base^i%base=y at *;have hb:(x*base+y)/2^k<18446744073709551616:=eX (tf _ _) (by unfold base at *;omega);have kU:=Sv hx hy;have hs:((x*base+y:Nat):Int).fdiv (2^(min k IntKind.u64.bits))=(((x*base+y)/2^k:Nat):Int):=by rw[show min k IntKind.u64.bits=k from nh (by show k<=64;omega),rO _ (GJ d_),te,GK];rfl
 generalize (x*base+y)/2^k=z at *;exact az [.lt 84 i m true (by simp[hi]),.sum 90 i 1 (i+1) rfl o_,.ix f215 91 3 L (i+1) o_ k_,.ld f215 92 172 3 (i+1) (.row (aj (cW base L i (X/2^k) X)) 172 1) (aR x) rfl (by rw[fN];exact uZ) k_,.wr 93 .u64 (x:Int) (x:Int) (qM (lD hx d_)),.wr 94 .u64 ((x:Int)*2^32) ((x*base:Nat):Int) (Su hx),.ix f215 97 3 L i o_ k_,.ld f215 98 172 3 i (.row (aj (cW base L i (X/2^k) X)) 172 1) (aR y) rfl (by rw[fN];exact sV) k_,.wr 99 .u64 (y:Int) (y:Int) (qM (lD hy d_)),.quo 100 .u64 _ ((x*base+y:Nat):Int) kU,.shr f215 102 .u64 ((x*base+y:Nat):Int) (z:Int) k hs k_,.wr 103 .u32 (z:Int) ((X/2^k/base^i%base:Nat):Int) (by rw[nr,<-hd];unfold base;omega),.ix f215 104 3 m i hi k_,.st f215 100104 172 3 i (.row (aj (cW base L i (X/2^k) X)) 172 1) (aR (X/2^k/base^i%base)) (.row (aj (cW base L (i+1) (X/2^k) X)) 172 1) rfl bK rfl k_,.sum 105 i 1 (i+1) rfl o_]
theorem aI9(hX:X<base^m)(ZS:m+1<=L)(hk:k<=31)(h63:L<35184372088832):
  af prog Bs 110 (.block 2 (ag f215 2)) (GY m L k 0) [(3,.row (aj (aa base L X)) 172 1)] 5 ⟨.normal,GY m L k m,[(3,.row (aj (aa base L (X/2^k))) 172 1)],5⟩:=by
 have e0:yN L X k 0=[(3,.row (aj (aa base L X)) 172 1)]:=by unfold yN cW aa;simp
 have e1:yN L X k m=[(3,.row (aj (aa base L (X/2^k))) 172 1)]:=by unfold yN;rw[EG d_ hX (eX (tf _ _) hX)]
 rw[<-e0,<-e1];exact bO (id:=2) (ck (b:=aF (ag f215 2)) (r:=⟨.exit 2,GY m L k m,yN L X k m,5⟩) m (GY m L k) (yN L X k) (λi t _=>jO (l:=yN L X k i) (m:=yN L X k 0) rfl t)
  (λi hi=>aI8 hi ZS hk h63) (az [.lt 84 m m false s_]) n_)
end
end
section
variable{Bs:ae}{N:Nat}
theorem aJa{y:m_}(ho:di o.op=some y){n:Nat}(hx:pQ x1 a)(hd:0<d)(mH:d<base)(h1:nd base a<35184372088832)(oj:nd base a=n)(kn:Nat):
  cz prog Bs o [.func (.func 231) #[] #[],sl k1 n,aR d] [(k1,some x1),(kn,none)] (.tuple #[sl kn (nd base (a/d)),aR (a%d)]) [(kn,uk (a/d))]:=by
 subst oj;refine jP (fi:=[]) (ca:=[]) ho k_ λι cc w hm hn args' aU=>?_;rw[jy,gY]at aU;obtain⟨va,vb,rfl,hv,iu⟩:=iY aU;rw[iu.fh rfl];refine(aH0 (AK hm (hn _ (aL ..)) hx hv) hd mH h1).mono ?_
 rintro e w' ⟨v,rfl,h1,h2⟩
 obtain⟨av,q1,q2,q3⟩:=En hm h2 (k:=kn) (hn _ (bw _ (aL ..))) h1 (fq _);exact⟨av,_,rfl,q1,.tup (.cons q3 (.cons (.same rfl) .nil)),q2⟩
end
theorem ZT(h:a<base):aa base 1 a=[a]:=by simp[aa,dJ h]
theorem SE{vb:i_}(fZ:iw w va a)(kW:iw w vb b)(bW:a<b)(h1:nd base a<35184372088832)(h2:nd base b<35184372088832):
  Calls prog 215 #[va,vb] w λe w'=>e=.returned (.tuple #[.slice none 0 0,va])/\Below w.heap.size w w':=by
 have hl:∀ s∈[cA.row va (nd base a) (aj (aa base (nd base a) a)),cA.row vb (nd base b) (aj (aa base (nd base b) b))],s.OK w:=by
  intro s hs;simp at hs;rcases hs with rfl|rfl
  ·exact⟨fZ,fq _⟩
  ·exact⟨kW,fq _⟩
 have hc:pM a b<0:=by have:=@MW a b;omega
 refine lC (Q:=λe w'=>e=.returned (.tuple #[.slice none 0 0,va])/\Below w.heap.size w w') mixed func215 [cA.row va (nd base a) (aj (aa base (nd base a) a)),cA.row vb (nd base b) (aj (aa base (nd base b) b))] hl 100 (N:=110) k_
  (rs:=[(.step 18 (ay f215 18) _ _ _ _ (Nf (y:=.func 220) (k1:=0) (k2:=1) k_ k_ (w6 a) (w6 b) rfl λw va vb ha hb=>MX ha hb h1 h2):aQ prog (ae.at w) 110),.rw 19 (.bool (decide (pM a b<0))) b_ (by rw[aC hc])])
  (v:=.tuple #[.slice none 0 0,sl 0 (nd base a)]) (ms:=[]) k_ λav bX v' w' jW bo _ dz=>⟨?_,bo.base⟩
 obtain⟨cL,rfl,aU⟩:=jW.tS;obtain⟨p,q,hp,h3,h4⟩:=iY aU;cases dz with
 |cons h5 _=>
 have:q=va:=I6 h4 h5;have e:cL=#[p,q]:=vf.1 (by rw[hp]);rw[e,h3.fh rfl,this]
theorem SF{vb:i_}(fZ:iw w va a)(kW:iw w vb b)(bW:b<=a)(kJ:b≠0)(hb:b<base)(h1:nd base a<35184372088832):
  Calls prog 215 #[va,vb] w λe w'=>∃ vq vr,e=.returned (.tuple #[vq,vr])/\jB w w' vq (a/b)/\jB w w' vr (a%b)/\Below w.heap.size w w':=by
 have cS:nd base b=1:=by have h3:=jd (B:=base) (n:=1) d_ (by rw[Cw];exact hb);have h4:=wJ (B:=base) d_ kJ;omega
 have EI:c8 w vb 1 (aj (aa base 1 b)):=by have:=kW;unfold iw at this;rw[cS]at this;exact this
 have hl:∀ s∈[cA.row va (nd base a) (aj (aa base (nd base a) a)),cA.row vb 1 (aj (aa base 1 b))],s.OK w:=by
  intro s hs;simp at hs;rcases hs with rfl|rfl
  ·exact⟨fZ,fq _⟩
  ·exact⟨EI,fq _⟩
 have hc:¬pM a b<0:=by have:=@MW a b;omega
 have um:pQ (.view (aj (aa base 1 b))) b:=by have:=w6 b;rw[cS]at this;exact this
 have hr:a%b<base:=lD (cE _ (s8 kJ)) hb;have SG:cz prog (ae.at w) (ay f215 18) [.func (.func 220) #[] #[],sl 0 (nd base a),sl 1 1] [(0,some (.view (aj (aa base (nd base a) a)))),(1,some (.view (aj (aa base 1 b))))] (.int .i64 (pM a b)) []:=by have:=Nf (Bs:=ae.at w) (o:=ay f215 18) (f:=220) (y:=.func 220) (k1:=0) (k2:=1) (res:=.int .i64 (pM a b)) k_ k_ (w6 a) um rfl λw va vb ha hb=>MX ha hb h1 o_;rw[cS]at this;exact this
 refine lC (Q:=λe w'=>∃ vq vr,e=.returned (.tuple #[vq,vr])/\jB w w' vq (a/b)/\jB w w' vr (a%b)/\Below w.heap.size w w') mixed func215 [cA.row va (nd base a) (aj (aa base (nd base a) a)),cA.row vb 1 (aj (aa base 1 b))] hl 100 (N:=110) k_
  (rs:=[(.step 18 (ay f215 18) _ _ _ _ SG:aQ prog (ae.at w) 110),.rw 19 (.bool (decide (pM a b<0))) a_ (by rw[aO hc]),.ld f215 28 172 1 0 (.view (aj (aa base 1 b))) (aR b) rfl (by rw[fN,ZT hb];rfl) k_,.step 29 (ay f215 29) _ _ _ _ (aJa (y:=.func 231) (k1:=0) k_ (w6 a) (s8 kJ) hb h1 rfl 2),.bs f215 34 3 1 172 1 [0] (aR 0) [aR (a%b)] #[aR (a%b)] (.row (aj (aa base 1 (a%b))) 172 1) (by rw[ZT hr];rfl) (λv hv=>by simp at hv;subst hv;rfl) (λv hv=>by simp at hv;subst hv;rfl) k_ rfl o_ o_ k_,.step 35 (ay f215 35) _ _ _ _ (Nj (y:=.func 203) (k:=3) (n:=1) (M:=1) (a:=a%b) (x:=.row (aj (aa base 1 (a%b))) 172 1) k_ rfl rfl (bh 1) (by rw[Cw];exact hr) o_ rfl)])
  (v:=.tuple #[sl 2 (nd base (a/b)),sl 3 (nd base (a%b))]) (ms:=[(2,uk (a/b)),(3,.row (aj (aa base 1 (a%b))) 172 1)]) k_ λav bX v' w' jW bo dG _=>?_
 obtain⟨cL,rfl,aU⟩:=jW.tS;obtain⟨p,q,hp,h3,h4⟩:=iY aU;have e:cL=#[p,q]:=vf.1 (by rw[hp]);subst e;exact⟨p,q,rfl,wP bo (dG _ (aL ..)) (dQ d_ _) h3,wP bo (dG _ (bw _ (aL ..))) (by rw[Cw];exact hr) h4,bo.base⟩
theorem norm(bW:b<=a)(hb:nd base b=e+2)(h1:nd base a<35184372088831):
  ∃ k,k<=31/\32-bl (b/base^(e+1)%base)=k/\DV e (nd base a+1) (a*2^k) (b*2^k)/\nd base (b*2^k)=e+2/\b*2^k<base^(e+3):=by
 have ao:=dQ (B:=base) d_ b;rw[hb]at ao;have fG:base^(e+1)<=b:=YD d_ o_;have hp:0<base^(e+1):=cF d_;have hd:b/base^(e+1)%base=b/base^(e+1):=Eo ao;obtain⟨d,lG⟩:∃ d,d=b/base^(e+1):=⟨_,rfl⟩;have mH:d<base:=by rw[lG,<-hd];exact cE _ d_
 have CI:d≠0:=by have:=Ng fG hp;omega
 obtain⟨t,t1,t2,t3⟩:=aIR CI;have ht:t<=31:=by
  rcases eU t 32 with h|h
  ·omega
  ·have:=c7 (show 0<2 by decide) h;have e32:(2:Nat)^32=base:=by decide
   omega
 have gi:0<2^(31-t):=cF d_;have hV1:d*2^(31-t)<=b*2^(31-t)/base^(e+1):=by rw[CD hp,AM];refine eZ _ ?_;rw[lG];exact CE _ _
 have w7:base<=2*(b*2^(31-t)/base^(e+1)):=by
  have h3:2^t*2^(31-t)<=d*2^(31-t):=eZ _ t2;rw[<-eh,show t+(31-t)=31 by omega]at h3;have e31:base=2*2^31:=by decide
  omega
 have wY:b*2^(31-t)<base^(e+2):=by
  have h3:b<(d+1)*base^(e+1):=by rw[lG];exact(iv hp).1 (GL _)
  have h4:(d+1)*2^(31-t)<=base:=by have:(d+1)*2^(31-t)<=2^(t+1)*2^(31-t):=eZ _ t3;rw[<-eh,show t+1+(31-t)=32 by omega]at this;exact this
  have h5:b*2^(31-t)<(d+1)*base^(e+1)*2^(31-t):=AJ h3 gi;rw[AM]at h5;have h6:(d+1)*2^(31-t)*base^(e+1)<=base*base^(e+1):=eZ _ h4;rw[cK base,<-dr]at h6;exact cC h5 h6
 have EJ:e+2<=nd base a:=by rw[<-hb];exact je d_ bW
 refine⟨31-t,by omega,by rw[hd,<-lG,t1];omega,{ hV:=wY,top:=w7,hL:=by omega,hA:=?_,h63:=by omega },?_,cC wY (c7 d_ o_)⟩
 ·have ha:=dQ (B:=base) d_ a;have h3:a*2^(31-t)<base^nd base a*2^(31-t):=AJ ha gi;have h4:2^(31-t)*base^(e+1)<=b*2^(31-t):=by rw[cK];exact eZ _ fG
  have h5:2^(31-t)*base^(e+1)*base^(nd base a+1-(e+2))<=b*2^(31-t)*base^(nd base a+1-(e+2)):=eZ _ h4;rw[fK,<-eh,show e+1+(nd base a+1-(e+2))=nd base a by omega,cK]at h5;exact cC h3 h5
 ·refine Zl (jd d_ wY) ?_;rw[<-hb];exact je d_ (Ez _ gi)
theorem SH{vb:i_}(fZ:iw w va a)(kW:iw w vb b)(bW:b<=a)(hb:nd base b=e+2)(h1:nd base a<35184372088831):
  Calls prog 215 #[va,vb] w λe w'=>∃ vq vr,e=.returned (.tuple #[vq,vr])/\jB w w' vq (a/b)/\jB w w' vr (a%b)/\Below w.heap.size w w':=by
 obtain⟨k,hk,SI,GZ,Nk,hV3⟩:=norm bW hb h1;have pG:nd base b<35184372088831:=eX (je d_ bW) h1;have ao:=dQ (B:=base) d_ b;have aUa:=dQ (B:=base) d_ a;rw[hb]at ao;have D4:0<2^k:=cF d_;have JA:0<b:=by
  rcases nq b with h|h
  ·rw[h,qF]at hb;omega
  ·exact h
 have EI:c8 w vb (e+2) (aj (aa base (e+2) b)):=by have:=kW;unfold iw at this;rw[hb]at this;exact this
 have hl:∀ s∈[cA.row va (nd base a) (aj (aa base (nd base a) a)),cA.row vb (e+2) (aj (aa base (e+2) b))],s.OK w:=by
  intro s hs;simp at hs;rcases hs with rfl|rfl
  ·exact⟨fZ,fq _⟩
  ·exact⟨EI,fq _⟩
 have hc:¬pM a b<0:=by have:=@MW a b;omega
 have um:pQ (.view (aj (aa base (e+2) b))) b:=by have:=w6 b;rw[hb]at this;exact this
 have SG:cz prog (ae.at w) (ay f215 18) [.func (.func 220) #[] #[],sl 0 (nd base a),sl 1 (e+2)] [(0,some (.view (aj (aa base (nd base a) a)))),(1,some (.view (aj (aa base (e+2) b))))] (.int .i64 (pM a b)) []:=by have:=Nf (Bs:=ae.at w) (o:=ay f215 18) (f:=220) (y:=.func 220) (k1:=0) (k2:=1) (res:=.int .i64 (pM a b)) k_ k_ (w6 a) um rfl λw va vb ha hb=>MX ha hb o_ o_;rw[hb]at this;exact this
 have EJ:e+2<=nd base a:=by rw[<-hb];exact je d_ bW
 have aUb:nd base a=nd base a:=rfl;have lz:=aIV (x:=b/base^(e+1)%base) (cE _ d_);rw[SI]at lz;have gM:2<=e+2:=by omega
 obtain⟨p,hp⟩:∃ p,p+(e+2)=nd base a+1:=⟨nd base a+1-(e+2),by omega⟩;have Nl:=aI7 (Bs:=ae.at w) (M:=e+3) GZ o_ hp;have hA:=GZ.hA;rw[show nd base a+1-(e+2)=p by omega]at hA;have SJ:a*2^k%(b*2^k*base^p)=a*2^k:=dJ hA;have SK:a*2^k%(b*2^k*base^0)=a%b*2^k:=by rw[rP,gn,ZH]
 have hQ:a*2^k/(b*2^k)=a/b:=ZI _ _ D4;have aJb:a%b*2^k<base^(e+2):=by refine cC (AJ (cE _ JA) D4) (jD GZ.hV)
 have yw:=aI9 (Bs:=ae.at w) (L:=nd base a+1) (k:=k) aJb o_ hk o_;rw[RG _ D4]at yw;have JB:a/b<base^p:=by rw[<-hQ,iv GZ.pos,cK (base^p)];exact hA
 have G1:a%b<base^(e+2):=lD (cE _ JA) ao;unfold AR at Nl;rw[SJ,SK,hQ,MJ,Jh]at Nl;generalize hn:nd base a=n at *
 refine lC (Q:=λe w'=>∃ vq vr,e=.returned (.tuple #[vq,vr])/\jB w w' vq (a/b)/\jB w w' vr (a%b)/\Below w.heap.size w w') mixed func215 [cA.row va n (aj (aa base n a)),cA.row vb (e+2) (aj (aa base (e+2) b))] hl 100 (N:=110) k_
  (rs:=[(.step 18 (ay f215 18) _ _ _ _ SG:aQ prog (ae.at w) 110),.rw 19 (.bool (decide (pM a b<0))) a_ (by rw[aO hc]),.gm 23 (e+2) 1 false s_,.eW 39 (e+2) 1 (e+1) rfl o_,.ix f215 40 1 (e+2) (e+1) o_ k_,.ld f215 41 172 1 (e+1) (.view (aj (aa base (e+2) b))) (aR (b/base^(e+1)%base)) rfl (by rw[fN];exact DG.vd o_) k_,lz.at 42,.step 45 (ay f215 45) _ _ _ _ (ZR (y:=.func 233) (k1:=1) k_ um hk o_ hb 2),.step 46 (ay f215 46) _ _ _ _ (Nj (y:=.func 203) (k:=2) (n:=e+3) (M:=e+3) (a:=b*2^k) (x:=.row (aj (aa base (e+3) (b*2^k))) 172 1) k_ rfl rfl (bh _) hV3 o_ Nk),.step 49 (ay f215 49) _ _ _ _ (ZR (y:=.func 233) (k1:=0) (x1:=.view (aj (aa base n a))) k_ (by have:=w6 a;rw[hn]at this;exact this) hk o_ hn 3),.eW 55 (n+1) (e+2) p o_ o_,.pI f215 56 4 p 172 4 (aR 0) (aj (List.replicate p 0)) (Es _) rfl rfl o_ (by simp[maxLen];omega) k_,.eW 60 (n+1) (e+2) p o_ o_,.wr 61 .i64 ((p:Int)-1) ((p:Int)-1) (oB o_),.code 0 _ _ _ _ _ Nl,.upto f215 80 3 (n+1) (e+2) 1 o_ k_,.code 2 _ _ _ _ _ yw,.step 107 (ay f215 107) _ _ _ _ (Nj (y:=.func 203) (k:=4) (n:=p) (M:=p) (a:=a/b) (x:=.row (aj (aa base p (a/b))) 172 1) k_ rfl rfl (bh _) JB o_ rfl),.step 109 (ay f215 109) _ _ _ _ (Nj (y:=.func 203) (k:=3) (n:=e+2) (M:=n+1) (a:=a%b) (x:=.row (aj (aa base (n+1) (a%b))) 172 1) k_ rfl rfl o_ G1 o_ rfl)])
  (v:=.tuple #[sl 4 (nd base (a/b)),sl 3 (nd base (a%b))]) (ms:=[(4,.row (aj (aa base p (a/b))) 172 1),(3,.row (aj (aa base (n+1) (a%b))) 172 1)]) k_ λav bX v' w' jW bo dG _=>?_
 obtain⟨cL,rfl,aU⟩:=jW.tS;obtain⟨p,q,hp,h3,h4⟩:=iY aU;have e:cL=#[p,q]:=vf.1 (by rw[hp]);subst e;exact⟨p,q,rfl,wP bo (dG _ (aL ..)) JB h3,wP bo (dG _ (bw _ (aL ..))) (cC G1 (c7 d_ o_)) h4,bo.base⟩
def sv(neg:Bool)(m:Nat):Value:=.agg #[.bool neg,o6 m]
def sg(neg:Bool)(m:Nat):Int:=if neg then -(m:Int)else m
def bI(z:Int):Value:=sv (decide (z<0)) z.natAbs
theorem vu(neg:Bool)(m:Nat):AL neg m=bI (sg neg m):=by
 cases neg
 ·have e:decide ((m:Int)<0)=false:=by simp
  show Value.agg #[.bool false,o6 m]=Value.agg #[.bool (decide ((m:Int)<0)),o6 (m:Int).natAbs];rw[e];rfl
 ·have e:(decide (-(m:Int)<0))=decide (m≠0):=by rw[oW];omega
  show Value.agg #[.bool (decide (m≠0)),o6 m]=Value.agg #[.bool (decide (-(m:Int)<0)),o6 (-(m:Int)).natAbs];rw[e,JC];rfl
theorem rW{C:Int->Value->Prop}(h0:∀ m:Nat,C m (sv false m))(h1:∀ m:Nat,m≠0->C (-(m:Int)) (sv true m))(z:Int):C z (bI z):=by
 by_cases hz:z<0
 ·obtain⟨m,rfl⟩:∃ m:Nat,z=-(m:Int):=⟨z.natAbs,by omega⟩;have:=h1 m o_;have e:bI (-(m:Int))=sv true m:=by unfold bI;rw[aC hz,JC];rfl
  rw[e];exact this
 ·obtain⟨m,rfl⟩:∃ m:Nat,z=(m:Int):=⟨z.natAbs,by omega⟩;have e:bI (m:Int)=sv false m:=by unfold bI;rw[aO hz];rfl
  rw[e];exact h0 m
theorem w9{n:Nat}(h:m<2^n):nd base m<=n:=jd d_ (cC h (ZU d_ n))
theorem vx{n:Nat}(h:m<2^n):nd 256 m<=n:=jd d_ (cC h (ZU d_ n))
theorem ZV{n:Nat}(h:m<2^n)(hn:n<=1099511627776):Calls prog 214 #[o6 m] w λe w'=>∃ v,e=.returned v/\jB w w' v m/\Below w.heap.size w w':=by have e:ko (BA (cD m))=m:=EC m;have:=aHS (w:=w) (s:=BA (cD m)) (by rw[oA,ti];have:=vx h;omega);rw[e]at this;exact this
section
variable{Bs:ae}{N:Nat}
def aQ.of(fn:Func)(key k m n:Nat)(h:m<2^n)(hn:n<=1099511627776){y:m_}(ho:di (ay fn key).op=some y):aQ prog Bs N:=
 .step key (ay fn key) [.func (.func 214) #[] #[],o6 m] [(k,none)] (sl k (nd base m)) [(k,uk m)] (Nd ho k_ (λv hv=>by simp at hv;subst hv;rfl) (λ_=>ZV h hn) k)
def aQ.add(fn:Func)(key k k1 k2 a b:Nat)(h1:nd base a<35184372088832)(h2:nd base b<35184372088832){y:m_}(ho:di (ay fn key).op=some y):aQ prog Bs N:=
 .step key (ay fn key) _ _ _ _ (Sl (f:=219) (k1:=k1) (k2:=k2) ho k_ (rU a) (rU b) (λ_ _ _ ha hb=>aHq ha hb h1 h2) k)
def aQ.less(fn:Func)(key k k1 k2 a b:Nat)(bW:b<=a)(h1:nd base a<35184372088832){y:m_}(ho:di (ay fn key).op=some y):aQ prog Bs N:=
 .step key (ay fn key) _ _ _ _ (Sl (f:=221) (k1:=k1) (k2:=k2) ho k_ (rU a) (rU b) (λ_ _ _ ha hb=>aHv ha hb bW h1) k)
def aQ.mul(fn:Func)(key k k1 k2 a b:Nat)(h1:nd base a<1099511627777)(h2:nd base b<1099511627777){y:m_}(ho:di (ay fn key).op=some y):aQ prog Bs N:=
 .step key (ay fn key) _ _ _ _ (Sl (f:=226) (k1:=k1) (k2:=k2) ho k_ (rU a) (rU b) (λ_ _ _ ha hb=>aHI ha hb o_) k)
def aQ.cmp(fn:Func)(key k1 k2 a b:Nat)(h1:nd base a<35184372088832)(h2:nd base b<35184372088832){y:m_}(ho:di (ay fn key).op=some y):aQ prog Bs N:=
 .step key (ay fn key) _ _ _ _ (Nf (f:=220) (k1:=k1) (k2:=k2) (res:=.int .i64 (pM a b)) ho k_ (rU a) (rU b) rfl λ_ _ _ ha hb=>MX ha hb h1 h2)
def aQ.CJ(fn:Func)(key k a:Nat)(x:Obj)(hx:pQ x a)(neg:Bool)(h1:nd base a<35184372088832){y:m_}(ho:di (ay fn key).op=some y):aQ prog Bs N:=
 .step key (ay fn key) _ _ _ _ (GO (f:=156) (k1:=k) (post:=[.bool neg]) (res:=AL neg a) ho k_ hx (λv hv=>by simp at hv;subst hv;rfl) rfl λ_ _ h=>ZG h h1)
end
def xa(neg:Bool):List UInt8->Bool
 |[]=>!neg
 |c::_=>decide (c≠0)
theorem rX(neg:Bool)(l:List UInt8):aD prog 128 [.agg #[.bool neg,.string (BA l)]] (.bool (xa neg l)):=by
 cases l with
 |nil=>exact aZ func128 (λ_=>[.rw 5 (.bool ((BA []).toList==(ByteArray.mk #[]).toList)) b_ (by rw[Ev];rfl)])
 |cons c l=>
  have e:(((c.toNat:Nat):Int)!=0)=decide (c≠0):=by
   by_cases h:c=0
   ·subst h;rfl
   ·rw[aC h,qH];intro h2;exact h (MU.1 (by simpa using h2))
  exact aZ func128 (λ_=>[.rw 5 (.bool ((BA (c::l)).toList==(ByteArray.mk #[]).toList)) a_ (by rw[Ev];rfl),.sx f128 11 (BA (c::l)) 0 c (by rw[Jp];rfl) k_,.rw 12 (.bool (((c.toNat:Nat):Int)!=0)) (.bool (decide (c≠0))) (by rw[e])])
theorem iy(neg:Bool)(h:neg=true->m≠0):aD prog 128 [sv neg m] b_:=by
 have:=rX neg (cD m);have e:xa neg (cD m)=true:=by
  by_cases hm:m=0
  ·subst hm;rw[CA];cases neg
   ·rfl
   ·exact absurd rfl (h rfl)
  ·obtain⟨c,l,h1,h2⟩:=M6 hm;rw[h1];exact aC h2
 rw[e]at this;exact this
theorem kZ(h:z.natAbs<9223372036854775808):aD prog 105 [.int .i64 z] (bI z):=by
 have jR:nd base z.natAbs<35184372088832:=by have:=w9 (m:=z.natAbs) (n:=63) o_;omega
 by_cases hz:z<0
 ·have e:=vu true z.natAbs;have e2:sg true z.natAbs=z:=by show -((z.natAbs:Nat):Int)=z;omega
  rw[e2]at e;rw[<-e];exact aZ func105 (λ_=>[.rw 4 (.bool (decide (z<0))) b_ (by rw[aC hz]),.wr 6 .u64 z (z+18446744073709551616) (by rw[jQ];omega),.wr 7 .u64 (0-(z+18446744073709551616)) (z.natAbs:Int) (by rw[jQ];omega),.step 8 (ay f105 8) _ _ _ _ (Nd (y:=.func 155) (args:=[.int .u64 (z.natAbs:Int)]) k_ k_ (λv hv=>by simp at hv;subst hv;rfl) (λ_=>RZ (n:=z.natAbs) o_) 1),.CJ f105 9 1 z.natAbs (uk z.natAbs) (rU _) true jR (y:=.func 156) k_])
 ·have e:=vu false z.natAbs;have e2:sg false z.natAbs=z:=by show((z.natAbs:Nat):Int)=z;omega
  rw[e2]at e;rw[<-e];exact aZ func105 (λ_=>[.rw 4 (.bool (decide (z<0))) a_ (by rw[aO hz]),.wr 11 .u64 z (z.natAbs:Int) (by rw[jQ];omega),.step 12 (ay f105 12) _ _ _ _ (Nd (y:=.func 155) (args:=[.int .u64 (z.natAbs:Int)]) k_ k_ (λv hv=>by simp at hv;subst hv;rfl) (λ_=>RZ (n:=z.natAbs) o_) 1),.CJ f105 13 1 z.natAbs (uk z.natAbs) (rU _) false jR (y:=.func 156) k_])
theorem qN(z:Int):aD prog 129 [bI z] (.int .i64 z.sign):=by
 refine rW (C:=λz v=>aD prog 129 [v] (.int .i64 z.sign)) (λm=>?_) (λm hm=>?_) z
 ·by_cases h:m=0
  ·subst h;exact aZ func129 (λ_=>[(iy false (m:=0) n_).at 5,.rw 10 (.bool ((BA (cD 0)).toList==(ByteArray.mk #[]).toList)) b_ (by rw[qK];rfl)])
  ·have e:((m:Nat):Int).sign=1:=yO o_;rw[e];exact aZ func129 (λ_=>[(iy false (m:=m) n_).at 5,.rw 10 (.bool ((BA (cD m)).toList==(ByteArray.mk #[]).toList)) a_ (by rw[qK,aO h])])
 ·have e:(-(m:Int)).sign=-1:=EK o_;rw[e];exact aZ func129 (λ_=>[(iy true (m:=m) (λ_=>hm)).at 5,.rw 10 (.bool ((BA (cD m)).toList==(ByteArray.mk #[]).toList)) a_ (by rw[qK,aO hm])])
theorem nT(z:Int):aD prog 218 [bI z] (bI (-z)):=by
 refine rW (C:=λz v=>aD prog 218 [v] (bI (-z))) (λm=>?_) (λm hm=>?_) z
 ·have e:=vu true m;rw[<-show sg true m=-(m:Int)from rfl,<-e];have e:(!((BA (cD m)).toList==(ByteArray.mk #[]).toList))=decide (m≠0):=by rw[qK];simp
  exact aZ func218 (λ_=>[(iy false (m:=m) n_).at 4,.rw 13 (.bool (!((BA (cD m)).toList==(ByteArray.mk #[]).toList))) (.bool (decide (m≠0))) (by rw[e])])
 ·have e:=vu false m;rw[JD,<-show sg false m=(m:Int)from rfl,<-e];exact aZ func218 (λ_=>[(iy true (m:=m) (λ_=>hm)).at 4])
theorem SL{n1 n2:Bool}{p:Nat}(v1:n1=true->m1≠0)(v2:n2=true->m2≠0)(h1:m1<2^p)(h2:m2<2^q)(hp:p<=1099511627776)(hq:q<=1099511627776):
  aD prog 186 [sv n1 m1,sv n2 m2] (bI (sg n1 m1+sg n2 m2)):=by
 have b1:=w9 h1;have b2:=w9 h2;have bp:nd base (m1+m2)<35184372088832:=by
  have:=w9 (m:=m1+m2) (n:=p+q+1) (by have e1:=c7 (show 0<2 by decide) (show p<=p+q by omega);have e2:=c7 (show 0<2 by decide) (show q<=p+q by omega);rw[dr];omega)
  omega
 have k1:=je (B:=base) d_ (EL m1 m2);have k2:=je (B:=base) d_ (EL m2 m1);obtain⟨ge,a,b,fG,bW,ha,e⟩:∃(ge:Bool) (a b:Nat),decide (m2<=m1)=ge/\b<=a/\(a=bif ge then m1 else m2)/\(b=bif ge then m2 else m1):=by
  by_cases h:m2<=m1
  ·exact⟨true,m1,m2,aC h,h,rfl,rfl⟩
  ·exact⟨false,m2,m1,aO h,by omega,rfl,rfl⟩
 subst ha e;have bm:nd base ((bif ge then m1 else m2)-bif ge then m2 else m1)<35184372088832:=by cases ge<;>(dsimp only[cond];omega)
 have ba:nd base (bif ge then m1 else m2)<35184372088832:=by cases ge<;>(dsimp only[cond];omega)
 have hc:decide (pM m1 m2>=0)=ge:=by rw[<-fG];exact oW.2 MW
 have e:bI (sg n1 m1+sg n2 m2)=bif n1==n2 then AL n1 (m1+m2)else AL (bif ge then n1 else n2) ((bif ge then m1 else m2)-bif ge then m2 else m1):=by rw[vu,vu];cases n1<;>cases n2<;>cases ge<;>simp[sg]at fG bW ⊢<;>congr 1<;>omega
 rw[e];refine fj mixed func186 100 (λ_=>[(iy _ v1).at 8,(iy _ v2).at 12,.of f186 18 3 m1 p h1 hp (y:=.func 214) k_,.of f186 21 4 m2 q h2 hq (y:=.func 214) k_]++
   bif n1==n2 then[.add f186 30 5 3 4 m1 m2 o_ o_ (y:=.func 219) k_,.CJ f186 33 5 (m1+m2) (uk (m1+m2)) (rU _) n1 bp (y:=.func 156) k_]else
   [.cmp f186 37 3 4 m1 m2 o_ o_ (y:=.func 220) k_,.rw 38 (.bool (decide (pM m1 m2>=0))) (.bool ge) (by rw[hc])]++
   bif ge then[.less f186 41 5 3 4 _ _ bW ba (y:=.func 221) k_,.CJ f186 44 5 _ (uk _) (rU _) n1 bm (y:=.func 156) k_]else
   [.less f186 47 5 4 3 _ _ bW ba (y:=.func 221) k_,.CJ f186 50 5 _ (uk _) (rU _) n2 bm (y:=.func 156) k_]) (λ_=>?_) k_ ?_<;>cases n1<;>cases n2<;>cases ge<;>kernel_rfl
theorem EM{C:Int->Int->Value->Value->Prop}(h:∀(n1 n2:Bool) (m1 m2:Nat),(n1=true->m1≠0)->(n2=true->m2≠0)->C (sg n1 m1) (sg n2 m2) (sv n1 m1) (sv n2 m2))(x y:Int):C x y (bI x) (bI y):=
 rW (C:=λx v=>C x y v (bI y)) (λm=>rW (C:=λy u=>C m y (sv false m) u) (λk=>h false false m k n_ n_) (λk hk=>h false true m k n_ (λ_=>hk)) y)
  (λm hm=>rW (C:=λy u=>C (-(m:Int)) y (sv true m) u) (λk=>h true false m k (λ_=>hm) n_) (λk hk=>h true true m k (λ_=>hm) (λ_=>hk)) y) x
theorem pS(n:Bool)(m:Nat):(sg n m).natAbs=m:=by cases n<;>simp[sg]
theorem yP{x:Int}{p:Nat}(h1:x.natAbs<2^p)(h2:y.natAbs<2^q)(hp:p<=1099511627776)(hq:q<=1099511627776):aD prog 186 [bI x,bI y] (bI (x+y)):=by revert h1 h2;refine EM (C:=λx y v u=>x.natAbs<2^p->y.natAbs<2^q->aD prog 186 [v,u] (bI (x+y))) (λn1 n2 m1 m2 v1 v2 h1 h2=>?_) x y;rw[pS]at h1 h2;exact SL v1 v2 h1 h2 hp hq
theorem lH(z:Int):aD prog 128 [bI z] b_:=
 rW (C:=λ_ v=>aD prog 128 [v] b_) (λ_=>iy false n_) (λ_ hm=>iy true λ_=>hm) z
theorem EN{x:Int}{p:Nat}(h1:x.natAbs<2^p)(h2:y.natAbs<2^q)(hp:p<=1099511627776)(hq:q<=1099511627776):aD prog 185 [bI x,bI y] (bI (x-y)):=
 aZ func185 (λ_=>[(lH x).at 6,(lH y).at 10,(nT y).at 16,(yP h1 (by rw[JC];exact h2) hp hq).at 17])
theorem SM{x:Int}{p:Nat}(h1:x.natAbs<2^p)(h2:y.natAbs<2^q)(hp:p<=1099511627776)(hq:q<=1099511627776):aD prog 217 [bI x,bI y] (.int .i64 (x-y).sign):=
 aZ func217 (λ_=>[(EN h1 h2 hp hq).at 7,(qN (x-y)).at 8])
theorem mJ{x:Int}{p:Nat}(h1:x.natAbs<2^p)(h2:y.natAbs<2^q)(hp:p<=1099511627776)(hq:q<=1099511627776):aD prog 199 [bI x,bI y] (bI (x*y)):=by
 revert h1 h2;refine EM (C:=λx y v u=>x.natAbs<2^p->y.natAbs<2^q->aD prog 199 [v,u] (bI (x*y))) (λn1 n2 m1 m2 v1 v2 h1 h2=>?_) x y;rw[pS]at h1 h2;have b1:=w9 h1;have b2:=w9 h2;have bs:nd base (m1*m2)<35184372088832:=by have:=w9 (m:=m1*m2) (n:=p+q) (by rw[eh];exact pJ h1 h2);omega
 have e:sg n1 m1*sg n2 m2=sg (n1 !=n2) (m1*m2):=by cases n1<;>cases n2<;>simp[sg,G2,G3]
 rw[e,<-vu];refine fj mixed func199 100 (λ_=>[(iy _ v1).at 6,(iy _ v2).at 10,.of f199 16 3 m1 p h1 hp (y:=.func 214) k_,.of f199 19 4 m2 q h2 hq (y:=.func 214) k_,.mul f199 20 5 3 4 m1 m2 o_ o_ (y:=.func 226) k_,.CJ f199 26 5 (m1*m2) (uk (m1*m2)) (rU _) (n1 !=n2) bs (y:=.func 156) k_]) (λ_=>?_) k_ ?_<;>cases n1<;>cases n2<;>kernel_rfl
section
variable{Bs:ae}{N:Nat}
theorem Nn(hm:aJ Bs ι c w){n:Nat}{v:i_}(hk:c k=none)(h:w.ownsRow A ty size v n xs)(cG:∀ u∈xs,flat u=true)
  (du:∀ j y b o cap,c j=some y->y.owns=true->ι j=some (.at b o cap)->b<A) :
  ∃ av,Map.le ι av/\aJ Bs av (aV c k (.view xs)) w/\aH av (.slice (some ⟨k,0,some 7⟩) n 0) v:=by
 refine yx hm hk (.Yz h) cG λb o c' e j y o' bj hj hy he=>?_;have h1:=du j y b o' bj hj hy he;rcases h.2 with ⟨h2,_⟩|⟨g,cap,cur,h2,h3,_⟩
 ·rw[h2]at e;cases e
 ·rw[h2]at e;injection e with e1 e2;injection e1 with e1;injection e1 with e1;omega
def j4(a:Nat):Obj:=.view (aj (aa base (nd base a) a))
theorem Np(hm:aJ Bs ι c w):∀ j y b o cap,c j=some y->y.owns=true->ι j=some (.at b o cap)->b<w.heap.size:=λj y b o cap h1 h2 h3=>(hm.own j y b o cap h1 h2 h3).1
theorem ZW(hm:aJ Bs ι c w)(hle:Map.le ι av)(h:∀ j y b o cap,c j=some y->y.owns=true->ι j=some (.at b o cap)->b<A):
  ∀ j y b o cap,aV c k (.view xs) j=some y->y.owns=true->av j=some (.at b o cap)->b<A:=by
 intro j y b o cap hj hy hb;unfold aV at hj;by_cases bT:j=k
 ·rw[au bT]at hj;injection hj with hj;subst hj;cases hy
 ·rw[al bT]at hj;obtain⟨l,e1,_⟩:=hm.born j y hj;have:=hle j l e1;rw[hb]at this;injection this with this;subst this;exact h j y b o cap hj hy e1
theorem aJc{y:m_}{c:Nat}(ho:di o.op=some y)(eK:fW prog f=true)(dz:∀ v∈args,flat v=true)
  (h:∀ w,Calls prog f args.toArray w λe w'=>∃ v,e=.returned v/\jB w w' v c/\Below w.heap.size w w') (k:Nat) :
  cz prog Bs o (.func (.func f) #[] #[]::args) [(k,none)] (sl k (nd base c)) [(k,j4 c)]:=by
 refine jP (fi:=[]) (ca:=[]) ho eK λι cc w hm hn args' aU=>?_;rw[jy,gY]at aU;rw[mZ aU dz];refine(h w).mono ?_
 rintro e w' ⟨v,rfl,h1,h2⟩
 obtain⟨av,q1,q2,q3⟩:=YA hm h2 (k:=k) (hn _ (aL ..)) h1 (fq _);exact⟨av,v,rfl,q1,q3,q2⟩
def aQ.yQ(fn:Func)(key k m n:Nat)(h:m<2^n)(hn:n<=1099511627776){y:m_}(ho:di (ay fn key).op=some y):aQ prog Bs N:=
 .step key (ay fn key) [.func (.func 214) #[] #[],o6 m] [(k,none)] (sl k (nd base m)) [(k,j4 m)] (aJc ho k_ (λv hv=>by simp at hv;subst hv;rfl) (λ_=>ZV h hn) k)
theorem uo(a:Nat):pQ (j4 a) a:=w6 a
theorem Nq{y:m_}(ho:di o.op=some y){kq kr:Nat}(hk:kr≠kq)(um:pQ x1 a)(kz:x1.jv=true)(gK:pQ x2 b)(kJ:b≠0)(h1:nd base a<35184372088831)(h2:nd base b<35184372088831):
  cz prog Bs o [.func (.func 215) #[] #[],sl k1 (nd base a),sl k2 (nd base b)] [(k1,some x1),(k2,some x2),(kq,none),(kr,none)] (.tuple #[sl kq (nd base (a/b)),sl kr (nd base (a%b))]) [(kr,j4 (a%b)),(kq,j4 (a/b))]:=by
 refine jP (fi:=[]) (ca:=[]) ho k_ λι c w hm hn args' aU=>?_;rw[jy,gY]at aU;obtain⟨va,vb,rfl,hv,iu⟩:=iY aU;have gN:c k1=some x1:=hn (k1,some x1) s_;have gi:c k2=some x2:=hn (k2,some x2) s_;have JE:c kq=none:=hn (kq,none) s_;have SN:c kr=none:=hn (kr,none) s_;have ha:=AK hm gN um hv;have hb:=AK hm gi gK iu;have fin:∀(w':h_) (vq vr:i_),Below w.heap.size w w'->(∃ bJ,Map.le ι bJ/\aJ Bs bJ (aV c kq (j4 (a/b))) w'/\aH bJ (sl kq (nd base (a/b))) vq/\∃ dq,Map.le bJ dq/\aJ Bs dq (aV (aV c kq (j4 (a/b))) kr (j4 (a%b))) w'/\aH dq (sl kr (nd base (a%b))) vr)->
   ∃ av v',Ending.returned (.tuple #[vq,vr])=.returned v'/\Map.le ι av/\aH av (.tuple #[sl kq (nd base (a/b)),sl kr (nd base (a%b))]) v'/\aJ Bs av (lp c [(kr,j4 (a%b)),(kq,j4 (a/b))]) w':=by
  rintro w' vq vr gH ⟨bJ,q1,q2,q3,dq,s1,s2,s3⟩
  exact⟨dq,_,rfl,q1.trans s1,.tup (.cons (q3.mono s1) (.cons s3 .nil)),s2⟩
 have JF:∀ x,aV c kq x kr=none:=λx=>by unfold aV;rw[al hk];exact SN
 have new:∀(w':h_) (vq vr:i_),Below w.heap.size w w'->jB w w' vq (a/b)->jB w w' vr (a%b)->(∃ bJ,Map.le ι bJ/\aJ Bs bJ (aV c kq (j4 (a/b))) w'/\aH bJ (sl kq (nd base (a/b))) vq/\∃ dq,Map.le bJ dq/\aJ Bs dq (aV (aV c kq (j4 (a/b))) kr (j4 (a%b))) w'/\aH dq (sl kr (nd base (a%b))) vr):=by intro w' vq vr gH h3 h4;have bo:=hm.call gH;obtain⟨bJ,q1,q2,q3⟩:=Nn bo JE h3 (fq _) (Np hm);obtain⟨dq,s1,s2,s3⟩:=Nn q2 (JF _) h4 (fq _) (ZW bo q1 (Np hm));exact⟨bJ,q1,q2,q3,dq,s1,s2,s3⟩
 by_cases bW:a<b
 ·have e1:a/b=0:=lV bW;have e2:a%b=a:=dJ bW;refine(SE ha hb bW o_ o_).mono ?_
  rintro e w' ⟨rfl,gH⟩
  refine fin w' _ _ gH ?_;have bo:=hm.call gH;obtain⟨bJ,q1,q2,q3⟩:=yx (xs:=[]) (n:=0) (v:=.slice none 0 0) bo JE (.inl ⟨rfl,rfl,rfl⟩) n_ n_;have ez:j4 (a/b)=.view []:=by unfold j4;rw[e1,qF];rfl
  have en:nd base (a/b)=0:=by rw[e1,qF]
  rw[ez,en,e2];have SO:c8 w' va (nd base a) (aj (aa base (nd base a) a)):=c8.jw ha gH;obtain⟨dq,s1,s2,s3⟩:=yx q2 (JF _) SO (fq _) (λb o c' e j y o' bj hj hy he=>by
   have AG:c j=some y:=by
    unfold aV at hj;by_cases bT:j=kq
    ·rw[au bT]at hj;injection hj with hj;subst hj;cases hy
    ·rw[al bT]at hj;exact hj
   obtain⟨l,e1,_⟩:=hm.born j y AG;have e2:=q1 j l e1;rw[he]at e2;injection e2 with e2;subst e2;subst e;rcases hv.gR rfl with ⟨_,_,_,_,e⟩|⟨b',o2,pA,c2,gM,_,_,e⟩
   ·cases e
   ·injection e with e _ _;injection e with e;injection e with e _ _;subst e;exact(hm.seen k1 x1 _ _ _ gN kz gM).2 j y _ _ AG hy e1)
  exact⟨bJ,q1,q2,q3,dq,s1,s2,s3⟩
 ·have JG:b<=a:=Jv.1 bW;have go:Calls prog 215 #[va,vb] w λe w'=>∃ vq vr,e=.returned (.tuple #[vq,vr])/\jB w w' vq (a/b)/\jB w w' vr (a%b)/\Below w.heap.size w w':=by
   by_cases ao:b<base
   ·exact SF ha hb JG kJ ao o_
   ·have h3:2<=nd base b:=by
     rcases eU (nd base b) 2 with h|h
     ·have h4:=dQ (B:=base) d_ b;have h5:base^nd base b<=base^1:=c7 d_ o_;rw[Cw]at h5;omega
     ·exact h
    exact SH (e:=nd base b-2) ha hb JG o_ h1
  refine go.mono ?_
  rintro e w' ⟨vq,vr,rfl,h3,h4,gH⟩
  exact fin w' _ _ gH (new w' vq vr gH h3 h4)
end
def eu(x y:Nat):Nat->Nat×Nat
 |0=>(x,y)
 |i+1=>((eu x y i).2,(eu x y i).1%(eu x y i).2)
theorem JH(x y:Nat):∀ i,Nat.gcd (eu x y i).1 (eu x y i).2=Nat.gcd x y
 |0=>rfl
 |i+1=>by rw[<-JH x y i];show Nat.gcd (eu x y i).2 ((eu x y i).1%(eu x y i).2)=_;rw[G4,<-Nat.gcd_rec,G4]
theorem SP(x y:Nat):∀ i,(eu x y i).1<=max x y/\(eu x y i).2<=max x y
 |0=>⟨Nat.le_max_left ..,Nat.le_max_right ..⟩
 |i+1=>by obtain⟨h1,h2⟩:=SP x y i;exact⟨h2,dc (Jg _ _) h1⟩
theorem Nr(x y:Nat)(p:Nat->Nat->Bool)(hp:∀ u v,p u v=true->v≠0):∃ n,p (eu x y n).1 (eu x y n).2=false/\∀ i,i<n->p (eu x y i).1 (eu x y i).2=true:=by
 have key:∃ n,p (eu x y n).1 (eu x y n).2=false:=by
  apply jo;intro fJ;have all:∀ i,p (eu x y i).1 (eu x y i).2=true:=λi=>by
   cases h:p (eu x y i).1 (eu x y i).2 with
   |true=>rfl
   |false=>exact absurd ⟨i,h⟩ fJ
  have dec:∀ i,(eu x y i).2+i<=y:=by
   intro i;induction i with
   |zero=>exact bh _
   |succ i ih=>
    have h0:=hp _ _ (all i);have h1:(eu x y (i+1)).2<(eu x y i).2:=cE _ (s8 h0);omega
  have h1:=dec (y+1);omega
 obtain⟨n,hn⟩:=key;obtain⟨e,h1,h2,h3⟩:=yA (λi=>p (eu x y i).1 (eu x y i).2=false) n hn;exact⟨e,h2,λi hi=>by
  cases h:p (eu x y i).1 (eu x y i).2 with
  |true=>rfl
  |false=>exact absurd h (h3 i hi)⟩
def yR(u v:Nat):Bool:=decide (2<nd base v)||(decide (2<nd base u)&&decide (0<nd base v))
section
variable{Bs:ae}
def CK(u v:Nat):aM:=[(5,sl 5 (nd base u)),(6,sl 6 (nd base v))]
def AU(u v:Nat):List Obj:=[j4 u,j4 v]
theorem aJd{u v:Nat}(h:yR u v=true)(h0:v≠0)(h1:nd base u<35184372088831)(h2:nd base v<35184372088831):
  af prog Bs 65 (aF (ag f182 0)) (CK u v) ([]++marks 5 (AU u v)) 7 ⟨.normal,fm 5 [some 6,some 8] (CK v (u%v)),[]++dj [some 6,some 8] (AU v (u%v)),9⟩:=by
 have hd:=Nq (Bs:=Bs) (o:=ay f182 42) (y:=.func 215) k_ (k1:=5) (k2:=6) (kq:=7) (kr:=8) d_ (uo u) rfl (uo v) h0 h1 h2;unfold yR at h;by_cases c1:2<nd base v
 ·exact az [.gt 28 (nd base v) 2 true (by simp[c1]),.step 42 _ _ _ _ _ hd]
 ·simp[c1]at h;exact az [.gt 28 (nd base v) 2 false (by simp;omega),.gt 32 (nd base u) 2 true (by simp[h.1]),.gt 36 (nd base v) 0 true (by simp[h.2]),.step 42 _ _ _ _ _ hd]
theorem aJe{u v:Nat}(h:yR u v=false):
  af prog Bs 65 (aF (ag f182 0)) (CK u v) ([]++marks 5 (AU u v)) 7 ⟨.exit 0,CK u v,marks 5 (AU u v),7⟩:=by
 unfold yR at h;by_cases c1:2<nd base v
 ·simp[c1]at h
 ·by_cases c2:2<nd base u
  ·by_cases c3:0<nd base v
   ·simp[c2,c3]at h
   ·exact az [.gt 28 (nd base v) 2 false (by simp;omega),.gt 32 (nd base u) 2 true (by simp[c2]),.gt 36 (nd base v) 0 false (by simp;omega)]
  ·exact az [.gt 28 (nd base v) 2 false (by simp;omega),.gt 32 (nd base u) 2 false (by simp;omega)]
theorem aJf{x y n:Nat}(hn:yR (eu x y n).1 (eu x y n).2=false)(hi:∀ i,i<n->yR (eu x y i).1 (eu x y i).2=true)(h1:nd base (max x y)<35184372088831):
  af prog Bs 65 (.block 0 (ag f182 0)) (fm 5 [some 3,some 4] (CK x y)) ([]++dj [some 3,some 4] (AU x y)) 5 ⟨.normal,CK (eu x y n).1 (eu x y n).2,marks 5 (AU (eu x y n).1 (eu x y n).2),7⟩:=by
 have:=rT (P:=prog) (B:=Bs) (N:=65) (b:=aF (ag f182 0)) (next:=5) (p:=2) (r:=⟨.exit 0,CK (eu x y n).1 (eu x y n).2,marks 5 (AU (eu x y n).1 (eu x y n).2),7⟩) n (λi=>CK (eu x y i).1 (eu x y i).2) (λ_=>[]) (λi=>AU (eu x y i).1 (eu x y i).2) [some 3,some 4] (λ_ _=>rfl)
  (λi _=>⟨λq hq=>(by cases hq),λz hz=>by simp[AU]at hz;rcases hz with rfl|rfl<;>exact GF (fq _)⟩) k_ k_
  (λi ao=>⟨[some 6,some 8],9,k_,by have hg:=hi i ao;have hle:=SP x y i;refine aJd hg (λe=>?_) (eX (je d_ hle.1) h1) (eX (je d_ hle.2) h1);rw[e]at hg;unfold yR at hg;rw[qF]at hg;simp at hg⟩) (aJe hn) n_
 exact bO (id:=0) this
def xb(u v:Nat):aM:=[(9,pR u),(10,pR v)]
theorem SQ{x y:Nat}:∃ g,g=Nat.gcd x y/\af prog Bs 65 (.block 2 (ag f182 2)) (xb x y) [] 7 ⟨.normal,[(9,pR g)],[],7⟩:=by
 obtain⟨n,hn,hi⟩:=Nr x y (λ_ v=>decide (v≠0)) (λu v h=>jh h);have hz:(eu x y n).2=0:=by have:=AV hn;omega
 have hg:=JH x y n;rw[hz,SR]at hg;refine⟨_,hg,bO (id:=2) (ck (P:=prog) (B:=Bs) (N:=65) (b:=aF (ag f182 2)) (next:=7) (r:=⟨.exit 2,[(9,pR (eu x y n).1)],[],7⟩) n (λi=>xb (eu x y i).1 (eu x y i).2) (λ_=>[]) (λ_ _ _=>Iff.rfl) (λi ao=>?_) ?_ n_)⟩
 ·have h0:(eu x y i).2≠0:=jh (hi i ao);show af _ _ _ _ (xb (eu x y i).1 (eu x y i).2) [] 7 ⟨.normal,xb (eu x y i).2 ((eu x y i).1%(eu x y i).2),[],7⟩;generalize (eu x y i).1=u at *;generalize (eu x y i).2=v at *;exact az [.rw 57 (.bool ((v:Int)!=0)) b_ (by congr 1;rw[qH];omega),.Aw f182 61 .u64 (u:Int) v ((u%v:Nat):Int) o_ (by rw[yJ o_];rfl) k_]
 ·rw[hz];exact az [.rw 57 (.bool (((0:Nat):Int)!=0)) a_ rfl]
end
theorem SS{n1 n2:Bool}{p:Nat}(v1:n1=true->m1≠0)(v2:n2=true->m2≠0)(h1:m1<2^p)(h2:m2<2^q)(hp:p<=1099511627776)(hq:q<=1099511627776):
  aD prog 182 [sv n1 m1,sv n2 m2] (bI (Nat.gcd m1 m2:Nat)):=by
 have b1:=w9 h1;have b2:=w9 h2;have bm:nd base (max m1 m2)<35184372088831:=by rcases Ns m1 m2 with h|h<;>simp[h]<;>omega
 obtain⟨n,hn,hi⟩:=Nr m1 m2 yR (λu v h e=>by rw[e]at h;unfold yR at h;rw[qF]at h;simp at h)
 have hg:=JH m1 m2 n;have hle:=SP m1 m2 n;have hl:=λw=>aJf (Bs:=ae.at w) hn hi bm;have bU:nd base (eu m1 m2 n).1<35184372088831:=eX (je d_ hle.1) bm;have bV:nd base (eu m1 m2 n).2<35184372088831:=eX (je d_ hle.2) bm;rw[<-hg];generalize (eu m1 m2 n).1=U at *;generalize (eu m1 m2 n).2=V at *;have e:=vu false (Nat.gcd U V);rw[show sg false (Nat.gcd U V)=((Nat.gcd U V:Nat):Int)from rfl]at e;rw[<-e];by_cases hV:V=0
 ·subst hV;rw[SR];exact aZ func182 (λw=>[(iy n1 v1).at 12,(iy n2 v2).at 16,.yQ f182 22 3 m1 p h1 hp (y:=.func 214) k_,.yQ f182 25 4 m2 q h2 hq (y:=.func 214) k_,.code 0 _ _ _ _ _ (hl w),.rw 49 (.bool (((nd base 0:Nat):Int)==0)) b_ (by rw[qF];rfl),.CJ f182 51 5 U (j4 U) (uo U) false o_ (y:=.func 156) k_])
 ·have qI:=wJ (B:=base) d_ hV;unfold yR at hn;have c1:nd base V<=2/\nd base U<=2:=by simp at hn;exact⟨hn.1,Jv.1 λh=>by have:=hn.2 h;omega⟩
  have ZX:∀ t,nd base t<=2->t<18446744073709551616:=λt ht=>by have h1:=dQ (B:=base) d_ t;have h2:base^nd base t<=base^2:=c7 d_ ht;exact cC h1 (dc h2 d_)
  have aJg:=ZX U c1.2;have ZY:=ZX V c1.1;have Nt:∀ w,∃ g,g=Nat.gcd U V/\af prog (ae.at w) 65 (.block 2 (ag f182 2)) (xb U V) [] 7 ⟨.normal,[(9,pR g)],[],7⟩:=λw=>SQ;have Nt:∀ w,af prog (ae.at w) 65 (.block 2 (ag f182 2)) (xb U V) [] 7 ⟨.normal,[(9,pR (Nat.gcd U V))],[],7⟩:=λw=>by obtain⟨g,rfl,h⟩:=Nt w;exact h
  have aJh:Nat.gcd U V<18446744073709551616:=eX (Nat.gcd_le_right U (s8 hV)) ZY;have bG:nd base (Nat.gcd U V)<35184372088832:=by have:=je (B:=base) d_ (Nat.gcd_le_right U (s8 hV));omega
  exact aZ func182 (λw=>[(iy n1 v1).at 12,(iy n2 v2).at 16,.yQ f182 22 3 m1 p h1 hp (y:=.func 214) k_,.yQ f182 25 4 m2 q h2 hq (y:=.func 214) k_,.code 0 _ _ _ _ _ (hl w),.gm 49 (nd base V) 0 false (by simp;omega),.step 53 (ay f182 53) _ _ _ _ (GO (f:=216) (y:=.func 216) (k1:=5) (post:=[]) (res:=pR U) k_ k_ (uo U) n_ rfl λ_ _ h=>Y9 h aJg o_),.step 55 (ay f182 55) _ _ _ _ (GO (f:=216) (y:=.func 216) (k1:=6) (post:=[]) (res:=pR V) k_ k_ (uo V) n_ rfl λ_ _ h=>Y9 h ZY o_),.code 2 _ _ _ _ _ (Nt w),.step 63 (ay f182 63) _ _ _ _ (Nd (y:=.func 155) (args:=[pR (Nat.gcd U V)]) k_ k_ (λv hv=>by simp at hv;subst hv;rfl) (λ_=>RZ aJh) 7),.CJ f182 64 7 (Nat.gcd U V) (uk (Nat.gcd U V)) (rU _) false bG (y:=.func 156) k_])
theorem JI{x:Int}{p:Nat}(h1:x.natAbs<2^p)(h2:y.natAbs<2^q)(hp:p<=1099511627776)(hq:q<=1099511627776):aD prog 182 [bI x,bI y] (bI (Nat.gcd x.natAbs y.natAbs:Nat)):=by revert h1 h2;refine EM (C:=λx y v u=>x.natAbs<2^p->y.natAbs<2^q->aD prog 182 [v,u] (bI (Nat.gcd x.natAbs y.natAbs:Nat))) (λn1 n2 m1 m2 v1 v2 h1 h2=>?_) x y;rw[pS]at h1 h2;rw[pS,pS];exact SS v1 v2 h1 h2 hp hq
theorem Nu{a b q r:Int}(h:a=q*b+r)(hr:(0<b/\0<=r/\r<b)\/(b<0/\b<r/\r<=0)):a.fdiv b=q/\a.fmod b=r:=by
 have key:a.fdiv b=q:=by
  rcases hr with ⟨h1,h2,h3⟩|⟨h1,h2,h3⟩
  ·rw[rO _ o_,h,Int.add_comm,ZZ _ _ o_,Int.ediv_eq_zero_of_lt h2 h3];omega
  ·have e:a.fdiv b=(-a).fdiv (-b):=(Int.neg_fdiv_neg a b).symm;have e2:-a=-r+q*-b:=by rw[h,G3];omega
   rw[e,rO _ o_,e2,ZZ _ _ o_,Int.ediv_eq_zero_of_lt o_ o_];omega
 refine⟨key,?_⟩;have:=Int.mul_fdiv_add_fmod a b;rw[key,SV]at this;omega
section
variable{Bs:ae}{N:Nat}
def aQ.G6(fn:Func)(key k a:Nat)(x:Obj)(hx:pQ x a)(neg:Bool)(h1:nd base a<35184372088832){y:m_}(ho:di (ay fn key).op=some y):aQ prog Bs N:=
 .step key (ay fn key) _ _ _ _ (GO (f:=156) (k1:=k) (post:=[.bool neg]) (res:=bI (sg neg a)) ho k_ hx (λv hv=>by simp at hv;subst hv;rfl) rfl λ_ _ h=>by rw[<-vu];exact ZG h h1)
end
theorem SX{x:Int}{p:Nat}(hy:y≠0)(h1:x.natAbs<2^p)(h2:y.natAbs<2^q)(hp:p<=1099511627774)(hq:q<=1099511627774):
  aD prog 237 [bI x,bI y] (.tuple #[bI (x.fdiv y),bI (x.fmod y),.int .i64 0]):=by
 obtain⟨m1,cS⟩:∃ m,m=x.natAbs:=⟨_,rfl⟩;obtain⟨m2,dx⟩:∃ m,m=y.natAbs:=⟨_,rfl⟩;rw[<-cS]at h1;rw[<-dx]at h2;have G7:m2≠0:=by omega
 have b1:=w9 h1;have b2:=w9 h2;obtain⟨s,hs⟩:∃ s,s=(decide (x<0)!=decide (y<0)):=⟨_,rfl⟩;obtain⟨n1,B9⟩:∃ n,n=decide (x<0):=⟨_,rfl⟩;obtain⟨Q,hQ⟩:∃ Q,Q=m1/m2:=⟨_,rfl⟩;obtain⟨R,hR⟩:∃ R,R=m1%m2:=⟨_,rfl⟩;have JJ:m1=Q*m2+R:=by rw[hQ,hR,cK];exact(jf _ _).symm
 have EO:R<m2:=by rw[hR];exact cE _ (s8 G7)
 have SY:Q<=m1:=by rw[hQ];exact tf _ _
 have bQ:nd base (m1/m2)<35184372088832:=by have:=je (B:=base) d_ SY;rw[<-hQ];omega
 have bR:nd base (m1%m2)<35184372088832:=by have:=je (B:=base) d_ (jD EO);rw[<-hR];omega
 have ex:x=sg n1 m1:=by rw[B9,cS];unfold sg;by_cases h:x<0<;>simp[h]<;>omega
 have ey:y=sg (n1 !=s) m2:=by rw[B9,hs,dx];unfold sg;by_cases h:x<0<;>by_cases h':y<0<;>simp[h,h']<;>omega
 have JK:(decide (x<0)!=decide (y<0))=s:=hs.symm;have v1:=lH x;have v2:=lH y;have SZ:((BA (cD y.natAbs)).toList==(ByteArray.mk #[]).toList)=false:=by rw[qK,<-dx,aO G7]
 have S0:(!((BA (cD (sg n1 R).natAbs)).toList==(ByteArray.mk #[]).toList))=decide (R≠0):=by rw[qK,pS];simp
 have oh:x.natAbs<2^p:=by rw[<-cS];exact h1
 have yS:y.natAbs<2^q:=by rw[<-dx];exact h2
 rw[show m1/m2=Q from hQ.symm]at bQ;rw[show m1%m2=R from hR.symm]at bR;have hd:∀ w,cz prog (ae.at w) (ay f237 33) [.func (.func 215) #[] #[],sl 4 (nd base x.natAbs),sl 5 (nd base y.natAbs)] [(4,some (j4 x.natAbs)),(5,some (j4 y.natAbs)),(6,none),(7,none)] (.tuple #[sl 6 (nd base Q),sl 7 (nd base R)]) [(7,j4 R),(6,j4 Q)]:=λw=>by have:=Nq (Bs:=ae.at w) (o:=ay f237 33) (y:=.func 215) k_ (k1:=4) (k2:=5) (kq:=6) (kr:=7) d_ (uo x.natAbs) rfl (uo y.natAbs) o_ (by rw[<-cS];omega) (by rw[<-dx];omega);rw[<-cS,<-dx,<-hQ,<-hR]at this;rw[<-cS,<-dx];exact this
 have S1:(Value.bool (decide (x<0)))=.bool n1:=by rw[B9]
 by_cases Nv:R≠0/\s=true
 ·obtain⟨ur,bK⟩:=Nv;have fin:=Nu (a:=x) (b:=y) (q:=sg s Q-1) (r:=sg n1 R+y) (by
    rw[ex,ey,bK,JJ];have e:sg true Q=-(Q:Int):=rfl;rw[e];have jg:((Q*m2:Nat):Int)=(Q:Int)*m2:=nM ..;cases n1<;>simp only[sg,Nw,Nx,Jl,qx,uj,ui,vt,jg,Int.sub_mul,G2,G3,JD,Ny]<;>omega)
   (by
    rw[ey,bK];cases n1
    ·right;simp only[sg,Nw,qx,uj,ui];omega
    ·left;simp only[sg,Nx,Jl,qx,uj,ui];omega)
  rw[fin.1,fin.2];have s1:(sg s Q).natAbs<2^p:=by rw[pS];omega
  have s2:(1:Int).natAbs<2^1:=by decide
  have s3:(sg n1 R).natAbs<2^q:=by rw[pS];omega
  have sb:=EN (x:=sg s Q) (y:=1) s1 s2 o_ o_;have ad:=yP (x:=sg n1 R) (y:=y) s3 yS o_ o_;exact aZ func237 (λw=>[v1.at 11,v2.at 15,.rw 23 (.bool ((BA (cD y.natAbs)).toList==(ByteArray.mk #[]).toList)) a_ (by rw[SZ]),.yQ f237 29 4 x.natAbs p oh o_ (y:=.func 214) k_,.yQ f237 32 5 y.natAbs q yS o_ (y:=.func 214) k_,.step 33 _ _ _ _ _ (hd w),.rw 41 (.bool (decide (x<0)!=decide (y<0))) (.bool s) (by rw[JK]),.G6 f237 42 6 Q (j4 Q) (uo Q) s bQ (y:=.func 156) k_,.rw 45 (.bool (decide (x<0))) (.bool n1) S1,.G6 f237 46 7 R (j4 R) (uo R) n1 bR (y:=.func 156) k_,.rw 49 (.bool (!((BA (cD (sg n1 R).natAbs)).toList==(ByteArray.mk #[]).toList))) b_ (by rw[S0,aC ur]),.rw 55 (.bool (decide (x<0)!=decide (y<0))) b_ (by rw[JK,bK]),(kZ (z:=1) d_).at 58,sb.at 59,ad.at 62])
 ·have fin:=Nu (a:=x) (b:=y) (q:=sg s Q) (r:=sg n1 R) (by
    rw[ex,ey,JJ];have jg:((Q*m2:Nat):Int)=(Q:Int)*m2:=nM ..;cases n1<;>cases s<;>simp only[sg,Nw,Nx,Jl,MO,qx,uj,ui,vt,jg,G2,G3,JD]<;>omega)
   (by
    rw[ey];cases n1<;>cases s
    ·left;simp only[sg,Nw,uj,ui];omega
    ·right;have ur:R=0:=jo λh=>Nv ⟨h,rfl⟩;simp only[sg,Nw,qx,uj,ui];omega
    ·right;simp only[sg,Nx,MO,qx];omega
    ·left;have ur:R=0:=jo λh=>Nv ⟨h,rfl⟩;simp only[sg,Nx,Jl,qx,uj,ui];omega)
  rw[fin.1,fin.2];by_cases ur:R=0
  ·exact aZ func237 (λw=>[v1.at 11,v2.at 15,.rw 23 (.bool ((BA (cD y.natAbs)).toList==(ByteArray.mk #[]).toList)) a_ (by rw[SZ]),.yQ f237 29 4 x.natAbs p oh o_ (y:=.func 214) k_,.yQ f237 32 5 y.natAbs q yS o_ (y:=.func 214) k_,.step 33 _ _ _ _ _ (hd w),.rw 41 (.bool (decide (x<0)!=decide (y<0))) (.bool s) (by rw[JK]),.G6 f237 42 6 Q (j4 Q) (uo Q) s bQ (y:=.func 156) k_,.rw 45 (.bool (decide (x<0))) (.bool n1) S1,.G6 f237 46 7 R (j4 R) (uo R) n1 bR (y:=.func 156) k_,.rw 49 (.bool (!((BA (cD (sg n1 R).natAbs)).toList==(ByteArray.mk #[]).toList))) a_ (by rw[S0,aO (λh=>h ur)])])
  ·have bK:s=false:=by
    cases s
    ·rfl
    ·exact absurd ⟨ur,rfl⟩ Nv
   exact aZ func237 (λw=>[v1.at 11,v2.at 15,.rw 23 (.bool ((BA (cD y.natAbs)).toList==(ByteArray.mk #[]).toList)) a_ (by rw[SZ]),.yQ f237 29 4 x.natAbs p oh o_ (y:=.func 214) k_,.yQ f237 32 5 y.natAbs q yS o_ (y:=.func 214) k_,.step 33 _ _ _ _ _ (hd w),.rw 41 (.bool (decide (x<0)!=decide (y<0))) (.bool s) (by rw[JK]),.G6 f237 42 6 Q (j4 Q) (uo Q) s bQ (y:=.func 156) k_,.rw 45 (.bool (decide (x<0))) (.bool n1) S1,.G6 f237 46 7 R (j4 R) (uo R) n1 bR (y:=.func 156) k_,.rw 49 (.bool (!((BA (cD (sg n1 R).natAbs)).toList==(ByteArray.mk #[]).toList))) b_ (by rw[S0,aC ur]),.rw 55 (.bool (decide (x<0)!=decide (y<0))) a_ (by rw[JK,bK])])
section
variable{P:j_}{B:ae}{N:Nat}
def G8(o:Oper):Option (Bool×TypeId):=match o.op with|.binOp .eql t _ _ _=>some (true,t)|.binOp .neq t _ _ _=>some (false,t)|_=>none
theorem Z0{op:BinOp}{t:TypeId}{y:m_}{xs ys:p_}(hg:P.eqGuardType P.depth t=false)(w:h_):(eqGuard op t x y (.agg xs) (.agg ys)).run P w=.ok () w:=by unfold eqGuard;cases op<;>simp[hg]
theorem Nz{t:TypeId}{neg:Bool}{xs ys:p_}{lx ly:List Lit}{r:Bool}(ho:G8 o=some (neg,t))(hm:m<=10000)(hk:P.keyTypeAt m t=true)(hg:P.eqGuardType P.depth t=false)
  (hfx:(Value.agg xs).formed P t=true) (hfy:(Value.agg ys).formed P t=true) (hx:P.keyLits D t xs.toList=some lx) (hy:P.keyLits D t ys.toList=some ly) (Xr:flat (.agg xs)=true) (IK:flat (.agg ys)=true)
  (hr:(if neg then r else !r)=true↔lx=ly):cz P B o [.agg xs,.agg ys] [] (.bool r) []:=by
 refine(Ac (λu hu=>by simp at hu;rcases hu with rfl|rfl<;>assumption) rfl λρ e6 w _=>?_).step;obtain⟨r',e1,e2⟩:=run_equalIn_deep (10000-m) m t hk w D D (.agg xs) (.agg ys) lx ly hfx hfy hx hy;rw[show 10000-m+m=10000 by omega]at e1;have e1:(Op.equal t (.agg xs) (.agg ys)).run P w=.ok r' w:=e1;unfold G8 at ho;split at ho
 ·rename_i t' p q t2 bM;injection ho with ho;injection ho with h1 h2;subst h1;subst h2;rw[bM]at e6;simp[Op.operands]at e6;have e3:r'=r:=by rw[<-e2]at hr;cases r<;>cases r'<;>simp at hr ⊢
  have nO:=Z0 (op:=.eql) (x:=p) (y:=q) (xs:=xs) (ys:=ys) hg w;simp only[execOp,bM,e6.1,e6.2];simp[nO,binOp,e1,e3]
 ·rename_i t' p q t2 bM;injection ho with ho;injection ho with h1 h2;subst h1;subst h2;rw[bM]at e6;simp[Op.operands]at e6;have e3:(!r')=r:=by rw[<-e2]at hr;cases r<;>cases r'<;>simp at hr ⊢
  have nO:=Z0 (op:=.neq) (x:=p) (y:=q) (xs:=xs) (ys:=ys) hg w;simp only[execOp,bM,e6.1,e6.2];simp[nO,binOp,e1,e3]
 ·cases ho
theorem Z1{β:Type}(f:TypeId->Nat->Option β):∀(l:List Field) {m:List (TypeId×Nat)},l.map (λg=>(g.type,g.offset))=m->(l.mapM λg=>f g.type g.offset)=m.mapM λp=>f p.1 p.2
 |[],m,h=>by subst h;rfl
 |g::l,m,h=>by subst h;simp only[qE,I9];rw[Z1 f l rfl]
theorem NA{t: TypeId}{fs: Array Field}{l: List (TypeId × Nat)}{cs: ah}(hu : P.underlying t = some (.struct fs))(hf : fs.toList.map (fun g => (g.type, g.offset)) = l)(hn : fs.all (fun g => g.name != "_") = true)(hl : cs.length = P.cellsOf t)(d : Nat) :
  P.keyLits (d+1) t cs=(l.mapM λp=>P.keyLits d p.1 ((cs.drop p.2).take (P.cellsOf p.1))).map List.flatten:=by
 conv=>lhs;unfold Program.keyLits
 rw[hu];dsimp only;rw[au ⟨hl,hn⟩,Z1 (λa b=>P.keyLits d a ((cs.drop b).take (P.cellsOf a))) fs.toList hf]
theorem aJi{t e:TypeId}{n:Nat}{cs:ah}(hu:P.underlying t=some (.array n e))(hl:cs.length=P.cellsOf t)(d:Nat):
  P.keyLits (d+1) t cs=((List.range n).mapM λi=>P.keyLits d e ((cs.drop (i*P.cellsOf e)).take (P.cellsOf e))).map List.flatten:=by
 conv=>lhs;unfold Program.keyLits
 rw[hu];dsimp only;rw[au hl]
theorem aJj{t:TypeId}(hu:P.underlying t=some .bool)(b:Bool)(d:Nat):P.keyLits (d+1) t [.bool b]=some [.bool b]:=by unfold Program.keyLits;rw[hu]
theorem aJk{t:TypeId}(hu:P.underlying t=some .string)(s:ByteArray)(hs:s.size<=maxLen)(d:Nat):P.keyLits (d+1) t [.string s]=some [.string s.data.toList]:=by unfold Program.keyLits;rw[hu];dsimp only;rw[au hs]
end
section
class CR (F:Type) extends Add F,Mul F,Neg F,Sub F,Zero F,One F where
 add_assoc:∀ a b c:F,a+b+c=a+(b+c)
 add_comm:∀ a b:F,a+b=b+a
 zero_add:∀ a:F,0+a=a
 neg_add:∀ a:F,-a+a=0
 mul_assoc:∀ a b c:F,a*b*c=a*(b*c)
 mul_comm:∀ a b:F,a*b=b*a
 one_mul:∀ a:F,1*a=a
 mul_add:∀ a b c:F,a*(b+c)=a*b+a*c
 sub_def:∀ a b:F,a-b=a+-b
namespace CR
variable{F:Type}[CR F]
theorem add_zero(a:F):a+0=a:=by rw[add_comm,zero_add]
theorem add_neg(a:F):a+-a=0:=by rw[add_comm,neg_add]
theorem mul_one(a:F):a*1=a:=by rw[mul_comm,one_mul]
theorem add_mul(a b c:F):(a+b)*c=a*c+b*c:=by rw[mul_comm,mul_add,mul_comm c a,mul_comm c b]
theorem add_left_comm(a b c:F):a+(b+c)=b+(a+c):=by rw[<-add_assoc,add_comm a b,add_assoc]
theorem mul_left_comm(a b c:F):a*(b*c)=b*(a*c):=by rw[<-mul_assoc,mul_comm a b,mul_assoc]
theorem add_left_cancel{a b c:F}(h:a+b=a+c):b=c:=by have:=ch (λx=>-a+x) h;simpa only[<-add_assoc,neg_add,zero_add]using this
theorem mul_zero(a:F):a*0=0:=by apply add_left_cancel (a:=a*0);rw[<-mul_add,zero_add,add_zero]
theorem zero_mul(a:F):0*a=0:=by rw[mul_comm,mul_zero]
theorem G9{a b:F}(h:a+b=0):b=-a:=add_left_cancel (a:=a) (by rw[h,add_neg])
theorem neg_mul(a b:F):-a*b=-(a*b):=G9 (by rw[<-add_mul,add_neg,zero_mul])
theorem mul_neg(a b:F):a*-b=-(a*b):=by rw[mul_comm,neg_mul,mul_comm]
theorem neg_neg(a:F):- -a=a:=(G9 (neg_add a)).symm
theorem CL(a b:F):-(a+b)=-a+-b:=
 (G9 (by rw[add_assoc,add_left_comm b,<-add_assoc,add_neg,zero_add,add_neg])).symm
theorem neg_zero:-(0:F)=0:=(G9 (zero_add 0)).symm
def ofNat:Nat->F
 |0=>0
 |n+1=>ofNat n+1
def ofInt:Int->F
 |.ofNat n=>ofNat n
 |.negSucc n=>-ofNat (n+1)
theorem ofNat_add(a b:Nat):(ofNat (a+b):F)=ofNat a+ofNat b:=by
 induction b with
 |zero=>simp[ofNat,add_zero]
 |succ b ih=>rw[<-tX];simp only[ofNat];rw[ih,add_assoc]
theorem ofNat_mul(a b:Nat):(ofNat (a*b):F)=ofNat a*ofNat b:=by
 induction b with
 |zero=>simp[ofNat,mul_zero]
 |succ b ih=>rw[MG,ofNat_add,ih];simp only[ofNat];rw[mul_add,mul_one]
theorem ofInt_sub(a b:Nat):(ofInt ((a:Int)-b):F)=ofNat a+-ofNat b:=by
 rcases Ns b a with h|h
 ·obtain⟨c,rfl⟩:=Nat.le.dest h;rw[show((b+c:Nat):Int)-b=Int.ofNat c by simp[vt];omega];simp only[ofInt];rw[ofNat_add,add_comm (ofNat b),add_assoc,add_neg,add_zero]
 ·obtain⟨c,rfl⟩:=Nat.le.dest h;cases c with
  |zero=>rw[show(a:Int)-((a+0:Nat):Int)=Int.ofNat 0 by simp];simp[ofInt,ofNat,add_neg]
  |succ c=>
   rw[show(a:Int)-((a+(c+1):Nat):Int)=Int.negSucc c by omega];simp only[ofInt];rw[ofNat_add a (c+1),CL,<-add_assoc,add_neg,zero_add]
theorem ofInt_neg(a:Int):(ofInt (-a):F)=-ofInt a:=by
 cases a with
 |ofNat n=>
  cases n with
  |zero=>simp[ofInt,ofNat,neg_zero]
  |succ n=>rfl
 |negSucc n=>rw[show -(Int.negSucc n)=Int.ofNat (n+1)from rfl];simp only[ofInt];rw[neg_neg]
theorem rW(a:Int):∃ m n:Nat,a=(m:Int)-n:=by
 cases a with
 |ofNat m=>exact⟨m,0,by simp⟩
 |negSucc n=>exact⟨0,n+1,by omega⟩
theorem ofInt_add(a b:Int):(ofInt (a+b):F)=ofInt a+ofInt b:=by obtain⟨m,n,rfl⟩:=rW a;obtain⟨p,q,rfl⟩:=rW b;rw[show(m:Int)-n+(p-q)=((m+p:Nat):Int)-(n+q:Nat)by omega];rw[ofInt_sub,ofInt_sub,ofInt_sub,ofNat_add,ofNat_add,CL];simp only[add_assoc,add_left_comm]
theorem ofInt_mul(a b:Int):(ofInt (a*b):F)=ofInt a*ofInt b:=by
 obtain⟨m,n,rfl⟩:=rW a;obtain⟨p,q,rfl⟩:=rW b;rw[show((m:Int)-n)*(p-q)=((m*p+n*q:Nat):Int)-(m*q+n*p:Nat)by simp only[vt,nM,Int.sub_mul,Int.mul_sub];omega]
 rw[ofInt_sub,ofInt_sub,ofInt_sub];simp only[ofNat_add,ofNat_mul,add_mul,mul_add,neg_mul,mul_neg,CL,neg_neg];simp only[add_assoc,add_left_comm,add_comm]
end CR
open CR
inductive E where
 |var (i:Nat)
 |num (n:Int)
 |add (a b:E)
 |mul (a b:E)
 |neg (a:E)
 |sub (a b:E)
 |one
namespace E
instance:Add E:=⟨E.add⟩
instance:Mul E:=⟨E.mul⟩
instance:Neg E:=⟨E.neg⟩
instance:Sub E:=⟨E.sub⟩
instance:Zero E:=⟨E.num 0⟩
instance:One E:=⟨E.one⟩
def den{F:Type}[CR F](ρ:Nat->F):E->F
 |.var i=>ρ i
 |.num n=>ofInt n
 |.add a b=>den ρ a+den ρ b
 |.mul a b=>den ρ a*den ρ b
 |.neg a=>-den ρ a
 |.sub a b=>den ρ a-den ρ b
 |.one=>1
abbrev Mon:=List Nat
abbrev Poly:=List (Mon×Int)
def NB(v:Nat):Mon->Mon
 |[]=>[v]
 |u::m=>if Nat.ble v u then v::u::m else u::NB v m
def JL(m n:Mon):Mon:=m.foldr NB n
def EP:Mon->Mon->Bool
 |[],[]=>true
 |a::m,b::n=>Nat.beq a b&&EP m n
 |_,_=>false
def mlt:Mon->Mon->Bool
 |[],[]=>false
 |[],_::_=>true
 |_::_,[]=>false
 |a::m,b::n=>if Nat.beq a b then mlt m n else Nat.blt a b
def pins(m:Mon)(a:Int):Poly->Poly
 |[]=>[(m,a)]
 |(n,b)::p=>if EP m n then(if a+b=0 then p else(n,a+b)::p)else if mlt m n then(m,a)::(n,b)::p else(n,b)::pins m a p
def Ha(p q:Poly):Poly:=p.foldr (λx acc=>pins x.1 x.2 acc) q
def JM(m:Mon)(a:Int)(q:Poly)(acc:Poly):Poly:=q.foldr (λx acc=>pins (JL m x.1) (a*x.2) acc) acc
def JN(p q:Poly):Poly:=p.foldr (λx acc=>JM x.1 x.2 q acc) []
def norm:E->Poly
 |.var i=>[([i],1)]
 |.num n=>if n=0 then[]else[([],n)]
 |.add a b=>Ha (norm a) (norm b)
 |.mul a b=>JN (norm a) (norm b)
 |.neg a=>(norm a).map λx=>(x.1,-x.2)
 |.sub a b=>Ha (norm a) ((norm b).map λx=>(x.1,-x.2))
 |.one=>[([],1)]
def peq:Poly->Poly->Bool
 |[],[]=>true
 |(m,a)::p,(n,b)::q=>EP m n&&(a==b)&&peq p q
 |_,_=>false
section
variable{F:Type}[CR F](ρ:Nat->F)
def rY:Mon->F
 |[]=>1
 |v::m=>ρ v*rY m
def jS:Poly->F
 |[]=>0
 |(m,a)::p=>ofInt a*rY ρ m+jS p
theorem aJl(v:Nat)(m:Mon):rY ρ (NB v m)=ρ v*rY ρ m:=by
 induction m with
 |nil=>rfl
 |cons u m ih=>
  simp only[NB];split
  ·rfl
  ·simp only[rY];rw[ih,mul_left_comm]
theorem aJm(m n:Mon):rY ρ (JL m n)=rY ρ m*rY ρ n:=by
 induction m with
 |nil=>simp only[JL,S2,rY,one_mul]
 |cons v m ih=>simp only[JL,S3,aJl];simp only[JL]at ih;rw[ih];simp only[rY];rw[mul_assoc]
theorem Z2{m n:Mon}(h:EP m n=true):m=n:=by
 induction m generalizing n with
 |nil=>cases n<;>simp_all [EP]
 |cons a m ih=>
  cases n with
  |nil=>simp[EP]at h
  |cons b n=>
   simp only[EP,cY]at h;rw[QJ h.1,ih h.2]
theorem Z3(m:Mon)(a:Int)(p:Poly):jS ρ (pins m a p)=ofInt a*rY ρ m+jS ρ p:=by
 induction p with
 |nil=>rfl
 |cons x p ih=>
  obtain⟨n,b⟩:=x;simp only[pins];split
  ·rename_i h;have:=Z2 h;subst this;split
   ·rename_i h0;simp only[jS];rw[<-add_assoc,<-add_mul,<-ofInt_add,h0];rw[show(ofInt 0:F)=0 from rfl,zero_mul,zero_add]
   ·simp only[jS];rw[ofInt_add,add_mul,add_assoc]
  ·split
   ·rfl
   ·simp only[jS];rw[ih,add_left_comm]
theorem Z4(p q:Poly):jS ρ (Ha p q)=jS ρ p+jS ρ q:=by
 induction p with
 |nil=>simp only[Ha,S2,jS,zero_add]
 |cons x p ih=>simp only[Ha,S3,Z3];simp only[Ha]at ih;rw[ih];simp only[jS];rw[add_assoc]
theorem aJn(m:Mon)(a:Int)(q acc:Poly):jS ρ (JM m a q acc)=ofInt a*rY ρ m*jS ρ q+jS ρ acc:=by
 induction q with
 |nil=>simp only[JM,S2,jS,mul_zero,zero_add]
 |cons x q ih=>
  simp only[JM,S3,Z3];simp only[JM]at ih;rw[ih];simp only[jS];rw[aJm,ofInt_mul,mul_add,<-add_assoc]
  congr 2
  simp only[mul_assoc,mul_left_comm]
theorem aJo(p q:Poly):jS ρ (JN p q)=jS ρ p*jS ρ q:=by
 induction p with
 |nil=>simp only[JN,S2,jS,zero_mul]
 |cons x p ih=>simp only[JN,S3,aJn];simp only[JN]at ih;rw[ih];simp only[jS];rw[add_mul]
theorem Z5(p:Poly):jS ρ (p.map λx=>(x.1,-x.2))=-jS ρ p:=by
 induction p with
 |nil=>simp only[M8,jS,neg_zero]
 |cons x p ih=>simp only[qE,jS];rw[ih,ofInt_neg,neg_mul,CL]
theorem Z6(e:E):jS ρ (norm e)=den ρ e:=by
 induction e with
 |var i=>
  simp only[norm,jS,rY,den,mul_one,add_zero];rw[show(ofInt 1:F)=0+1 from rfl,zero_add,one_mul]
 |num n=>
  simp only[norm];split
  ·rename_i h;subst h;rfl
  ·simp only[jS,rY,den,mul_one,add_zero]
 |add a b JO JP=>simp only[norm,den,Z4,JO,JP]
 |mul a b JO JP=>simp only[norm,den,aJo,JO,JP]
 |neg a ih=>simp only[norm,den,Z5,ih]
 |sub a b JO JP=>simp only[norm,den,Z4,Z5,JO,JP,sub_def]
 |one=>simp only[norm,jS,rY,den,mul_one,add_zero];rw[show(ofInt 1:F)=0+1 from rfl,zero_add]
theorem aJp{p q:Poly}(h:peq p q=true):p=q:=by
 induction p generalizing q with
 |nil=>cases q<;>simp_all [peq]
 |cons x p ih=>
  obtain⟨m,a⟩:=x;cases q with
  |nil=>simp[peq]at h
  |cons y q=>
   obtain⟨n,b⟩:=y;simp only[peq,cY,beq_iff_eq]at h;rw[Z2 h.1.1,h.1.2,ih h.2]
theorem prove(l r:E)(h:peq l.norm r.norm=true):l.den ρ=r.den ρ:=by rw[<-Z6,<-Z6,aJp h]
end
end E
def rZ{F:Type}[CR F](l:List F):Nat->F:=λi=>l.getD i 0
end
section
open CR
class OF (F:Type) extends CR F,Inv F where
 lI:∀ x:F,x≠0->x*x⁻¹=1
 inv_zero:(0:F)⁻¹=0
 aB:F->Int
 e7:∀ x:F,aB x=0↔x=0
 iH:∀ x:F,aB x=-1\/aB x=0\/aB x=1
 o7:∀ x:F,aB (-x)=- aB x
 lY:∀ x y:F,aB (x*y)=aB x*aB y
 CM:∀ x y:F,aB x=1->aB y=1->aB (x+y)=1
 Hb:aB (1:F)=1
namespace OF
variable{F:Type}[OF F]
instance:LT F:=⟨λa b=>aB (b-a)=1⟩
instance:LE F:=⟨λa b=>aB (b-a)≠-1⟩
theorem lt_def(a b:F):(a<b)=(aB (b-a)=1):=rfl
theorem le_def(a b:F):(a<=b)=(aB (b-a)≠-1):=rfl
instance(a b:F):Decidable (a<b):=inferInstanceAs (Decidable (aB (b-a)=1))
instance(a b:F):Decidable (a<=b):=inferInstanceAs (Decidable (aB (b-a)≠-1))
theorem Hc(a:F)(l r:E->E)(h:E.peq (l (.var 0)).norm (r (.var 0)).norm=true):(l (.var 0)).den (rZ [a])=(r (.var 0)).den (rZ [a]):=E.prove _ _ _ h
theorem kt(a b:F)(l r:E->E->E)(h:E.peq (l (.var 0) (.var 1)).norm (r (.var 0) (.var 1)).norm=true):
  (l (.var 0) (.var 1)).den (rZ [a,b])=(r (.var 0) (.var 1)).den (rZ [a,b]):=E.prove _ _ _ h
theorem k6(a b c:F)(l r:E->E->E->E)(h:E.peq (l (.var 0) (.var 1) (.var 2)).norm (r (.var 0) (.var 1) (.var 2)).norm=true):
  (l (.var 0) (.var 1) (.var 2)).den (rZ [a,b,c])=(r (.var 0) (.var 1) (.var 2)).den (rZ [a,b,c]):=E.prove _ _ _ h
theorem ER(a b c d:F)(l r:E->E->E->E->E)(h:E.peq (l (.var 0) (.var 1) (.var 2) (.var 3)).norm (r (.var 0) (.var 1) (.var 2) (.var 3)).norm=true):
  (l (.var 0) (.var 1) (.var 2) (.var 3)).den (rZ [a,b,c,d])=(r (.var 0) (.var 1) (.var 2) (.var 3)).den (rZ [a,b,c,d]):=E.prove _ _ _ h
theorem JQ(a b c d e:F)(l r:E->E->E->E->E->E)
  (h:E.peq (l (.var 0) (.var 1) (.var 2) (.var 3) (.var 4)).norm (r (.var 0) (.var 1) (.var 2) (.var 3) (.var 4)).norm=true) :
  (l (.var 0) (.var 1) (.var 2) (.var 3) (.var 4)).den (rZ [a,b,c,d,e])=(r (.var 0) (.var 1) (.var 2) (.var 3) (.var 4)).den (rZ [a,b,c,d,e]):=E.prove _ _ _ h
theorem aJq(a b c d e f:F)(l r:E->E->E->E->E->E->E)
  (h:E.peq (l (.var 0) (.var 1) (.var 2) (.var 3) (.var 4) (.var 5)).norm (r (.var 0) (.var 1) (.var 2) (.var 3) (.var 4) (.var 5)).norm=true) :
  (l (.var 0) (.var 1) (.var 2) (.var 3) (.var 4) (.var 5)).den (rZ [a,b,c,d,e,f])=(r (.var 0) (.var 1) (.var 2) (.var 3) (.var 4) (.var 5)).den (rZ [a,b,c,d,e,f]):=E.prove _ _ _ h
theorem sub_zero(a:F):a-0=a:=Hc a (λa=>a-0) (λa=>a) d_
theorem sub_self(a:F):a-a=0:=Hc a (λa=>a-a) (λ_=>0) d_
theorem sub_eq_zero{a b:F}:a-b=0↔a=b:=by
 constructor
 ·intro h;have:a=(a-b)+b:=kt a b (λa _=>a) (λa b=>(a-b)+b) d_;rw[this,h,CR.zero_add]
 ·rintro rfl;exact sub_self a
theorem iz{a:F}:0<a↔aB a=1:=by rw[lt_def,sub_zero]
theorem Hd{a:F}:a<0↔aB a=-1:=by rw[lt_def,show(0:F)-a=-a from Hc a (λa=>0-a) (λa=>-a) d_,o7];omega
theorem NC{a:F}:a=0↔aB a=0:=(e7 a).symm
theorem JR{a:F}:0<=a↔aB a≠-1:=by rw[le_def,sub_zero]
theorem S4{a:F}:a<=0↔aB a≠1:=by rw[le_def,show(0:F)-a=-a from Hc a (λa=>0-a) (λa=>-a) d_,o7];omega
theorem neg_sub(a b:F):-(a-b)=b-a:=kt a b (λa b=>-(a-b)) (λa b=>b-a) d_
theorem ES(a b:F):aB (a-b)=- aB (b-a):=by rw[<-neg_sub,o7]
theorem lt_irrefl(a:F):¬a<a:=by rw[lt_def,sub_self,(e7 (0:F)).2 rfl];decide
theorem not_lt{a b:F}:¬a<b↔b<=a:=by rw[lt_def,le_def,ES a b];omega
theorem not_le{a b:F}:¬a<=b↔b<a:=by rw[lt_def,le_def,ES a b];rcases iH (b-a)with h|h|h<;>rw[h]<;>decide
theorem lt_trans{a b c:F}(h:a<b)(k:b<c):a<c:=by rw[lt_def]at *;rw[show c-a=(c-b)+(b-a)from k6 a b c (λa _ c=>c-a) (λa b c=>(c-b)+(b-a)) d_];exact CM _ _ k h
theorem le_of_lt{a b:F}(h:a<b):a<=b:=by rw[lt_def]at h;rw[le_def,h];decide
theorem le_refl(a:F):a<=a:=by rw[le_def,sub_self,(e7 (0:F)).2 rfl];decide
theorem le_of_eq{a b:F}(h:a=b):a<=b:=h▸le_refl a
theorem o8{a b:F}(h:a<=b):a<b\/a=b:=by
 rw[le_def]at h;rw[lt_def];rcases iH (b-a)with k|k|k
 ·exact absurd k h
 ·exact .inr (sub_eq_zero.1 ((e7 _).1 k)).symm
 ·exact .inl k
theorem lt_of_lt_of_le{a b c:F}(h:a<b)(k:b<=c):a<c:=by
 rcases o8 k with k|rfl
 ·exact lt_trans h k
 ·exact h
theorem lt_of_le_of_lt{a b c:F}(h:a<=b)(k:b<c):a<c:=by
 rcases o8 h with h|rfl
 ·exact lt_trans h k
 ·exact k
theorem le_trans{a b c:F}(h:a<=b)(k:b<=c):a<=c:=by
 rcases o8 h with h|rfl
 ·exact le_of_lt (lt_of_lt_of_le h k)
 ·exact k
theorem le_antisymm{a b:F}(h:a<=b)(k:b<=a):a=b:=by
 rcases o8 h with h|h
 ·exact absurd (lt_of_lt_of_le h k) (lt_irrefl a)
 ·exact h
theorem lt_trichotomy(a b:F):a<b\/a=b\/b<a:=by
 by_cases h:a<b
 ·exact .inl h
 ·rcases o8 (not_lt.1 h)with h|h
  ·exact .inr (.inr h)
  ·exact .inr (.inl h.symm)
theorem le_total(a b:F):a<=b\/b<=a:=by
 by_cases h:a<b
 ·exact .inl (le_of_lt h)
 ·exact .inr (not_lt.1 h)
theorem ne_of_lt{a b:F}(h:a<b):a≠b:=λe=>lt_irrefl b (e▸h)
theorem ne_of_gt{a b:F}(h:a<b):b≠a:=λe=>lt_irrefl b (e▸h)
theorem sub_pos{a b:F}:0<b-a↔a<b:=by rw[iz,lt_def]
theorem sub_nonneg{a b:F}:0<=b-a↔a<=b:=by rw[JR,le_def]
theorem add_pos{a b:F}(h:0<a)(k:0<b):0<a+b:=by rw[iz]at *;exact CM _ _ h k
theorem add_nonneg{a b:F}(h:0<=a)(k:0<=b):0<=a+b:=by
 rcases o8 h with h|h
 ·rcases o8 k with k|k
  ·exact le_of_lt (add_pos h k)
  ·rw[<-k,CR.add_zero];exact le_of_lt h
 ·rw[<-h,CR.zero_add];exact k
theorem He{a b:F}(h:0<a)(k:0<=b):0<a+b:=by
 rcases o8 k with k|k
 ·exact add_pos h k
 ·rw[<-k,CR.add_zero];exact h
theorem Z7{a b:F}(h:0<=a)(k:0<b):0<a+b:=by rw[CR.add_comm];exact He k h
theorem mul_pos{a b:F}(h:0<a)(k:0<b):0<a*b:=by rw[iz]at *;rw[lY,h,k];rfl
theorem mul_nonneg{a b:F}(h:0<=a)(k:0<=b):0<=a*b:=by
 rcases o8 h with h|h
 ·rcases o8 k with k|k
  ·exact le_of_lt (mul_pos h k)
  ·rw[<-k,CR.mul_zero];exact le_refl _
 ·rw[<-h,CR.zero_mul];exact le_refl _
theorem neg_pos{a:F}:0 < -a↔a<0:=by rw[iz,Hd,o7];omega
theorem neg_nonneg{a:F}:0<=-a↔a<=0:=by rw[JR,S4,o7];omega
theorem JS{a:F}:-a<0↔0<a:=by rw[iz,Hd,o7];omega
theorem JT{a:F}:-a<=0↔0<=a:=by rw[JR,S4,o7];omega
theorem zero_lt_one:(0:F)<1:=by rw[iz];exact Hb
theorem mK(a:F):0<=a*a:=by rw[JR,lY];rcases iH a with h|h|h<;>rw[h]<;>decide
theorem S5{a:F}(h:a≠0):0<a*a:=by
 rw[iz,lY];rcases iH a with k|k|k
 ·rw[k];decide
 ·exact absurd ((e7 a).1 k) h
 ·rw[k];decide
theorem mul_eq_zero{a b:F}:a*b=0↔a=0\/b=0:=by rw[<-e7,lY,<-e7,<-e7,Int.mul_eq_zero]
theorem mul_ne_zero{a b:F}(h:a≠0)(k:b≠0):a*b≠0:=λe=>by
 rcases mul_eq_zero.1 e with e|e
 ·exact h e
 ·exact k e
theorem mul_lt_mul_left{a b c:F}(hc:0<c):c*a<c*b↔a<b:=by rw[lt_def,lt_def,show c*b-c*a=c*(b-a)from k6 a b c (λa b c=>c*b-c*a) (λa b c=>c*(b-a)) d_,lY,iz.1 hc,Ny]
theorem mul_le_mul_left{a b c:F}(hc:0<c):c*a<=c*b↔a<=b:=by rw[le_def,le_def,show c*b-c*a=c*(b-a)from k6 a b c (λa b c=>c*b-c*a) (λa b c=>c*(b-a)) d_,lY,iz.1 hc,Ny]
theorem add_lt_add_left{a b:F}(c:F):c+a<c+b↔a<b:=by rw[lt_def,lt_def,show c+b-(c+a)=b-a from k6 a b c (λa b c=>c+b-(c+a)) (λa b _=>b-a) d_]
theorem add_le_add_left{a b:F}(c:F):c+a<=c+b↔a<=b:=by rw[le_def,le_def,show c+b-(c+a)=b-a from k6 a b c (λa b c=>c+b-(c+a)) (λa b _=>b-a) d_]
theorem add_lt_add_right{a b:F}(c:F):a+c<b+c↔a<b:=by rw[CR.add_comm a,CR.add_comm b];exact add_lt_add_left c
theorem add_le_add_right{a b:F}(c:F):a+c<=b+c↔a<=b:=by rw[CR.add_comm a,CR.add_comm b];exact add_le_add_left c
theorem add_le_add{a b c d:F}(h:a<=b)(k:c<=d):a+c<=b+d:=le_trans ((add_le_add_right c).2 h) ((add_le_add_left b).2 k)
theorem add_lt_add_of_lt_of_le{a b c d:F}(h:a<b)(k:c<=d):a+c<b+d:=lt_of_lt_of_le ((add_lt_add_right c).2 h) ((add_le_add_left b).2 k)
theorem add_lt_add_of_le_of_lt{a b c d:F}(h:a<=b)(k:c<d):a+c<b+d:=lt_of_le_of_lt ((add_le_add_right c).2 h) ((add_lt_add_left b).2 k)
theorem inv_mul{a:F}(h:a≠0):a⁻¹*a=1:=by rw[CR.mul_comm,lI a h]
theorem aJr(a:F):aB a⁻¹=aB a:=by
 by_cases h:a=0
 ·rw[h,inv_zero]
 ·have:=lY a a⁻¹;rw[lI a h,Hb]at this;rcases iH a with k|k|k<;>rcases iH a⁻¹ with l|l|l<;>rw[k,l]at this ⊢<;>omega
theorem inv_pos{a:F}(h:0<a):0<a⁻¹:=by rw[iz]at *;rw[aJr,h]
theorem JU{u v:F}(h:v*v<u*u):aB (u+v)=aB u:=by
 have e:(u+v)*(u-v)=u*u-v*v:=kt u v (λu v=>(u+v)*(u-v)) (λu v=>u*u-v*v) d_;have s:aB (u+v)*aB (u-v)=1:=by rw[<-lY,e];exact h
 have t:(u+v)+(u-v)=u+u:=kt u v (λu v=>(u+v)+(u-v)) (λu _=>u+u) d_;have two:∀ x y:F,aB x=1->aB y=1->x+y=u+u->aB u=1:=by
  intro x y hx hy km;have:=CM x y hx hy;rw[km]at this;rcases iH u with k|k|k
  ·have h2:=CM (-u) (-u) (by rw[o7,k];rfl) (by rw[o7,k];rfl);rw[<-CR.CL,o7,this]at h2;exact absurd h2 d_
  ·rw[(e7 u).1 k,CR.add_zero,(e7 (0:F)).2 rfl]at this;exact absurd this d_
  ·exact k
 rcases iH (u+v)with k|k|k<;>rcases iH (u-v)with l|l|l<;>rw[k,l]at s<;>first|exact absurd s d_|skip
 ·have h1:=CM (-(u+v)) (-(u-v)) (by rw[o7,k];rfl) (by rw[o7,l];rfl);rw[<-CR.CL,t,CR.CL]at h1;rw[k];rcases iH u with m|m|m
  ·exact m.symm
  ·rw[(e7 u).1 m,CR.neg_zero,CR.add_zero,(e7 (0:F)).2 rfl]at h1;exact absurd h1 d_
  ·have h2:=CM u u m m;rw[<-CR.CL,o7,h2]at h1;exact absurd h1 d_
 ·rw[k,two _ _ k l t]
theorem Z8{a b:F}(h:0<a):aB (a*b)=aB b:=by rw[lY,iz.1 h,Ny]
theorem mul_lt_mul''{a b c d:F}(ha:0<=a)(h:a<b)(hc:0<=c)(k:c<d):a*c<b*d:=by have hb:=lt_of_le_of_lt ha h;have hd:=lt_of_le_of_lt hc k;have e:b*d-a*c=(b-a)*d+a*(d-c):=ER a b c d (λa b c d=>b*d-a*c) (λa b c d=>(b-a)*d+a*(d-c)) d_;rw[<-sub_pos,e];exact He (mul_pos (sub_pos.2 h) hd) (mul_nonneg ha (sub_nonneg.2 (le_of_lt k)))
end OF
end
section
open CR OF
class xc (F:Type) [OF F] (s:F):Prop where
 pos:0<s
 S6:∀ x y:F,x*x=s*(y*y)->y=0
@[ext] structure bA (F:Type) (s:F) where
 re:F
 im:F
namespace bA
variable{F:Type}[OF F]{s:F}
instance:Add (bA F s):=⟨λx y=>⟨x.re+y.re,x.im+y.im⟩⟩
instance:Mul (bA F s):=⟨λx y=>⟨x.re*y.re+s*(x.im*y.im),x.re*y.im+x.im*y.re⟩⟩
instance:Neg (bA F s):=⟨λx=>⟨-x.re,-x.im⟩⟩
instance:Sub (bA F s):=⟨λx y=>⟨x.re-y.re,x.im-y.im⟩⟩
instance:Zero (bA F s):=⟨⟨0,0⟩⟩
instance:One (bA F s):=⟨⟨1,0⟩⟩
def nm(x:bA F s):F:=x.re*x.re-s*(x.im*x.im)
instance:Inv (bA F s):=⟨λx=>⟨x.re*(nm x)⁻¹,-(x.im*(nm x)⁻¹)⟩⟩
def sg(x:bA F s):Int:=if aB (nm x)=1 then aB x.re else aB x.im
theorem S7(x y:bA F s):(x+y).re=x.re+y.re:=rfl
theorem S8(x y:bA F s):(x+y).im=x.im+y.im:=rfl
theorem Hf(x y:bA F s):(x*y).re=x.re*y.re+s*(x.im*y.im):=rfl
theorem Hg(x y:bA F s):(x*y).im=x.re*y.im+x.im*y.re:=rfl
theorem ND(x:bA F s):(-x).re=-x.re:=rfl
theorem NF(x:bA F s):(-x).im=-x.im:=rfl
theorem Hh:(0:bA F s).re=0:=rfl
theorem Hi:(0:bA F s).im=0:=rfl
theorem S9:(1:bA F s).re=1:=rfl
theorem Z9:(1:bA F s).im=0:=rfl
theorem Ta(x:bA F s):(x⁻¹).re=x.re*(nm x)⁻¹:=rfl
theorem Tb(x:bA F s):(x⁻¹).im=-(x.im*(nm x)⁻¹):=rfl
theorem NG(x y:bA F s):nm (x*y)=nm x*nm y:=by
 unfold nm;rw[Hf,Hg]
 exact JQ x.re x.im y.re y.im s (λa b c d s=>(a*c+s*(b*d))*(a*c+s*(b*d))-s*((a*d+b*c)*(a*d+b*c)))
  (λa b c d s=>(a*a-s*(b*b))*(c*c-s*(d*d))) d_
theorem aAa(x:bA F s):nm (-x)=nm x:=by unfold nm;rw[ND,NF];exact k6 x.re x.im s (λa b s=>-a*-a-s*(-b*-b)) (λa b s=>a*a-s*(b*b)) d_
theorem r5{x:bA F s}(h:aB (nm x)=1):sg x=aB x.re:=by unfold sg;rw[au h]
theorem tj{x:bA F s}(h:aB (nm x)=-1):sg x=aB x.im:=by unfold sg;rw[al (by rw[h];decide)]
theorem Hj:sg (0:bA F s)=0:=by unfold sg;split<;>exact(e7 _).2 rfl
theorem Tc(x:bA F s):sg (-x)=- sg x:=by unfold sg;rw[aAa,ND,NF,OF.o7,OF.o7];split<;>rfl
theorem aJs(x:bA F s):sg x=-1\/sg x=0\/sg x=1:=by unfold sg;split<;>exact iH _
theorem NH(x:bA F s):(-x).re*(-x).re=x.re*x.re/\(-x).im*(-x).im=x.im*x.im:=by rw[ND,NF];exact⟨Hc x.re (λa=>-a*-a) (λa=>a*a) d_,Hc x.im (λa=>-a*-a) (λa=>a*a) d_⟩
theorem aJt(x y:bA F s):x+y=y+x:=bA.ext (CR.add_comm _ _) (CR.add_comm _ _)
theorem aJu:sg (1:bA F s)=1:=by
 have:nm (1:bA F s)=1:=by unfold nm;rw[S9,Z9,CR.mul_zero,CR.mul_zero,OF.sub_zero,CR.one_mul]
 rw[r5 (by rw[this];exact Hb),S9];exact Hb
variable[hs:xc F s]
theorem NI{x:bA F s}(h:nm x=0):x=0:=by
 have h1:=OF.sub_eq_zero.1 h;have h2:=xc.S6 _ _ h1;have h3:x.re=0:=by rw[h2,CR.mul_zero,CR.mul_zero]at h1;rcases mul_eq_zero.1 h1 with h|h<;>exact h
 exact bA.ext h3 h2
theorem ways(x:bA F s):x=0\/(aB (nm x)=1/\s*(x.im*x.im)<x.re*x.re)\/(aB (nm x)=-1/\x.re*x.re<s*(x.im*x.im)):=by
 rcases OF.lt_trichotomy (x.re*x.re) (s*(x.im*x.im))with h|h|h
 ·refine .inr (.inr ⟨?_,h⟩);unfold nm;rw[ES,show aB (s*(x.im*x.im)-x.re*x.re)=1 from h]
 ·exact .inl (NI (OF.sub_eq_zero.2 h))
 ·exact .inr (.inl ⟨h,h⟩)
theorem aJv:aB s=1:=iz.1 (xc.pos (F:=F) (s:=s))
theorem aJw(x y:bA F s):sg (x*y)=sg x*sg y:=by
 have hz:∀ z:bA F s,(0:bA F s)*z=0:=λz=>by
  apply bA.ext
  ·rw[Hf,Hh,Hi,CR.zero_mul,CR.zero_mul,CR.mul_zero,CR.add_zero]
  ·rw[Hg,Hh,Hi,CR.zero_mul,CR.zero_mul,CR.add_zero]
 have lQ:∀ z:bA F s,z*(0:bA F s)=0:=λz=>by
  apply bA.ext
  ·rw[Hf,Hh,Hi,CR.mul_zero,CR.mul_zero,CR.mul_zero,CR.add_zero]
  ·rw[Hg,Hh,Hi,CR.mul_zero,CR.mul_zero,CR.add_zero]
 have hp:=xc.pos (F:=F) (s:=s);rcases ways x with rfl|⟨hx,lx⟩|⟨hx,lx⟩
 ·rw[hz,Hj,Int.zero_mul]
 ·rcases ways y with rfl|⟨hy,ly⟩|⟨hy,ly⟩
  ·rw[lQ,Hj,Int.mul_zero]
  ·have hn:aB (nm (x*y))=1:=by rw[NG,lY,hx,hy];rfl
   rw[r5 hx,r5 hy,r5 hn,<-lY,Hf];apply JU;have:=mul_lt_mul'' (mul_nonneg (le_of_lt hp) (mK _)) lx (mul_nonneg (le_of_lt hp) (mK _)) ly;rw[show s*(x.im*y.im)*(s*(x.im*y.im))=s*(x.im*x.im)*(s*(y.im*y.im))from k6 x.im y.im s (λb d s=>s*(b*d)*(s*(b*d))) (λb d s=>s*(b*b)*(s*(d*d))) d_];rw[show x.re*y.re*(x.re*y.re)=x.re*x.re*(y.re*y.re)from kt x.re y.re (λa c=>a*c*(a*c)) (λa c=>a*a*(c*c)) d_];exact this
  ·have hn:aB (nm (x*y))=-1:=by rw[NG,lY,hx,hy];rfl
   rw[r5 hx,tj hy,tj hn,<-lY,Hg];apply JU;have:=mul_lt_mul'' (mul_nonneg (le_of_lt hp) (mK _)) lx (mK _) ly;rw[<-mul_lt_mul_left hp];rw[show s*(x.im*y.re*(x.im*y.re))=s*(x.im*x.im)*(y.re*y.re)from k6 x.im y.re s (λb c s=>s*(b*c*(b*c))) (λb c s=>s*(b*b)*(c*c)) d_];rw[show s*(x.re*y.im*(x.re*y.im))=x.re*x.re*(s*(y.im*y.im))from k6 x.re y.im s (λa d s=>s*(a*d*(a*d))) (λa d s=>a*a*(s*(d*d))) d_];exact this
 ·rcases ways y with rfl|⟨hy,ly⟩|⟨hy,ly⟩
  ·rw[lQ,Hj,Int.mul_zero]
  ·have hn:aB (nm (x*y))=-1:=by rw[NG,lY,hx,hy];rfl
   rw[tj hx,r5 hy,tj hn,<-lY,Hg,CR.add_comm];apply JU;have:=mul_lt_mul'' (mK _) lx (mul_nonneg (le_of_lt hp) (mK _)) ly;rw[<-mul_lt_mul_left hp];rw[show s*(x.im*y.re*(x.im*y.re))=s*(x.im*x.im)*(y.re*y.re)from k6 x.im y.re s (λb c s=>s*(b*c*(b*c))) (λb c s=>s*(b*b)*(c*c)) d_];rw[show s*(x.re*y.im*(x.re*y.im))=x.re*x.re*(s*(y.im*y.im))from k6 x.re y.im s (λa d s=>s*(a*d*(a*d))) (λa d s=>a*a*(s*(d*d))) d_];exact this
  ·have hn:aB (nm (x*y))=1:=by rw[NG,lY,hx,hy];rfl
   rw[tj hx,tj hy,r5 hn,<-lY,Hf,CR.add_comm];rw[show aB (x.im*y.im)=aB (s*(x.im*y.im))by rw[Z8 hp]];apply JU;have:=mul_lt_mul'' (mK _) lx (mK _) ly;rw[show s*(x.im*y.im)*(s*(x.im*y.im))=s*(x.im*x.im)*(s*(y.im*y.im))from k6 x.im y.im s (λb d s=>s*(b*d)*(s*(b*d))) (λb d s=>s*(b*b)*(s*(d*d))) d_];rw[show x.re*y.re*(x.re*y.re)=x.re*x.re*(y.re*y.re)from kt x.re y.re (λa c=>a*c*(a*c)) (λa c=>a*a*(c*c)) d_];exact this
theorem aJx(x:bA F s):sg x=0↔x=0:=by
 constructor
 ·intro h;rcases ways x with rfl|⟨hx,lx⟩|⟨hx,lx⟩
  ·rfl
  ·rw[r5 hx]at h;rw[(e7 _).1 h,CR.mul_zero]at lx;exact absurd (lt_of_le_of_lt (mul_nonneg (le_of_lt (xc.pos (F:=F) (s:=s))) (mK _)) lx) (OF.lt_irrefl _)
  ·rw[tj hx]at h;rw[(e7 _).1 h,CR.mul_zero,CR.mul_zero]at lx;exact absurd (lt_of_le_of_lt (mK _) lx) (OF.lt_irrefl _)
 ·rintro rfl;exact Hj
theorem aAb{u v:F}(hu:0<u)(h:v*v<u*u):0<u+v:=by rw[iz,JU h];exact iz.1 hu
theorem add_one{x y:bA F s}(hx:s*(x.im*x.im)<x.re*x.re)(hy:s*(y.im*y.im)<y.re*y.re)(px:0<x.re)(py:0<y.re):sg (x+y)=1:=by
 have hp:=xc.pos (F:=F) (s:=s);have:=mul_lt_mul'' (mul_nonneg (le_of_lt hp) (mK _)) hx (mul_nonneg (le_of_lt hp) (mK _)) hy;have h1:0<x.re*y.re+-(s*(x.im*y.im)):=by apply aAb (mul_pos px py);rw[show -(s*(x.im*y.im))*-(s*(x.im*y.im))=s*(x.im*x.im)*(s*(y.im*y.im))from k6 x.im y.im s (λb d s=>-(s*(b*d))*-(s*(b*d))) (λb d s=>s*(b*b)*(s*(d*d))) d_];rw[show x.re*y.re*(x.re*y.re)=x.re*x.re*(y.re*y.re)from kt x.re y.re (λa c=>a*c*(a*c)) (λa c=>a*a*(c*c)) d_];exact this
 have hn:aB (nm (x+y))=1:=by
  rw[<-iz];unfold nm;rw[S7,S8];rw[show(x.re+y.re)*(x.re+y.re)-s*((x.im+y.im)*(x.im+y.im))=(x.re*x.re-s*(x.im*x.im))+(y.re*y.re-s*(y.im*y.im))+((x.re*y.re+-(s*(x.im*y.im)))+(x.re*y.re+-(s*(x.im*y.im))))from
   JQ x.re x.im y.re y.im s (λa b c d s=>(a+c)*(a+c)-s*((b+d)*(b+d))) (λa b c d s=>(a*a-s*(b*b))+(c*c-s*(d*d))+((a*c+-(s*(b*d)))+(a*c+-(s*(b*d))))) d_]
  exact add_pos (add_pos (sub_pos.2 hx) (sub_pos.2 hy)) (add_pos h1 h1)
 rw[r5 hn,S7];exact iz.1 (add_pos px py)
theorem aAc{x y:bA F s}(hx:x.re*x.re<s*(x.im*x.im))(hy:y.re*y.re<s*(y.im*y.im))(px:0<x.im)(py:0<y.im):sg (x+y)=1:=by
 have hp:=xc.pos (F:=F) (s:=s);have:=mul_lt_mul'' (mK _) hx (mK _) hy;have h1:0<s*(x.im*y.im)+-(x.re*y.re):=by apply aAb (mul_pos hp (mul_pos px py));rw[show s*(x.im*y.im)*(s*(x.im*y.im))=s*(x.im*x.im)*(s*(y.im*y.im))from k6 x.im y.im s (λb d s=>s*(b*d)*(s*(b*d))) (λb d s=>s*(b*b)*(s*(d*d))) d_];rw[show -(x.re*y.re)*-(x.re*y.re)=x.re*x.re*(y.re*y.re)from kt x.re y.re (λa c=>-(a*c)*-(a*c)) (λa c=>a*a*(c*c)) d_];exact this
 have hn:aB (nm (x+y))=-1:=by
  rw[<-Hd,<-neg_pos];unfold nm;rw[S7,S8];rw[show -((x.re+y.re)*(x.re+y.re)-s*((x.im+y.im)*(x.im+y.im)))=(s*(x.im*x.im)-x.re*x.re)+(s*(y.im*y.im)-y.re*y.re)+((s*(x.im*y.im)+-(x.re*y.re))+(s*(x.im*y.im)+-(x.re*y.re)))from
   JQ x.re x.im y.re y.im s (λa b c d s=>-((a+c)*(a+c)-s*((b+d)*(b+d)))) (λa b c d s=>(s*(b*b)-a*a)+(s*(d*d)-c*c)+((s*(b*d)+-(a*c))+(s*(b*d)+-(a*c)))) d_]
  exact add_pos (add_pos (sub_pos.2 hx) (sub_pos.2 hy)) (add_pos h1 h1)
 rw[tj hn,S8];exact iz.1 (add_pos px py)
theorem aJy(x y:bA F s)(hx:sg x=1)(hy:sg y=1):sg (x+y)=1:=by
 have ne:∀ z:bA F s,sg z=1->z≠0:=λz h e=>by rw[e,Hj]at h;exact absurd h d_
 -- the first part of x aUc,the second one of y
 have mixed:∀ x y:bA F s,sg x=1->sg y=1->aB (nm x)=1->s*(x.im*x.im)<x.re*x.re->aB (nm y)=-1->y.re*y.re<s*(y.im*y.im)->sg (x+y)=1:=by
  intro x y hx hy nx lx ny ly;rw[r5 nx]at hx;rw[tj ny]at hy;rcases ways (x+y)with h|⟨hn,ln⟩|⟨hn,ln⟩
  ·have:y=-x:=by have h1:x.re+y.re=0:=ch bA.re h;have h2:x.im+y.im=0:=ch bA.im h;exact bA.ext (CR.G9 h1) (CR.G9 h2)
   rw[this,aAa,nx]at ny;exact absurd ny d_
  ·rw[r5 hn];rcases iH (x+y).re with k|k|k
   ·-- then -(x+y) and x add up to -y
    have h3:=add_one (x:=-(x+y)) (y:=x) (by rw[(NH _).1,(NH _).2];exact ln) lx (by rw[ND];exact neg_pos.2 (Hd.2 k)) (iz.2 hx);have h4:-(x+y)+x=-y:=bA.ext (kt x.re y.re (λa c=>-(a+c)+a) (λ_ c=>-c) d_) (kt x.im y.im (λa c=>-(a+c)+a) (λ_ c=>-c) d_);rw[h4,Tc,tj ny,hy]at h3;exact absurd h3 d_
   ·have k0:=(e7 _).1 k;rw[k0,CR.mul_zero]at ln;exact absurd (lt_of_le_of_lt (mul_nonneg (le_of_lt (xc.pos (F:=F) (s:=s))) (mK _)) ln) (OF.lt_irrefl _)
   ·exact k
  ·rw[tj hn];rcases iH (x+y).im with k|k|k
   ·have h3:=aAc (x:=-(x+y)) (y:=y) (by rw[(NH _).1,(NH _).2];exact ln) ly (by rw[NF];exact neg_pos.2 (Hd.2 k)) (iz.2 hy);have h4:-(x+y)+y=-x:=bA.ext (kt x.re y.re (λa c=>-(a+c)+c) (λa _=>-a) d_) (kt x.im y.im (λa c=>-(a+c)+c) (λa _=>-a) d_);rw[h4,Tc,r5 nx,hx]at h3;exact absurd h3 d_
   ·have k0:=(e7 _).1 k;rw[k0,CR.mul_zero,CR.mul_zero]at ln;exact absurd (lt_of_le_of_lt (mK _) ln) (OF.lt_irrefl _)
   ·exact k
 rcases ways x with h|⟨nx,lx⟩|⟨nx,lx⟩
 ·exact absurd h (ne x hx)
 ·rcases ways y with h|⟨ny,ly⟩|⟨ny,ly⟩
  ·exact absurd h (ne y hy)
  ·rw[r5 nx]at hx;rw[r5 ny]at hy;exact add_one lx ly (iz.2 hx) (iz.2 hy)
  ·exact mixed x y hx hy nx lx ny ly
 ·rcases ways y with h|⟨ny,ly⟩|⟨ny,ly⟩
  ·exact absurd h (ne y hy)
  ·rw[aJt];exact mixed y x hy hx ny ly nx lx
  ·rw[tj nx]at hx;rw[tj ny]at hy;exact aAc lx ly (iz.2 hx) (iz.2 hy)
instance:OF (bA F s) where
 add_assoc a b c:=bA.ext (CR.add_assoc _ _ _) (CR.add_assoc _ _ _)
 add_comm a b:=bA.ext (CR.add_comm _ _) (CR.add_comm _ _)
 zero_add a:=bA.ext (CR.zero_add _) (CR.zero_add _)
 neg_add a:=bA.ext (CR.neg_add _) (CR.neg_add _)
 mul_assoc x y z:=bA.ext
  (E.prove (rZ [x.re,x.im,y.re,y.im,z.re,z.im,s]) ((E.var 0*E.var 2+E.var 6*(E.var 1*E.var 3))*E.var 4+E.var 6*((E.var 0*E.var 3+E.var 1*E.var 2)*E.var 5))
   (E.var 0*(E.var 2*E.var 4+E.var 6*(E.var 3*E.var 5))+E.var 6*(E.var 1*(E.var 2*E.var 5+E.var 3*E.var 4))) d_)
  (E.prove (rZ [x.re,x.im,y.re,y.im,z.re,z.im,s]) ((E.var 0*E.var 2+E.var 6*(E.var 1*E.var 3))*E.var 5+(E.var 0*E.var 3+E.var 1*E.var 2)*E.var 4)
   (E.var 0*(E.var 2*E.var 5+E.var 3*E.var 4)+E.var 1*(E.var 2*E.var 4+E.var 6*(E.var 3*E.var 5))) d_)
 mul_comm x y:=bA.ext
  (JQ x.re x.im y.re y.im s (λa b c d s=>a*c+s*(b*d)) (λa b c d s=>c*a+s*(d*b)) d_)
  (ER x.re x.im y.re y.im (λa b c d=>a*d+b*c) (λa b c d=>c*b+d*a) d_)
 one_mul x:=bA.ext
  (k6 x.re x.im s (λa b s=>1*a+s*(0*b)) (λa _ _=>a) d_)
  (kt x.re x.im (λa b=>1*b+0*a) (λ_ b=>b) d_)
 mul_add x y z:=bA.ext
  (E.prove (rZ [x.re,x.im,y.re,y.im,z.re,z.im,s]) (E.var 0*(E.var 2+E.var 4)+E.var 6*(E.var 1*(E.var 3+E.var 5)))
   ((E.var 0*E.var 2+E.var 6*(E.var 1*E.var 3))+(E.var 0*E.var 4+E.var 6*(E.var 1*E.var 5))) d_)
  (aJq x.re x.im y.re y.im z.re z.im (λa b c d e f=>a*(d+f)+b*(c+e)) (λa b c d e f=>(a*d+b*c)+(a*f+b*e)) d_)
 sub_def a b:=bA.ext (CR.sub_def _ _) (CR.sub_def _ _)
 lI x h:=by
  have hn:nm x≠0:=λe=>h (NI e);have h1:=lI (nm x) hn;apply bA.ext
  ·rw[Hf,Ta,Tb,S9,<-h1];exact ER x.re x.im s (nm x)⁻¹ (λa b s n=>a*(a*n)+s*(b*-(b*n))) (λa b s n=>(a*a-s*(b*b))*n) d_
  ·rw[Hg,Ta,Tb,Z9];exact k6 x.re x.im (nm x)⁻¹ (λa b n=>a*-(b*n)+b*(a*n)) (λ_ _ _=>0) d_
 inv_zero:=by
  apply bA.ext
  ·rw[Ta,Hh,CR.zero_mul]
  ·rw[Tb,Hi,CR.zero_mul,CR.neg_zero]
 aB:=sg
 e7:=aJx
 iH:=aJs
 o7:=Tc
 lY:=aJw
 CM:=aJy
 Hb:=aJu
end bA
theorem AW(q:Rat):q.num.sign=1↔0<q:=by rw[aAd,Rat.lt_iff];simp
theorem Hk(q:Rat):q.num.sign=-1↔q<0:=by rw[aJz,Rat.lt_iff];simp
theorem Hl(q:Rat):q.num.sign=0↔q=0:=by rw[aJA];exact Rat.num_eq_zero
theorem Td(q:Rat):q.num.sign=-1\/q.num.sign=0\/q.num.sign=1:=by
 rcases NJ q.num 0 with h|h|h
 ·exact .inl (aJz.2 h)
 ·exact .inr (.inl (aJA.2 h))
 ·exact .inr (.inr (aAd.2 h))
instance:OF Rat where
 add_assoc:=Rat.add_assoc
 add_comm:=Rat.add_comm
 zero_add:=Rat.zero_add
 neg_add:=Rat.neg_add_cancel
 mul_assoc:=Rat.mul_assoc
 mul_comm:=Rat.mul_comm
 one_mul:=Rat.one_mul
 mul_add:=Rat.mul_add
 sub_def:=Rat.sub_eq_add_neg
 lI:=λx h=>Hm x h
 inv_zero:=Rat.inv_zero
 aB q:=q.num.sign
 e7:=Hl
 iH:=Td
 o7 q:=by rw[Rat.neg_num,Int.sign_neg]
 lY x y:=by
  rcases Td x with h|h|h<;>rcases Td y with k|k|k<;>rw[h,k]
  ·exact(AW _).2 (by have:=(Hk _).1 h;have:=(Hk _).1 k;have h2:=Te (a:=-x) (b:=-y) (by grind) (by grind);grind)
  ·rw[(Hl y).1 k,Rat.mul_zero];rfl
  ·exact(Hk _).2 (by have:=(Hk _).1 h;have:=(AW _).1 k;have h2:=Te (a:=-x) (b:=y) (by grind) (by grind);grind)
  ·rw[(Hl x).1 h,Rat.zero_mul];rfl
  ·rw[(Hl x).1 h,Rat.zero_mul];rfl
  ·rw[(Hl x).1 h,Rat.zero_mul];rfl
  ·exact(Hk _).2 (by have:=(AW _).1 h;have:=(Hk _).1 k;have h2:=Te (a:=x) (b:=-y) (by grind) (by grind);grind)
  ·rw[(Hl y).1 k,Rat.mul_zero];rfl
  ·exact(AW _).2 (Te ((AW _).1 h) ((AW _).1 k))
 CM x y h k:=(AW _).2 (by have:=(AW _).1 h;have:=(AW _).1 k;grind)
 Hb:=rfl
theorem aJB(n:Nat)(hn:n=2\/n=3\/n=6)(p q:Nat)(h:p*p=n*(q*q))(hc:Nat.gcd p q=1):False:=by
 rcases hn with rfl|rfl|rfl
 ·have h1:p%2=0:=by
   have:(p*p)%2=0:=by rw[h];omega
   rcases Tf p with k|k
   ·exact k
   ·rw[JV,k]at this;exact absurd this d_
  obtain⟨r,rfl⟩:∃ r,p=2*r:=⟨p/2,by omega⟩;have h2:q*q=2*(r*r):=by
   have:2*r*(2*r)=2*(2*(r*r)):=by simp only[fK,mG]
   omega
  have h3:q%2=0:=by
   have:(q*q)%2=0:=by rw[h2];omega
   rcases Tf q with k|k
   ·exact k
   ·rw[JV,k]at this;exact absurd this d_
  have:=Hn (JW h1) (JW h3);rw[hc]at this;exact absurd this d_
 ·have m3:∀ k:Nat,(k*k)%3=0->k%3=0:=by
   intro k hk;have:k%3=0\/k%3=1\/k%3=2:=by omega
   rcases this with e|e|e
   ·exact e
   ·rw[JV,e]at hk;exact absurd hk d_
   ·rw[JV,e]at hk;exact absurd hk d_
  have h1:p%3=0:=m3 p (by rw[h];omega);obtain⟨r,rfl⟩:∃ r,p=3*r:=⟨p/3,by omega⟩;have h2:q*q=3*(r*r):=by
   have:3*r*(3*r)=3*(3*(r*r)):=by simp only[fK,mG]
   omega
  have h3:q%3=0:=m3 q (by rw[h2];omega);have:=Hn (JW h1) (JW h3);rw[hc]at this;exact absurd this d_
 ·have h1:p%2=0:=by
   have:(p*p)%2=0:=by rw[h];omega
   rcases Tf p with k|k
   ·exact k
   ·rw[JV,k]at this;exact absurd this d_
  obtain⟨r,rfl⟩:∃ r,p=2*r:=⟨p/2,by omega⟩;have h2:3*(q*q)=2*(r*r):=by
   have:2*r*(2*r)=2*(2*(r*r)):=by simp only[fK,mG]
   omega
  have h3:q%2=0:=by
   have:(q*q)%2=0:=by omega
   rcases Tf q with k|k
   ·exact k
   ·rw[JV,k]at this;exact absurd this d_
  have:=Hn (JW h1) (JW h3);rw[hc]at this;exact absurd this d_
theorem Tg(n:Nat)(hn:n=2\/n=3\/n=6)(x:Rat)(h:x*x=(n:Rat)):False:=by
 have hd:(x.den:Rat)≠0:=by have:=x.den_nz;simpa[Rat.natCast_eq_zero_iff]using this
 have e:(x.num:Rat)*x.num=n*(x.den*x.den):=by
  have h3:x*(x.den:Rat)=x.num:=by have h4:(x.num:Rat)/x.den*x.den=x.num:=aAe hd;rw[<-Rat.mkRat_eq_div,Rat.mkRat_self]at h4;exact h4
  rw[<-h3,<-h];grind
 have e':x.num*x.num=n*(x.den*x.den):=by
  have:((x.num*x.num:Int):Rat)=((n*(x.den*x.den):Int):Rat):=by simp only[CN,Rat.intCast_natCast];exact e
  exact Rat.intCast_inj.1 this
 have e'':x.num.natAbs*x.num.natAbs=n*(x.den*x.den):=by have:=ch Int.natAbs e';rw[xd]at this;rw[this];simp[xd]
 exact aJB n hn _ _ e'' x.reduced
theorem aJC{x y c:Rat}(h:x*x=c*(y*y))(hy:y≠0):(x*y⁻¹)*(x*y⁻¹)=c:=by
 have:=Hm y hy;have e:(x*y⁻¹)*(x*y⁻¹)=(x*x)*(y⁻¹*y⁻¹):=by grind
 rw[e,h];grind
instance aUd:xc Rat 2 where
 pos:=by rw[iz];rfl
 S6 x y h:=by
  by_cases hy:y=0
  ·exact hy
  ·exact(Tg 2 (.inl rfl) _ (aJC h hy)).elim
abbrev K2:=bA Rat 2
def yT:K2:=⟨3,0⟩
theorem aJD(x:K2)(h:x*x=yT):False:=by
 have h1:x.re*x.re+2*(x.im*x.im)=3:=ch bA.re h;have h2:x.re*x.im+x.im*x.re=0:=ch bA.im h;have h3:x.re=0\/x.im=0:=by
  have:x.re*x.im=0:=by grind
  exact Rat.mul_eq_zero.1 this
 rcases h3 with h3|h3
 ·have:(2*x.im)*(2*x.im)=((6:Nat):Rat):=by rw[h3]at h1;have:((6:Nat):Rat)=6:=rfl;grind
  exact Tg 6 (.inr (.inr rfl)) _ this
 ·have:x.re*x.re=((3:Nat):Rat):=by rw[h3]at h1;have:((3:Nat):Rat)=3:=rfl;grind
  exact Tg 3 (.inr (.inl rfl)) _ this
instance aUe:xc K2 yT where
 pos:=by rw[iz];decide +kernel
 S6 x y h:=by
  by_cases hy:y=0
  ·exact hy
  ·refine(aJD (x*y⁻¹) ?_).elim;have h1:=OF.lI y hy;rw[show x*y⁻¹*(x*y⁻¹)=x*x*(y⁻¹*y⁻¹)from kt x y⁻¹ (λx i=>x*i*(x*i)) (λx i=>x*x*(i*i)) d_,h];rw[show yT*(y*y)*(y⁻¹*y⁻¹)=yT*((y*y⁻¹)*(y*y⁻¹))from k6 y y⁻¹ yT (λy i t=>t*(y*y)*(i*i)) (λy i t=>t*((y*i)*(y*i))) d_,h1,CR.mul_one,CR.mul_one]
abbrev K:=bA K2 yT
instance:OF K:=inferInstance
instance:DecidableEq K2:=λx y=>decidable_of_iff (x.re=y.re/\x.im=y.im) ⟨λh=>bA.ext h.1 h.2,λh=>by subst h;exact⟨rfl,rfl⟩⟩
instance:DecidableEq K:=λx y=>decidable_of_iff (x.re=y.re/\x.im=y.im) ⟨λh=>bA.ext h.1 h.2,λh=>by subst h;exact⟨rfl,rfl⟩⟩
structure Fr where
 a:Int
 b:Int
 c:Int
 e:Int
 d:Int
theorem Fr.ext'{x y:Fr}(h1:x.a=y.a)(h2:x.b=y.b)(h3:x.c=y.c)(h4:x.e=y.e)(h5:x.d=y.d):x=y:=by cases x;cases y;simp at *;exact⟨h1,h2,h3,h4,h5⟩
def Fr.val(x:Fr):K:=⟨⟨Rat.divInt x.a x.d,Rat.divInt x.b x.d⟩,⟨Rat.divInt x.c x.d,Rat.divInt x.e x.d⟩⟩
def Fr.g(x:Fr):Nat:=Nat.gcd (Nat.gcd (Nat.gcd (Nat.gcd x.d.natAbs x.a.natAbs) x.b.natAbs) x.c.natAbs) x.e.natAbs
structure Fr.o9(x:Fr):Prop where
 pos:0<x.d
 one:x.g=1
theorem aJE{x:Fr}(hd:k ∣ x.d.natAbs)(ha:k ∣ x.a.natAbs)(hb:k ∣ x.b.natAbs)(hc:k ∣ x.c.natAbs)(he:k ∣ x.e.natAbs):k ∣ x.g:=
 Hn (Hn (Hn (Hn hd ha) hb) hc) he
theorem ET(x:Fr):x.g ∣ x.d.natAbs:=CO (CO (CO (AX _ _) (AX _ _)) (AX _ _)) (AX _ _)
theorem NK(x:Fr):x.g ∣ x.a.natAbs:=CO (CO (CO (AX _ _) (AX _ _)) (AX _ _)) (Th _ _)
theorem NL(x:Fr):x.g ∣ x.b.natAbs:=CO (CO (AX _ _) (AX _ _)) (Th _ _)
theorem NM(x:Fr):x.g ∣ x.c.natAbs:=CO (AX _ _) (Th _ _)
theorem NN(x:Fr):x.g ∣ x.e.natAbs:=Th _ _
theorem aAf(x:Fr)(k:Nat):(Fr.mk (x.a*k) (x.b*k) (x.c*k) (x.e*k) (x.d*k)).g=x.g*k:=by unfold Fr.g;simp only[xd,AY,Nat.gcd_mul_right]
theorem aAg{x y:Fr}(hx:x.o9)(hy:y.o9)(h:x.val=y.val):x.d.natAbs ∣ y.d.natAbs:=by
 have xe:x.d≠0:=by have:=hx.pos;omega
 have vy:y.d≠0:=by have:=hy.pos;omega
 have hr:=ch bA.re h;have hi:=ch bA.im h;have h1:Rat.divInt x.a x.d=Rat.divInt y.a y.d:=ch bA.re hr;have h2:Rat.divInt x.b x.d=Rat.divInt y.b y.d:=ch bA.im hr;have h3:Rat.divInt x.c x.d=Rat.divInt y.c y.d:=ch bA.re hi;have h4:Rat.divInt x.e x.d=Rat.divInt y.e y.d:=ch bA.im hi;rw[Rat.divInt_eq_divInt_iff xe vy]at h1 h2 h3 h4;have key:∀ u v:Int,u*y.d=v*x.d->x.d.natAbs ∣ (u*(y.d.natAbs:Int)).natAbs:=by
  intro u v e;have e2:(u*(y.d.natAbs:Int)).natAbs=(u*y.d).natAbs:=by simp[xd]
  rw[e2,e,xd];exact Nat.dvd_mul_left _ _
 have:=aJE (x:=Fr.mk (x.a*(y.d.natAbs:Int)) (x.b*(y.d.natAbs:Int)) (x.c*(y.d.natAbs:Int)) (x.e*(y.d.natAbs:Int)) (x.d*(y.d.natAbs:Int))) (k:=x.d.natAbs)
  (by rw[xd];exact Nat.dvd_mul_right _ _) (key _ _ h1) (key _ _ h2) (key _ _ h3) (key _ _ h4)
 rw[aAf,hx.one,pK]at this;exact this
theorem aAh{x y:Fr}(hx:x.o9)(hy:y.o9)(h:x.val=y.val):x=y:=by
 have jE:=hx.pos;have hyp:=hy.pos;have hd:x.d=y.d:=by have:=Nat.dvd_antisymm (aAg hx hy h) (aAg hy hx h.symm);omega
 have xe:x.d≠0:=by omega
 have vy:y.d≠0:=by omega
 have hr:=ch bA.re h;have hi:=ch bA.im h;have h1:Rat.divInt x.a x.d=Rat.divInt y.a y.d:=ch bA.re hr;have h2:Rat.divInt x.b x.d=Rat.divInt y.b y.d:=ch bA.im hr;have h3:Rat.divInt x.c x.d=Rat.divInt y.c y.d:=ch bA.re hi;have h4:Rat.divInt x.e x.d=Rat.divInt y.e y.d:=ch bA.im hi;rw[Rat.divInt_eq_divInt_iff xe vy,hd]at h1 h2 h3 h4;exact Fr.ext' (Ti vy h1) (Ti vy h2) (Ti vy h3) (Ti vy h4) hd
def Fr.s(x:Fr):Int:=if x.d<0 then -(x.g:Int)else x.g
def Fr.low(x:Fr):Fr:=⟨x.a/x.s,x.b/x.s,x.c/x.s,x.e/x.s,x.d/x.s⟩
theorem Tj{x:Fr}(hd:x.d≠0):0<x.g:=Nat.pos_of_dvd_of_pos (ET x) o_
theorem Tk{x:Fr}(hd:x.d≠0):x.s≠0:=by have:=Tj hd;unfold Fr.s;split<;>omega
theorem NO(x:Fr):x.s.natAbs=x.g:=by unfold Fr.s;split<;>simp
theorem CP{x:Fr}{u:Int}(h:x.g ∣ u.natAbs):x.s ∣ u:=by rw[<-Int.natAbs_dvd_natAbs,NO];exact h
theorem aAi{x:Fr}:x.a=x.low.a*x.s/\x.b=x.low.b*x.s/\x.c=x.low.c*x.s/\x.e=x.low.e*x.s/\x.d=x.low.d*x.s:=
 ⟨(NP (CP (NK x))).symm,(NP (CP (NL x))).symm,(NP (CP (NM x))).symm,(NP (CP (NN x))).symm,(NP (CP (ET x))).symm⟩
theorem aAj{x:Fr}(hd:x.d≠0):x.low.val=x.val:=by obtain⟨h1,h2,h3,h4,h5⟩:=aAi (x:=x);have hs:=Tk hd;have key:∀ u v:Int,Rat.divInt u x.low.d=Rat.divInt (u*x.s) (x.low.d*x.s):=λu _=>(Rat.divInt_mul_right hs).symm;unfold Fr.val;rw[key _ 0,key _ 0,key _ 0,key _ 0,<-h1,<-h2,<-h3,<-h4,<-h5]
theorem aAk{x:Fr}(hd:x.d≠0):x.low.o9:=by
 obtain⟨h1,h2,h3,h4,h5⟩:=aAi (x:=x);have hg:=Tj hd;constructor
 ·have:x.d=x.low.d*x.s:=h5;rcases Int.lt_or_gt_of_ne hd with h|h
  ·have hs:x.s<0:=by unfold Fr.s;rw[au h];omega
   rcases NJ x.low.d 0 with k|k|k
   ·have:=Int.mul_pos_of_neg_of_neg k hs;omega
   ·rw[k,Int.zero_mul]at this;omega
   ·exact k
  ·have hs:0<x.s:=by unfold Fr.s;rw[al o_];omega
   rcases NJ x.low.d 0 with k|k|k
   ·have:=Int.mul_neg_of_neg_of_pos k hs;omega
   ·rw[k,Int.zero_mul]at this;omega
   ·exact k
 ·have e:x.g=x.low.g*x.g:=by
   obtain⟨G,hG⟩:∃ G,G=x.g:=⟨_,rfl⟩;have ab:∀ u v:Int,u=v*x.s->u.natAbs=(v*(G:Int)).natAbs:=λu v h=>by rw[h,xd,xd,NO,AY,hG]
   have h:=aAf x.low G;have e2:x.g=(Fr.mk (x.low.a*G) (x.low.b*G) (x.low.c*G) (x.low.e*G) (x.low.d*G)).g:=by unfold Fr.g;dsimp only;rw[<-ab _ _ h1,<-ab _ _ h2,<-ab _ _ h3,<-ab _ _ h4,<-ab _ _ h5]
   have:=e2.trans h;rw[hG]at this;exact this
  have:=aJF hg (show 1*x.g=x.low.g*x.g by rw[pK];exact e);exact this.symm
theorem JX{x:Fr}{u:Int}(hd:x.d≠0):(u/x.s).natAbs<=u.natAbs:=aJG u x.s
def bF(k:K):Fr:=(Fr.mk (k.re.re.num*(k.re.im.den*(k.im.re.den*k.im.im.den):Nat)) (k.re.im.num*(k.re.re.den*(k.im.re.den*k.im.im.den):Nat))
 (k.im.re.num*(k.re.re.den*(k.re.im.den*k.im.im.den):Nat)) (k.im.im.num*(k.re.re.den*(k.re.im.den*k.im.re.den):Nat)) ((k.re.re.den*(k.re.im.den*(k.im.re.den*k.im.im.den)):Nat):Int)).low
theorem ku(k:K):(bF k).o9:=aAk (by have h1:=k.re.re.den_pos;have h2:=k.re.im.den_pos;have h3:=k.im.re.den_pos;have h4:=k.im.im.den_pos;have:=qJ h1 (qJ h2 (qJ h3 h4));show((k.re.re.den*(k.re.im.den*(k.im.re.den*k.im.im.den)):Nat):Int)≠0;omega)
theorem NQ(q:Rat){n:Nat}(hm:0<m)(e:n=q.den*m):Rat.divInt (q.num*(m:Nat)) ((n:Nat):Int)=q:=by have h:Rat.divInt (q.num*(m:Int)) ((q.den:Int)*(m:Int))=Rat.divInt q.num q.den:=Rat.divInt_mul_right o_;rw[e,nM,h];exact aAl q
theorem oE(k:K):(bF k).val=k:=by have h1:=k.re.re.den_pos;have h2:=k.re.im.den_pos;have h3:=k.im.re.den_pos;have h4:=k.im.im.den_pos;have hp:=qJ h1 (qJ h2 (qJ h3 h4));unfold bF;rw[aAj (by show((k.re.re.den*(k.re.im.den*(k.im.re.den*k.im.im.den)):Nat):Int)≠0;omega)];unfold Fr.val;dsimp only;rw[NQ k.re.re (qJ h2 (qJ h3 h4)) rfl,NQ k.re.im (qJ h1 (qJ h3 h4)) (by simp only[mG]),NQ k.im.re (qJ h1 (qJ h2 h4)) (by simp only[mG]),NQ k.im.im (qJ h1 (qJ h2 h3)) (by simp only[cK,mG])]
theorem EU{x:Fr}(h:x.o9):bF x.val=x:=aAh (ku _) h (oE _)
theorem EV{x:Fr}(hd:x.d≠0):bF x.val=x.low:=aAh (ku _) (aAk hd) ((oE _).trans (aAj hd).symm)
theorem aJH{x y:K}(h:bF x=bF y):x=y:=by rw[<-oE x,<-oE y,h]
def pT(x y:Fr):Fr:=⟨x.a*y.d+y.a*x.d,x.b*y.d+y.b*x.d,x.c*y.d+y.c*x.d,x.e*y.d+y.e*x.d,x.d*y.d⟩
def dO(x y:Fr):Fr:=
 ⟨x.a*y.a+2*(x.b*y.b)+3*(x.c*y.c)+6*(x.e*y.e),x.a*y.b+x.b*y.a+3*(x.c*y.e)+3*(x.e*y.c),x.a*y.c+2*(x.b*y.e)+x.c*y.a+2*(x.e*y.b),x.a*y.e+x.b*y.c+x.c*y.b+x.e*y.a,x.d*y.d⟩
def yU(x:Fr):Fr:=⟨-x.a,-x.b,-x.c,-x.e,x.d⟩
theorem aJI{x y:Fr}(hx:x.d≠0)(hy:y.d≠0):(pT x y).val=x.val+y.val:=by
 apply bA.ext
 ·exact bA.ext (Tl _ _ hx hy).symm (Tl _ _ hx hy).symm
 ·exact bA.ext (Tl _ _ hx hy).symm (Tl _ _ hx hy).symm
theorem aJJ(x:Fr):(yU x).val=-x.val:=by have h:∀ u:Int,Rat.divInt (-u) x.d=-Rat.divInt u x.d:=λu=>(Rat.neg_divInt u x.d).symm;exact bA.ext (bA.ext (h _) (h _)) (bA.ext (h _) (h _))
theorem EW{p:Int}{x y:Fr}(hx:x.d≠0)(hy:y.d≠0){r:Rat}(h:r*((x.d:Rat)*(y.d:Rat))=(p:Rat)):Rat.divInt p (x.d*y.d)=r:=by
 have th:(x.d:Rat)≠0:=by simpa using hx
 have NR:(y.d:Rat)≠0:=by simpa using hy
 rw[AZ,CN,<-h,EX,Rat.mul_assoc,Hm _ (by
  intro e;rcases Rat.mul_eq_zero.1 e with e|e
  ·exact th e
  ·exact NR e),Rat.mul_one]
theorem oF{u d:Int}(hd:d≠0):Rat.divInt u d*(d:Rat)=(u:Rat):=by
 have NS:(d:Rat)≠0:=by simpa using hd
 rw[AZ,aAe NS]
theorem JY{x y:Fr}(hx:x.d≠0)(hy:y.d≠0):(dO x y).val=x.val*y.val:=by
 have a1:=oF (u:=x.a) hx;have b1:=oF (u:=x.b) hx;have c1:=oF (u:=x.c) hx;have e1:=oF (u:=x.e) hx;have a2:=oF (u:=y.a) hy;have b2:=oF (u:=y.b) hy;have c2:=oF (u:=y.c) hy;have e2:=oF (u:=y.e) hy;apply bA.ext
 ·apply bA.ext
  ·refine EW hx hy ?_;show((Rat.divInt x.a x.d*Rat.divInt y.a y.d+2*(Rat.divInt x.b x.d*Rat.divInt y.b y.d))+(3*(Rat.divInt x.c x.d*Rat.divInt y.c y.d+2*(Rat.divInt x.e x.d*Rat.divInt y.e y.d))+2*(0*(Rat.divInt x.c x.d*Rat.divInt y.e y.d+Rat.divInt x.e x.d*Rat.divInt y.c y.d))))*((x.d:Rat)*(y.d:Rat))=_;unfold dO;simp only[NT,CN,<-a1,<-b1,<-c1,<-e1,<-a2,<-b2,<-c2,<-e2];have t2:((2:Int):Rat)=2:=rfl;have t3:((3:Int):Rat)=3:=rfl;have t6:((6:Int):Rat)=6:=rfl;rw[t2,t3,t6];grind
  ·refine EW hx hy ?_;show((Rat.divInt x.a x.d*Rat.divInt y.b y.d+Rat.divInt x.b x.d*Rat.divInt y.a y.d)+(3*(Rat.divInt x.c x.d*Rat.divInt y.e y.d+Rat.divInt x.e x.d*Rat.divInt y.c y.d)+0*(Rat.divInt x.c x.d*Rat.divInt y.c y.d+2*(Rat.divInt x.e x.d*Rat.divInt y.e y.d))))*((x.d:Rat)*(y.d:Rat))=_;unfold dO;simp only[NT,CN,<-a1,<-b1,<-c1,<-e1,<-a2,<-b2,<-c2,<-e2];have t3:((3:Int):Rat)=3:=rfl;rw[t3];grind
 ·apply bA.ext
  ·refine EW hx hy ?_;show((Rat.divInt x.a x.d*Rat.divInt y.c y.d+2*(Rat.divInt x.b x.d*Rat.divInt y.e y.d))+(Rat.divInt x.c x.d*Rat.divInt y.a y.d+2*(Rat.divInt x.e x.d*Rat.divInt y.b y.d)))*((x.d:Rat)*(y.d:Rat))=_;unfold dO;simp only[NT,CN,<-a1,<-b1,<-c1,<-e1,<-a2,<-b2,<-c2,<-e2];have t2:((2:Int):Rat)=2:=rfl;rw[t2];grind
  ·refine EW hx hy ?_;show((Rat.divInt x.a x.d*Rat.divInt y.e y.d+Rat.divInt x.b x.d*Rat.divInt y.c y.d)+(Rat.divInt x.c x.d*Rat.divInt y.b y.d+Rat.divInt x.e x.d*Rat.divInt y.a y.d))*((x.d:Rat)*(y.d:Rat))=_;unfold dO;simp only[NT,CN,<-a1,<-b1,<-c1,<-e1,<-a2,<-b2,<-c2,<-e2]
   grind
theorem Tm(x y:K):bF (x+y)=(pT (bF x) (bF y)).low:=by have hx:=(ku x).pos;have hy:=(ku y).pos;have:=EV (x:=pT (bF x) (bF y)) (CQ o_ o_);rw[aJI o_ o_,oE,oE]at this;exact this
theorem Tn(x y:K):bF (x*y)=(dO (bF x) (bF y)).low:=by have hx:=(ku x).pos;have hy:=(ku y).pos;have:=EV (x:=dO (bF x) (bF y)) (CQ o_ o_);rw[JY o_ o_,oE,oE]at this;exact this
theorem aJK{x:Fr}(h:x.o9):(yU x).o9:=⟨h.pos,by have:=h.one;unfold Fr.g at this ⊢;simpa[yU]using this⟩
theorem To(x:K):bF (-x)=yU (bF x):=by have:=EU (aJK (ku x));rw[aJJ,oE]at this;exact this
def dH(n:Nat)(x:Fr):Prop:=x.a.natAbs<2^n/\x.b.natAbs<2^n/\x.c.natAbs<2^n/\x.e.natAbs<2^n/\x.d.natAbs<2^n
def Sz(n:Nat)(x:K):Prop:=dH n (bF x)
theorem dH.mono{n:Nat}(h:m<=n){x:Fr}(hx:dH m x):dH n x:=by have:=c7 (show 0<2 by decide) h;obtain⟨h1,h2,h3,h4,h5⟩:=hx;exact⟨by omega,by omega,by omega,by omega,by omega⟩
theorem Sz.mono{n:Nat}(h:m<=n){x:K}(hx:Sz m x):Sz n x:=dH.mono h hx
theorem dH.low{n:Nat}{x:Fr}(h:dH n x)(hd:x.d≠0):dH n x.low:=by obtain⟨h1,h2,h3,h4,h5⟩:=h;exact⟨eX (JX hd) h1,eX (JX hd) h2,eX (JX hd) h3,eX (JX hd) h4,eX (JX hd) h5⟩
theorem ek{n:Nat}{u v:Int}(hu:u.natAbs<2^m)(hv:v.natAbs<2^n):(u*v).natAbs<2^(m+n):=by
 rw[xd,eh];rcases nq v.natAbs with h|h
 ·rw[h,Nat.mul_zero];exact qJ (cF d_) (cF d_)
 ·exact cC (AJ hu h) (jq _ (jD hv))
theorem dH.add{n:Nat}{x y:Fr}(hx:dH m x)(hy:dH n y):dH (m+n+1) (pT x y):=by
 obtain⟨x1,x2,x3,x4,x5⟩:=hx;obtain⟨y1,y2,y3,y4,y5⟩:=hy;have e:2^(m+n+1)=2^(m+n)*2:=dr ..;have e':2^(n+m)=2^(m+n):=by rw[mF]
 have key:∀{u v:Int},u.natAbs<2^m->v.natAbs<2^n->(u*y.d+v*x.d).natAbs<2^(m+n+1):=λ{u v} hu hv=>by have h1:=ek hu y5;have h2:=ek hv x5;rw[e']at h2;have:=aAm (u*y.d) (v*x.d);omega
 refine⟨key x1 y1,key x2 y2,key x3 y3,key x4 y4,?_⟩;have:=ek x5 y5;show(x.d*y.d).natAbs<_;omega
theorem dH.mul{n:Nat}{x y:Fr}(hx:dH m x)(hy:dH n y):dH (m+n+4) (dO x y):=by
 obtain⟨x1,x2,x3,x4,x5⟩:=hx;obtain⟨y1,y2,y3,y4,y5⟩:=hy;have e:2^(m+n+4)=2^(m+n)*16:=by rw[eh]
 have t:∀{u v:Int} (k:Nat),u.natAbs<2^m->v.natAbs<2^n->((k:Int)*(u*v)).natAbs<=k*2^(m+n):=λ{u v} k hu hv=>by have h1:=ek hu hv;rw[xd,AY];exact jq _ (jD h1)
 have four:∀ p q r s:Int,(p+q+r+s).natAbs<=p.natAbs+q.natAbs+r.natAbs+s.natAbs:=λp q r s=>by omega
 have hp:0<2^(m+n):=cF d_;refine⟨?_,?_,?_,?_,?_⟩
 ·have:=four (x.a*y.a) (2*(x.b*y.b)) (3*(x.c*y.c)) (6*(x.e*y.e));have h1:=ek x1 y1;have h2:=t 2 x2 y2;have h3:=t 3 x3 y3;have h4:=t 6 x4 y4;show(x.a*y.a+2*(x.b*y.b)+3*(x.c*y.c)+6*(x.e*y.e)).natAbs<_;omega
 ·have:=four (x.a*y.b) (x.b*y.a) (3*(x.c*y.e)) (3*(x.e*y.c));have h1:=ek x1 y2;have h2:=ek x2 y1;have h3:=t 3 x3 y4;have h4:=t 3 x4 y3;show(x.a*y.b+x.b*y.a+3*(x.c*y.e)+3*(x.e*y.c)).natAbs<_;omega
 ·have:=four (x.a*y.c) (2*(x.b*y.e)) (x.c*y.a) (2*(x.e*y.b));have h1:=ek x1 y3;have h2:=t 2 x2 y4;have h3:=ek x3 y1;have h4:=t 2 x4 y2;show(x.a*y.c+2*(x.b*y.e)+x.c*y.a+2*(x.e*y.b)).natAbs<_;omega
 ·have:=four (x.a*y.e) (x.b*y.c) (x.c*y.b) (x.e*y.a);have h1:=ek x1 y4;have h2:=ek x2 y3;have h3:=ek x3 y2;have h4:=ek x4 y1;show(x.a*y.e+x.b*y.c+x.c*y.b+x.e*y.a).natAbs<_;omega
 ·have:=ek x5 y5;show(x.d*y.d).natAbs<_;omega
theorem Sz.add{n:Nat}{x y:K}(hx:Sz m x)(hy:Sz n y):Sz (m+n+1) (x+y):=by unfold Sz;rw[Tm];exact(dH.add hx hy).low (CQ (by have:=(ku x).pos;omega) (by have:=(ku y).pos;omega))
theorem Sz.mul{n:Nat}{x y:K}(hx:Sz m x)(hy:Sz n y):Sz (m+n+4) (x*y):=by unfold Sz;rw[Tn];exact(dH.mul hx hy).low (CQ (by have:=(ku x).pos;omega) (by have:=(ku y).pos;omega))
theorem Sz.neg{n:Nat}{x:K}(hx:Sz n x):Sz n (-x):=by unfold Sz at *;rw[To];obtain⟨h1,h2,h3,h4,h5⟩:=hx;exact⟨by simpa[yU]using h1,by simpa[yU]using h2,by simpa[yU]using h3,by simpa[yU]using h4,h5⟩
theorem Sz.sub{n:Nat}{x y:K}(hx:Sz m x)(hy:Sz n y):Sz (m+n+1) (x-y):=by rw[CR.sub_def];exact hx.add hy.neg
def tn(a b s:Int):Int:=if a=b\/b=0 then a else if a=0 then b else a*s
namespace bA
variable{F:Type}[OF F]{s:F}[hs:xc F s]
theorem aAn(x:bA F s):sg x=tn (aB x.re) (aB x.im) (aB (nm x)):=by
 unfold tn;rcases ways x with h|⟨h,h2⟩|⟨h,h2⟩
 ·subst h;have e:aB (0:F)=0:=(e7 (0:F)).2 rfl;rw[Hj,Hh,Hi,e,au (.inl rfl)]
 ·rw[r5 h,h,Int.mul_one];by_cases h3:aB x.re=aB x.im\/aB x.im=0
  ·rw[au h3]
  ·rw[al h3];by_cases h4:aB x.re=0
   ·exfalso;rw[(e7 _).1 h4,CR.zero_mul]at h2;have h5:aB (s*(x.im*x.im))=1:=by
     have h6:aB x.im≠0:=λe=>h3 (.inr e);rw[lY,lY,aJv];rcases iH x.im with e|e|e
     ·rw[e];rfl
     ·exact absurd e h6
     ·rw[e];rfl
    have h7:(0:F)<s*(x.im*x.im):=iz.2 h5;exact OF.lt_irrefl _ (OF.lt_trans h7 h2)
   ·rw[al h4]
 ·rw[tj h,h];by_cases h3:aB x.re=aB x.im\/aB x.im=0
  ·rw[au h3];rcases h3 with h3|h3
   ·exact h3.symm
   ·exfalso;rw[(e7 _).1 h3,CR.zero_mul,CR.mul_zero]at h2;have h5:aB (x.re*x.re)≠-1:=by rw[lY];rcases iH x.re with e|e|e<;>rw[e]<;>decide
    exact h5 (Hd.1 h2)
  ·rw[al h3];by_cases h4:aB x.re=0
   ·rw[au h4]
   ·rw[al h4];have h5:aB x.im≠0:=λe=>h3 (.inr e);have h6:aB x.re≠aB x.im:=λe=>h3 (.inl e);rcases iH x.re with e|e|e<;>rcases iH x.im with k|k|k<;>first|exact absurd e h4|exact absurd k h5|exact absurd (e.trans k.symm) h6|(rw[e,k];rfl)
end bA
theorem aAo(u:Int):aB (u:Rat)=u.sign:=by show(u:Rat).num.sign=u.sign;rw[Rat.num_intCast]
theorem Tp{u d:Int}(hd:0<d):aB (Rat.divInt u d)=u.sign:=by have h1:=oF (u:=u) (d:=d) o_;have h2:=ch aB h1;rw[lY,aAo,aAo,yO hd,Int.mul_one]at h2;exact h2
def pa(a b:Int):Int:=tn a.sign b.sign (a*a-2*(b*b)).sign
theorem Tq{a b d:Int}(hd:0<d):aB (⟨Rat.divInt a d,Rat.divInt b d⟩:K2)=pa a b:=by
 have h:=bA.aAn (⟨Rat.divInt a d,Rat.divInt b d⟩:K2);have a1:=oF (u:=a) (d:=d) o_;have b1:=oF (u:=b) (d:=d) o_;have hn:bA.nm (⟨Rat.divInt a d,Rat.divInt b d⟩:K2)=Rat.divInt (a*a-2*(b*b)) (d*d):=by refine(EW (x:=⟨0,0,0,0,d⟩) (y:=⟨0,0,0,0,d⟩) (by show d≠0;omega) (by show d≠0;omega) ?_).symm;show(Rat.divInt a d*Rat.divInt a d-2*(Rat.divInt b d*Rat.divInt b d))*((d:Rat)*(d:Rat))=_;simp only[aAp,CN,<-a1,<-b1];have t2:((2:Int):Rat)=2:=rfl;rw[t2];grind
 rw[hn]at h;show bA.sg _=_;rw[h];show tn (aB (Rat.divInt a d)) (aB (Rat.divInt b d)) _=_;rw[Tp hd,Tp hd,Tp (Tr hd hd)];rfl
def NU(a b c e:Int):Int:=tn (pa a b) (pa c e) (pa ((a*a+2*(b*b))-(3*(c*c)+6*(e*e))) (2*(a*b)-6*(c*e)))
theorem aJL{x:Fr}(hd:0<x.d):aB x.val=NU x.a x.b x.c x.e:=by
 have h:=bA.aAn x.val;have a1:=oF (u:=x.a) (d:=x.d) o_;have b1:=oF (u:=x.b) (d:=x.d) o_;have c1:=oF (u:=x.c) (d:=x.d) o_;have e1:=oF (u:=x.e) (d:=x.d) o_;have hn:bA.nm x.val=(⟨Rat.divInt ((x.a*x.a+2*(x.b*x.b))-(3*(x.c*x.c)+6*(x.e*x.e))) (x.d*x.d),Rat.divInt (2*(x.a*x.b)-6*(x.c*x.e)) (x.d*x.d)⟩:K2):=by
  apply bA.ext
  ·refine(EW (x:=x) (y:=x) o_ o_ ?_).symm;show((Rat.divInt x.a x.d*Rat.divInt x.a x.d+2*(Rat.divInt x.b x.d*Rat.divInt x.b x.d))-(3*(Rat.divInt x.c x.d*Rat.divInt x.c x.d+2*(Rat.divInt x.e x.d*Rat.divInt x.e x.d))+2*(0*(Rat.divInt x.c x.d*Rat.divInt x.e x.d+Rat.divInt x.e x.d*Rat.divInt x.c x.d))))*((x.d:Rat)*(x.d:Rat))=_;simp only[aAp,NT,CN,<-a1,<-b1,<-c1,<-e1];have t2:((2:Int):Rat)=2:=rfl;have t3:((3:Int):Rat)=3:=rfl;have t6:((6:Int):Rat)=6:=rfl;rw[t2,t3,t6];grind
  ·refine(EW (x:=x) (y:=x) o_ o_ ?_).symm;show((Rat.divInt x.a x.d*Rat.divInt x.b x.d+Rat.divInt x.b x.d*Rat.divInt x.a x.d)-(3*(Rat.divInt x.c x.d*Rat.divInt x.e x.d+Rat.divInt x.e x.d*Rat.divInt x.c x.d)+0*(Rat.divInt x.c x.d*Rat.divInt x.c x.d+2*(Rat.divInt x.e x.d*Rat.divInt x.e x.d))))*((x.d:Rat)*(x.d:Rat))=_;simp only[aAp,CN,<-a1,<-b1,<-c1,<-e1];have t2:((2:Int):Rat)=2:=rfl;have t6:((6:Int):Rat)=6:=rfl;rw[t2,t6];grind
 rw[hn]at h;show bA.sg _=_;rw[h];have Ts:=Tr hd hd;show tn (aB (⟨Rat.divInt x.a x.d,Rat.divInt x.b x.d⟩:K2)) (aB (⟨Rat.divInt x.c x.d,Rat.divInt x.e x.d⟩:K2)) _=_;rw[Tq hd,Tq hd,Tq Ts];rfl
theorem aAq(k:K):aB k=NU (bF k).a (bF k).b (bF k).c (bF k).e:=by have:=aJL (ku k).pos;rw[oE]at this;exact this
end
structure RI where
 neg:Bool
 aT:List UInt8
structure RN where
 a:RI
 b:RI
 c:RI
 e:RI
 d:RI
variable{r:RN}
structure RV where
 x:RN
 y:RN
 z:RN
structure RP where
 n:RV
 d:RN
def RI.cs(r:RI):ah:=[.bool r.neg,.string (BA r.aT)]
def RN.cs(r:RN):ah:=[.bool r.a.neg,.string (BA r.a.aT),.bool r.b.neg,.string (BA r.b.aT),.bool r.c.neg,.string (BA r.c.aT),.bool r.e.neg,.string (BA r.e.aT),.bool r.d.neg,.string (BA r.d.aT)]
def RV.cs(r:RV):ah:=r.x.cs++(r.y.cs++r.z.cs)
def RP.cs(r:RP):ah:=r.n.cs++r.d.cs
def RI.v(r:RI):Value:=.agg r.cs.toArray
def RN.v(r:RN):Value:=.agg r.cs.toArray
def RV.v(r:RV):Value:=.agg r.cs.toArray
def RP.v(r:RP):Value:=.agg r.cs.toArray
def RI.Sm(r:RI):Prop:=r.aT.length<=maxLen
def RN.Sm(r:RN):Prop:=r.a.Sm/\r.b.Sm/\r.c.Sm/\r.e.Sm/\r.d.Sm
def RV.Sm(r:RV):Prop:=r.x.Sm/\r.y.Sm/\r.z.Sm
def RP.Sm(r:RP):Prop:=r.n.Sm/\r.d.Sm
def RI.ls(r:RI):List Lit:=[.bool r.neg,.string r.aT]
def RN.ls(r:RN):List Lit:=r.a.ls++(r.b.ls++(r.c.ls++(r.e.ls++r.d.ls)))
def RV.ls(r:RV):List Lit:=r.x.ls++(r.y.ls++r.z.ls)
def RP.ls(r:RP):List Lit:=r.n.ls++r.d.ls
theorem RI.vz{r s:RI}:r.ls=s.ls↔r=s:=by cases r;cases s;simp[RI.ls]
theorem RN.vz{s:RN}:r.ls=s.ls↔r=s:=by obtain⟨⟨_,_⟩,⟨_,_⟩,⟨_,_⟩,⟨_,_⟩,⟨_,_⟩⟩:=r;obtain⟨⟨_,_⟩,⟨_,_⟩,⟨_,_⟩,⟨_,_⟩,⟨_,_⟩⟩:=s;simp[RN.ls,RI.ls,and_assoc]
theorem RN.Ho(r:RN):r.ls.length=10:=rfl
theorem RV.vz{r s:RV}:r.ls=s.ls↔r=s:=by
 obtain⟨x,y,z⟩:=r;obtain⟨x',y',z'⟩:=s;unfold RV.ls;constructor
 ·intro h;obtain⟨h1,h2⟩:=List.append_inj h (by rw[RN.Ho,RN.Ho]);obtain⟨h2,h3⟩:=List.append_inj h2 (by rw[RN.Ho,RN.Ho]);have a1:x=x':=RN.vz.1 h1;have a2:y=y':=RN.vz.1 h2;have a3:z=z':=RN.vz.1 h3;rw[a1,a2,a3]
 ·intro h;rw[h]
theorem RP.vz{r s:RP}:r.ls=s.ls↔r=s:=by
 obtain⟨x,y⟩:=r;obtain⟨x',y'⟩:=s;unfold RP.ls;constructor
 ·intro h;obtain⟨h1,h2⟩:=List.append_inj' h (by rw[RN.Ho,RN.Ho]);have a1:x=x':=RV.vz.1 h1;have a2:y=y':=RN.vz.1 h2;rw[a1,a2]
 ·intro h;rw[h]
theorem RN.nw(r:RN):∀ u∈r.cs,flat u=true:=λu hu=>by simp[RN.cs]at hu;rcases hu with h|h|h|h|h|h|h|h|h|h<;>subst h<;>rfl
theorem RV.nw(r:RV):∀ u∈r.cs,flat u=true:=λu hu=>by
 simp only[RV.cs,eA]at hu;rcases hu with h|h|h
 ·exact r.x.nw u h
 ·exact r.y.nw u h
 ·exact r.z.nw u h
def NV(P:j_)(t:TypeId):Array Field:=match P.underlying t with|some (.struct fs)=>fs|_=>#[]
theorem EY(r:RI)(h:r.Sm)(d:Nat):prog.keyLits (d+2) 37 r.cs=some r.ls:=by
 obtain ⟨fs, h1, h2, h3⟩ : ∃ fs, prog.underlying 37 = some (.struct fs) ∧ fs.toList.map (fun g => (g.type, g.offset)) = [(4, 0), (9, 1)] ∧ fs.all (fun g => g.name != "_") = true := ⟨NV prog 37, (by kernel_rfl), (by kernel_rfl), (by kernel_rfl)⟩;rw[NA h1 h2 h3 k_];have e1:prog.keyLits (d+1) 4 ((r.cs.drop 0).take (prog.cellsOf 4))=some [.bool r.neg]:=by
  have e:(r.cs.drop 0).take (prog.cellsOf 4)=[.bool r.neg]:=k_;rw[e];exact aJj k_ _ d
 have e2:prog.keyLits (d+1) 9 ((r.cs.drop 1).take (prog.cellsOf 9))=some [.string r.aT]:=by have e:(r.cs.drop 1).take (prog.cellsOf 9)=[.string (BA r.aT)]:=k_;rw[e];exact aJk k_ _ (by rw[oA];exact h) d
 simp only[I9,Tt,e1,e2];simp[RI.ls]
theorem aJM(r:RN)(h:r.Sm)(d:Nat):prog.keyLits (d+3) 38 (r.a.cs++(r.b.cs++(r.c.cs++r.e.cs)))=some (r.a.ls++(r.b.ls++(r.c.ls++r.e.ls))):=by rw[aJi (n:=4) (e:=37) k_ k_];obtain⟨h0,h1,h2,h3,_⟩:=h;have c:prog.cellsOf 37=2:=k_;have e0:=EY r.a h0 d;have e1:=EY r.b h1 d;have e2:=EY r.c h2 d;have e3:=EY r.e h3 d;rw[c];simp[JZ,RI.cs]at e0 e1 e2 e3 ⊢;simp[e0,e1,e2,e3]
theorem NW(r:RN)(h:r.Sm)(d:Nat):prog.keyLits (d+4) 40 r.cs=some r.ls:=by
 obtain ⟨fs, h1, h2, h3⟩ : ∃ fs, prog.underlying 40 = some (.struct fs) ∧ fs.toList.map (fun g => (g.type, g.offset)) = [(38, 0), (37, 8)] ∧ fs.all (fun g => g.name != "_") = true := ⟨NV prog 40, (by kernel_rfl), (by kernel_rfl), (by kernel_rfl)⟩;rw[NA h1 h2 h3 k_];have e1:prog.keyLits (d+3) 38 ((r.cs.drop 0).take (prog.cellsOf 38))=some (r.a.ls++(r.b.ls++(r.c.ls++r.e.ls))):=by
  have e:(r.cs.drop 0).take (prog.cellsOf 38)=r.a.cs++(r.b.cs++(r.c.cs++r.e.cs)):=k_;rw[e];exact aJM r h d
 have e2:prog.keyLits (d+3) 37 ((r.cs.drop 8).take (prog.cellsOf 37))=some r.d.ls:=by have e:(r.cs.drop 8).take (prog.cellsOf 37)=r.d.cs:=k_;rw[e];exact EY r.d h.2.2.2.2 (d+1)
 simp only[I9,Tt,e1,e2];simp[RN.ls]
theorem Tu(r:RV)(h:r.Sm)(d:Nat):prog.keyLits (d+5) 42 r.cs=some r.ls:=by
 obtain ⟨fs, h1, h2, h3⟩ : ∃ fs, prog.underlying 42 = some (.struct fs) ∧ fs.toList.map (fun g => (g.type, g.offset)) = [(40, 0), (40, 10), (40, 20)] ∧ fs.all (fun g => g.name != "_") = true := ⟨NV prog 42, (by kernel_rfl), (by kernel_rfl), (by kernel_rfl)⟩;rw[NA h1 h2 h3 k_];have e:∀(k:Nat) (s:RN),(r.cs.drop k).take (prog.cellsOf 40)=s.cs->s.Sm->prog.keyLits (d+4) 40 ((r.cs.drop k).take (prog.cellsOf 40))=some s.ls:=λk s e hs=>by rw[e];exact NW s hs d
 simp only[I9,Tt,e 0 r.x k_ h.1,e 10 r.y k_ h.2.1,e 20 r.z k_ h.2.2];simp[RV.ls]
theorem aAr(r:RP)(h:r.Sm)(d:Nat):prog.keyLits (d+6) 66 r.cs=some r.ls:=by
 obtain ⟨fs, h1, h2, h3⟩ : ∃ fs, prog.underlying 66 = some (.struct fs) ∧ fs.toList.map (fun g => (g.type, g.offset)) = [(42, 0), (40, 30)] ∧ fs.all (fun g => g.name != "_") = true := ⟨NV prog 66, (by kernel_rfl), (by kernel_rfl), (by kernel_rfl)⟩;rw[NA h1 h2 h3 k_];have e1:prog.keyLits (d+5) 42 ((r.cs.drop 0).take (prog.cellsOf 42))=some r.n.ls:=by
  have e:(r.cs.drop 0).take (prog.cellsOf 42)=r.n.cs:=k_;rw[e];exact Tu r.n h.1 d
 have e2:prog.keyLits (d+5) 40 ((r.cs.drop 30).take (prog.cellsOf 40))=some r.d.ls:=by have e:(r.cs.drop 30).take (prog.cellsOf 40)=r.d.cs:=k_;rw[e];exact NW r.d h.2 (d+1)
 simp only[I9,Tt,e1,e2];simp[RP.ls]
section
variable{Bs:ae}{N:Nat}
theorem A0{neg:Bool}(ho:G8 o=some (neg,37))(r s:RI)(hr:r.Sm)(hs:s.Sm){b:Bool}(hb:(if neg then b else !b)=true↔r=s):cz prog Bs o [r.v,s.v] [] (.bool b) []:=
 Nz (m:=2) ho o_ k_ k_ k_ k_ (EY r hr 0) (EY s hs 0) rfl rfl (by rw[hb];exact RI.vz.symm)
theorem aAs{neg:Bool}(ho:G8 o=some (neg,40))(r s:RN)(hr:r.Sm)(hs:s.Sm){b:Bool}(hb:(if neg then b else !b)=true↔r=s):cz prog Bs o [r.v,s.v] [] (.bool b) []:=
 Nz (m:=4) ho o_ k_ k_ k_ k_ (NW r hr 0) (NW s hs 0) rfl rfl (by rw[hb];exact RN.vz.symm)
theorem EZ{neg:Bool}(ho:G8 o=some (neg,42))(r s:RV)(hr:r.Sm)(hs:s.Sm){b:Bool}(hb:(if neg then b else !b)=true↔r=s):cz prog Bs o [r.v,s.v] [] (.bool b) []:=
 Nz (m:=5) ho o_ k_ k_ k_ k_ (Tu r hr 0) (Tu s hs 0) rfl rfl (by rw[hb];exact RV.vz.symm)
theorem Tv{neg:Bool}(ho:G8 o=some (neg,66))(r s:RP)(hr:r.Sm)(hs:s.Sm){b:Bool}(hb:(if neg then b else !b)=true↔r=s):cz prog Bs o [r.v,s.v] [] (.bool b) []:=
 Nz (m:=6) ho o_ k_ k_ k_ k_ (aAr r hr 0) (aAr s hs 0) rfl rfl (by rw[hb];exact RP.vz.symm)
end
def bt(z:Int):RI:=⟨decide (z<0),cD z.natAbs⟩
theorem aAt(z:Int):bI z=(bt z).v:=rfl
theorem xf{x:Int}(h:bt x=bt y):x=y:=by have h1:decide (x<0)=decide (y<0):=ch RI.neg h;have h2:x.natAbs=y.natAbs:=aIj (ch RI.aT h);rw[oW]at h1;omega
def qO(f:Fr):RN:=⟨bt f.a,bt f.b,bt f.c,bt f.e,bt f.d⟩
def gZ(f:Fr):Value:=(qO f).v
theorem aJN{f g:Fr}(h:qO f=qO g):f=g:=Fr.ext' (xf (ch RN.a h)) (xf (ch RN.b h)) (xf (ch RN.c h)) (xf (ch RN.e h)) (xf (ch RN.d h))
def dR(x:K):RN:=qO (bF x)
def cd(x:K):Value:=(dR x).v
theorem J0{x y:K}(h:dR x=dR y):x=y:=aJH (aJN h)
abbrev aA:Nat:=1099511627774
theorem tt{n:Nat}(h:z.natAbs<2^n)(hn:n<=aA):(bt z).Sm:=by show(cD z.natAbs).length<=maxLen;rw[ti];have:=vx h;unfold aA at hn;simp[maxLen];omega
theorem aJO{f:Fr}{n:Nat}(h:dH n f)(hn:n<=aA):(qO f).Sm:=⟨tt h.1 hn,tt h.2.1 hn,tt h.2.2.1 hn,tt h.2.2.2.1 hn,tt h.2.2.2.2 hn⟩
theorem CS{x:K}{n:Nat}(h:Sz n x)(hn:n<=aA):(dR x).Sm:=aJO h hn
def ic(c:Nat->Int):ah:=[.bool (bt (c 0)).neg,.string (BA (bt (c 0)).aT),.bool (bt (c 1)).neg,.string (BA (bt (c 1)).aT),.bool (bt (c 2)).neg,.string (BA (bt (c 2)).aT),.bool (bt (c 3)).neg,.string (BA (bt (c 3)).aT)]
def pb(c:Nat->Int):Value:=.agg (ic c).toArray
def co(f:Fr):Nat->Int
 |0=>f.a
 |1=>f.b
 |2=>f.c
 |_=>f.e
def nU(c:Nat->Int)(d:Int):Fr:=⟨c 0,c 1,c 2,c 3,d⟩
theorem CT{g:Nat}{x:Int}{p:Nat}(h1:g<2^p)(h2:x.natAbs<2^q)(hp:p<=1099511627776)(hq:q<=1099511627776):aD prog 182 [bI g,bI x] (bI (Nat.gcd g x.natAbs:Nat)):=by have:=JI (x:=(g:Int)) (y:=x) (by rw[AY];exact h1) h2 hp hq;rw[AY]at this;exact this
theorem aJP{g p:Nat}(h:g<2^p):Nat.gcd g m<2^p\/g=0:=by
 by_cases hg:g=0
 ·exact .inr hg
 ·exact .inl (eX (aAu m (s8 hg)) h)
theorem tu{g p:Nat}(h:g<2^p)(h2:m<2^p):Nat.gcd g m<2^p:=by
 rcases aJP (m:=m) h with h3|h3
 ·exact h3
 ·rw[h3,Tw];exact h2
theorem Tx{c:Nat->Int}{d:Int}{n:Nat}(h:dH n (nU c d))(hn:n<=aA):aD prog 130 [pb c,bI d] (bI ((nU c d).g:Nat)):=by
 obtain⟨h0,h1,h2,h3,h4⟩:=h;have oj:n<=1099511627776:=by unfold aA at hn;omega
 have g1:=JI h4 h0 oj oj;have s1:=tu h4 h0;have g2:=CT s1 h1 oj oj;have s2:=tu s1 h1;have g3:=CT s2 h2 oj oj;have s3:=tu s2 h2;have g4:=CT s3 h3 oj oj;exact aZ func130 (λ_=>[g1.at 15,g2.at 15,g3.at 15,g4.at 15])
theorem Ty{x:Int}{n:Nat}(hy:y≠0)(h1:x.natAbs<2^n)(h2:y.natAbs<2^n)(hn:n<=aA):aD prog 222 [bI x,bI y] (bI (x.fdiv y)):=
 aZ func222 (λ_=>[(SX hy h1 h2 hn hn).at 11])
theorem CU{c:Nat->Int}{d:Int}{n:Nat}(hd:d≠0)(h:dH n (nU c d))(hn:n<=aA):aD prog 190 [pb c,bI d] (gZ (nU c d).low):=by
 have hc:=Tx h hn;have oj:n<=1099511627776:=by unfold aA at hn;omega
 obtain⟨f,hf⟩:∃ f,f=nU c d:=⟨_,rfl⟩;have u5:f.d≠0:=by rw[hf];exact hd
 have pU:=Tk u5;have Tz:=NO f;have hg:f.g<2^n:=by
  have h5:f.d.natAbs<2^n:=by rw[hf];exact h.2.2.2.2
  exact eX (Nat.le_of_dvd o_ (ET f)) h5
 have bE:f.s.natAbs<2^n:=by rw[Tz];exact hg
 have ov:∀ u:Int,f.g ∣ u.natAbs->u.natAbs<2^n->aD prog 222 [bI u,bI f.s] (bI (u/f.s)):=λu hu xg=>by have:=Ty pU xg bE hn;rw[Int.fdiv_eq_ediv_of_dvd (CP hu)]at this;exact this
 have o0:=ov f.a (NK f) (by rw[hf];exact h.1);have o1:=ov f.b (NL f) (by rw[hf];exact h.2.1);have o2:=ov f.c (NM f) (by rw[hf];exact h.2.2.1);have o3:=ov f.e (NN f) (by rw[hf];exact h.2.2.2.1);have o4:=ov f.d (ET f) (by rw[hf];exact h.2.2.2.2);have A1:=kZ (z:=1) d_;have aB:=qN d;rw[<-hf]at hc ⊢;have e0:f.a=c 0:=by rw[hf];rfl
 have e1:f.b=c 1:=by rw[hf];rfl
 have e2:f.c=c 2:=by rw[hf];rfl
 have e3:f.e=c 3:=by rw[hf];rfl
 have e4:f.d=d:=by rw[hf];rfl
 have one:(bt 1).Sm:=tt (n:=1) d_ d_;have sm:(bt f.s).Sm:=tt bE hn;by_cases E0:d<0
 ·have hs:f.s=-(f.g:Int):=by unfold Fr.s;rw[e4,au E0]
  have bd:bt f.s≠bt 1:=λe=>by have:=xf e;omega
  have ng:=nT (f.g:Int);rw[<-hs]at ng;rw[e0]at o0;rw[e1]at o1;rw[e2]at o2;rw[e3]at o3;rw[e4]at o4;have du:f.low=⟨c 0/f.s,c 1/f.s,c 2/f.s,c 3/f.s,d/f.s⟩:=by unfold Fr.low;rw[e0,e1,e2,e3,e4]
  rw[du];have A2:decide (d.sign<0)=true:=aC (by rw[EK E0];decide);generalize f.s=s at *;exact aZ func190 (λ_=>[hc.at 9,aB.at 11,.rw 12 (.bool (decide (d.sign<0))) b_ (by rw[A2]),ng.at 14,A1.at 16,.step 17 (ay f190 17) _ _ _ _ (A0 (neg:=true) k_ (bt s) (bt 1) sm one (b:=false) (by simp;exact bd)),o0.at 29,o1.at 29,o2.at 29,o3.at 29,o4.at 35])
 ·have hs:f.s=(f.g:Int):=by unfold Fr.s;rw[e4,al E0]
  have A2:decide (d.sign<0)=false:=aO (by rw[yO o_];decide);by_cases tv:f.g=1
  ·have du:f.low=f:=by unfold Fr.low;rw[hs,tv];simp
   rw[du,hf];rw[tv]at hc;exact aZ func190 (λ_=>[hc.at 9,aB.at 11,.rw 12 (.bool (decide (d.sign<0))) a_ (by rw[A2]),A1.at 16,.step 17 (ay f190 17) _ _ _ _ (A0 (neg:=true) k_ (bt 1) (bt 1) one one (b:=true) s_)])
  ·have bd:bt f.s≠bt 1:=λe=>by have:=xf e;omega
   rw[e0]at o0;rw[e1]at o1;rw[e2]at o2;rw[e3]at o3;rw[e4]at o4;have du:f.low=⟨c 0/f.s,c 1/f.s,c 2/f.s,c 3/f.s,d/f.s⟩:=by unfold Fr.low;rw[e0,e1,e2,e3,e4]
   rw[du];rw[<-hs]at hc;generalize f.s=s at *;exact aZ func190 (λ_=>[hc.at 9,aB.at 11,.rw 12 (.bool (decide (d.sign<0))) a_ (by rw[A2]),A1.at 16,.step 17 (ay f190 17) _ _ _ _ (A0 (neg:=true) k_ (bt s) (bt 1) sm one (b:=false) (by simp;exact bd)),o0.at 29,o1.at 29,o2.at 29,o3.at 29,o4.at 35])
theorem TA{f:Fr}{n:Nat}(hf:f.o9)(h:dH n f)(hn:n<=aA):aD prog 84 [gZ f] b_:=by have hc:=Tx (c:=co f) (d:=f.d) h hn;have e:nU (co f) f.d=f:=rfl;rw[e,hf.one]at hc;have hp:=hf.pos;have hs:decide (f.d.sign>0)=true:=aC (by rw[yO hp];decide);have one:(bt 1).Sm:=tt (n:=1) d_ d_;exact aZ func84 (λ_=>[(lH f.a).at 11,(lH f.b).at 11,(lH f.c).at 11,(lH f.e).at 11,(lH f.d).at 16,(qN f.d).at 20,.rw 21 (.bool (decide (f.d.sign>0))) b_ (by rw[hs]),hc.at 28,(kZ (z:=1) d_).at 29,.step 30 (ay f84 30) _ _ _ _ (A0 (neg:=true) k_ (bt 1) (bt 1) one one (b:=true) s_)])
theorem kK{x:K}{n:Nat}(h:Sz n x)(hn:n<=aA):aD prog 84 [cd x] b_:=TA (ku x) h hn
theorem TB(z:Int):bF (⟨⟨z,0⟩,⟨0,0⟩⟩:K)=⟨z,0,0,0,1⟩:=by
 have hl:Fr.o9 ⟨z,0,0,0,1⟩:=⟨Int.zero_lt_one,by simp[Fr.g]⟩;have hv:Fr.val ⟨z,0,0,0,1⟩=⟨⟨z,0⟩,⟨0,0⟩⟩:=by
  unfold Fr.val;dsimp only;have e:∀ u:Int,Rat.divInt u 1=(u:Rat):=λu=>by rw[AZ,EX];grind
  rw[e,e];rfl
 rw[<-hv];exact EU hl
def kI(z:Int):K:=⟨⟨z,0⟩,⟨0,0⟩⟩
theorem aAv(z:Int):cd (kI z)=gZ ⟨z,0,0,0,1⟩:=by unfold cd dR kI;rw[TB];rfl
theorem qP{n:Nat}(h:z.natAbs<2^n)(hn:0<n):Sz n (kI z):=by unfold Sz kI;rw[TB];have:2^1<=2^n:=c7 d_ hn;exact⟨h,by simp;omega,by simp;omega,by simp;omega,by simp;omega⟩
theorem CV:bt 0=⟨false,[]⟩:=by unfold bt;simp[CA]
theorem tw(h:z.natAbs<9223372036854775808):aD prog 60 [.int .i64 z] (cd (kI z)):=by
 rw[aAv];have e:gZ ⟨z,0,0,0,1⟩=(RN.mk (bt z) ⟨false,[]⟩ ⟨false,[]⟩ ⟨false,[]⟩ (bt 1)).v:=by unfold gZ qO;rw[CV]
 rw[e];exact aZ func60 (λ_=>[(kZ h).at 4,(kZ (z:=1) d_).at 6])
theorem aJQ{c:Nat->Int}{d:Int}{n:Nat}(hd:d≠0)(h:dH n (nU c d))(hn:n<=aA):aD prog 142 [pb c,bI d] (.tuple #[gZ (nU c d).low,.int .i64 0]):=by
 have hl:=CU hd h hn;have hs:(d.sign==0)=false:=by simp;exact hd
 exact aZ func142 (λ_=>[(lH (c 0)).at 13,(lH (c 1)).at 13,(lH (c 2)).at 13,(lH (c 3)).at 13,(lH d).at 19,(qN d).at 24,.rw 25 (.bool (d.sign==0)) a_ (by rw[hs]),hl.at 29])
theorem aJR{p q:Int}{n:Nat}(hq:q≠0)(h1:p.natAbs<2^n)(h2:q.natAbs<2^n)(hn:n<=63):aD prog 93 [.int .i64 p,.int .i64 q] (.tuple #[gZ (Fr.mk p 0 0 0 q).low,.int .i64 0]):=by
 have h63:2^n<=9223372036854775808:=dc (c7 d_ hn) d_;have hp:0<2^n:=cF d_;have hm:=aJQ (c:=λi=>match i with|0=>p|_=>0) (d:=q) (n:=n) hq ⟨h1,hp,hp,hp,h2⟩ (by unfold aA;omega);have e:pb (λi=>match i with|0=>p|_=>0)=.agg #[.bool (bt p).neg,.string (BA (bt p).aT),.bool false,.string ⟨#[]⟩,.bool false,.string ⟨#[]⟩,.bool false,.string ⟨#[]⟩]:=by show Value.agg #[.bool (bt p).neg,.string (BA (bt p).aT),.bool (bt 0).neg,.string (BA (bt 0).aT),.bool (bt 0).neg,.string (BA (bt 0).aT),.bool (bt 0).neg,.string (BA (bt 0).aT)]=_;rw[CV];rfl
 rw[e]at hm;exact aZ func93 (λ_=>[(kZ (z:=p) o_).at 7,(kZ (z:=q) o_).at 10,hm.at 11])
theorem yV{x:K}{n:Nat}(h:Sz n x)(hn:n<=aA):aD prog 212 [cd x] (cd (-x)):=by
 have hv:=kK h hn;have e:cd (-x)=gZ (yU (bF x)):=by unfold cd dR;rw[To];rfl
 rw[e];exact aZ func212 (λ_=>[hv.at 5,(nT (bF x).a).at 16,(nT (bF x).b).at 16,(nT (bF x).c).at 16,(nT (bF x).e).at 16])
theorem uu{x y:K}{n:Nat}(hx:Sz m x)(hy:Sz n y)(cU:m+n<aA):aD prog 140 [cd x,cd y] (cd (x+y)):=by
 have v1:=kK hx o_;have v2:=kK hy o_;have pc:aA<=1099511627776:=by decide
 have xe:=(ku x).pos;have vy:=(ku y).pos;have hl:=CU (c:=co (pT (bF x) (bF y))) (d:=(pT (bF x) (bF y)).d) (n:=m+n+1) (CQ o_ o_) (dH.add hx hy) o_;have e:cd (x+y)=gZ (pT (bF x) (bF y)).low:=by unfold cd dR;rw[Tm];rfl
 rw[e];obtain⟨x1,x2,x3,x4,x5⟩:=hx;obtain⟨y1,y2,y3,y4,y5⟩:=hy;have mu:∀{u v:Int} {p q:Nat},u.natAbs<2^p->v.natAbs<2^q->p+q<=aA->aD prog 199 [bI u,bI v] (bI (u*v)):=λh1 h2 h3=>mJ h1 h2 o_ o_;have ad:∀{u v:Int},u.natAbs<2^m->v.natAbs<2^n->aD prog 186 [bI (u*(bF y).d),bI (v*(bF x).d)] (bI (u*(bF y).d+v*(bF x).d)):=λh1 h2=>
  yP (ek h1 y5) (ek h2 x5) o_ o_
 exact aZ func140 (λ_=>[v1.at 8,v2.at 12,(mu x1 y5 o_).at 26,(mu y1 x5 o_).at 33,(ad x1 y1).at 34,(mu x2 y5 o_).at 26,(mu y2 x5 o_).at 33,(ad x2 y2).at 34,(mu x3 y5 o_).at 26,(mu y3 x5 o_).at 33,(ad x3 y3).at 34,(mu x4 y5 o_).at 26,(mu y4 x5 o_).at 33,(ad x4 y4).at 34,(mu x5 y5 o_).at 42,hl.at 43])
theorem A3{x y:K}{n:Nat}(hx:Sz m x)(hy:Sz n y)(cU:m+n<aA):aD prog 174 [cd x,cd y] (cd (x-y)):=by rw[CR.sub_def];exact aZ func174 (λ_=>[(yV hy o_).at 7,(uu hx hy.neg cU).at 8])
section
open CR OF
def mL(x:K):K:=⟨x.re,-x.im⟩
def lJ(x:K):K:=⟨⟨x.re.re,-x.re.im⟩,⟨x.im.re,-x.im.im⟩⟩
def xh(f:Fr):Fr:=⟨f.a,f.b,-f.c,-f.e,f.d⟩
def xi(f:Fr):Fr:=⟨f.a,-f.b,f.c,-f.e,f.d⟩
theorem NX(u d:Int):Rat.divInt (-u) d=-Rat.divInt u d:=(Rat.neg_divInt u d).symm
theorem aAw(f:Fr):(xh f).val=mL f.val:=bA.ext rfl (bA.ext (NX _ _) (NX _ _))
theorem TC(f:Fr):(xi f).val=lJ f.val:=bA.ext (bA.ext rfl (NX _ _)) (bA.ext rfl (NX _ _))
theorem aJS{f:Fr}(h:f.o9):(xh f).o9:=⟨h.pos,by have:=h.one;unfold Fr.g at this ⊢;simpa[xh]using this⟩
theorem aJT{f:Fr}(h:f.o9):(xi f).o9:=⟨h.pos,by have:=h.one;unfold Fr.g at this ⊢;simpa[xi]using this⟩
theorem aAx(x:K):bF (mL x)=xh (bF x):=by have:=EU (aJS (ku x));rw[aAw,oE]at this;exact this
theorem aAy(x:K):bF (lJ x)=xi (bF x):=by have:=EU (aJT (ku x));rw[TC,oE]at this;exact this
theorem Sz.mL{n:Nat}{x:K}(h:Sz n x):Sz n (mL x):=by unfold Sz at *;rw[aAx];obtain⟨h1,h2,h3,h4,h5⟩:=h;exact⟨h1,h2,by simpa[xh]using h3,by simpa[xh]using h4,h5⟩
theorem Sz.lJ{n:Nat}{x:K}(h:Sz n x):Sz n (lJ x):=by unfold Sz at *;rw[aAy];obtain⟨h1,h2,h3,h4,h5⟩:=h;exact⟨h1,by simpa[xi]using h2,h3,by simpa[xi]using h4,h5⟩
def two(y:K):K:=y*mL y
def qQ(y:K):K:=two y*lJ (two y)
theorem aJU(y:K):two y=⟨bA.nm y,0⟩:=by
 unfold two mL;apply bA.ext
 ·show y.re*y.re+yT*(y.im*-y.im)=y.re*y.re-yT*(y.im*y.im);exact k6 y.re y.im yT (λa b s=>a*a+s*(b*-b)) (λa b s=>a*a-s*(b*b)) d_
 ·show y.re*-y.im+y.im*y.re=0;exact kt y.re y.im (λa b=>a*-b+b*a) (λ_ _=>0) d_
theorem NY(y:K):qQ y=⟨⟨bA.nm (bA.nm y),0⟩,⟨0,0⟩⟩:=by
 unfold qQ;rw[aJU];obtain⟨p,q⟩:=bA.nm y;have e:lJ (⟨⟨p,q⟩,0⟩:K)=⟨⟨p,-q⟩,0⟩:=by unfold lJ;show(⟨⟨p,-q⟩,⟨0,-0⟩⟩:K)=_;rw[CR.neg_zero];rfl
 rw[e];apply bA.ext
 ·show(⟨p,q⟩:K2)*⟨p,-q⟩+yT*(0*0)=_;rw[CR.zero_mul,CR.mul_zero,CR.add_zero];apply bA.ext
  ·show p*p+2*(q*-q)=p*p-2*(q*q)
   grind
  ·show p*-q+q*p=0
   grind
 ·show(⟨p,q⟩:K2)*0+0*⟨p,-q⟩=0;rw[CR.mul_zero,CR.zero_mul,CR.add_zero]
theorem TD{y:K}(h:y≠0):bA.nm (bA.nm y)≠0:=λe=>h (bA.NI (bA.NI e))
theorem aAz(q:Rat):bF (⟨⟨q,0⟩,⟨0,0⟩⟩:K)=⟨q.num,0,0,0,q.den⟩:=by
 have hl:Fr.o9 ⟨q.num,0,0,0,q.den⟩:=⟨by show(0:Int)<(q.den:Int);have:=q.den_pos;omega,by have:=q.reduced;unfold Nat.Coprime at this;simp[Fr.g];rw[G4];exact this⟩
 have hv:Fr.val ⟨q.num,0,0,0,q.den⟩=⟨⟨q,0⟩,⟨0,0⟩⟩:=by
  unfold Fr.val;have e:∀ d:Int,Rat.divInt 0 d=0:=λd=>by simp
  dsimp only;rw[e,aAl]
 rw[<-hv];exact EU hl
def nV(y:K):Fr:=⟨(bF (qQ y)).d,0,0,0,(bF (qQ y)).a⟩
theorem NZ{y:K}(h:y≠0):(nV y).d≠0:=by unfold nV;dsimp only;rw[NY,aAz];exact λe=>TD h (Rat.num_eq_zero.1 e)
theorem aJV{y:K}(h:y≠0):qQ y*(nV y).val=1:=by
 have hq:=TD h;have e1:(nV y).val=⟨⟨(bA.nm (bA.nm y))⁻¹,0⟩,⟨0,0⟩⟩:=by
  unfold nV Fr.val;rw[NY,aAz];have e:∀ d:Int,Rat.divInt 0 d=0:=λd=>by simp
  dsimp only;rw[e,AZ];generalize bA.nm (bA.nm y)=q at *;have h2:((q.den:Int):Rat)/(q.num:Rat)=q⁻¹:=by
   have h3:(q.num:Rat)≠0:=by simpa using hq
   have h4:((q.den:Int):Rat)*q=q.num:=by
    have h5:(q.num:Rat)/((q.den:Int):Rat)=q:=by rw[<-AZ];exact aAl q
    have h6:((q.den:Int):Rat)≠0:=by have:=q.den_nz;simpa using this
    have h7:=aAe (a:=(q.num:Rat)) h6;rw[h5,Rat.mul_comm]at h7;exact h7
   have h8:=Hm q hq;have h9:=Hm (q.num:Rat) h3;rw[EX]
   grind
  rw[h2]
 rw[e1,NY];generalize bA.nm (bA.nm y)=q at *;have h8:=Hm q hq;apply bA.ext
 ·apply bA.ext
  ·show(q*q⁻¹+2*(0*0))+(3*(0*0+2*(0*0))+2*(0*(0*0+0*0)))=1
   grind
  ·show(q*0+0*q⁻¹)+(3*(0*0+0*0)+0*(0*0+2*(0*0)))=0
   grind
 ·apply bA.ext
  ·show(q*0+2*(0*0))+(0*q⁻¹+2*(0*0))=0
   grind
  ·show(q*0+0*0)+(0*0+0*q⁻¹)=0
   grind
theorem aAA{x y:K}(h:y≠0):(x*mL y)*(lJ (two y)*(nV y).val)=x*y⁻¹:=by
 have h1:=aJV h;have h2:=OF.lI y h;have e1:y*(mL y*(lJ (two y)*(nV y).val))=1:=by rw[<-h1];unfold qQ two;exact ER y (mL y) (lJ (y*mL y)) (nV y).val (λy c b i=>y*(c*(b*i))) (λy c b i=>y*c*b*i) d_
 have e2:mL y*(lJ (two y)*(nV y).val)=y⁻¹:=by have h3:=ch (λt=>y⁻¹*t) e1;rw[CR.mul_one,<-CR.mul_assoc,CR.mul_comm y⁻¹ y,h2,CR.one_mul]at h3;exact h3
 rw[<-e2,CR.mul_assoc]
theorem Sz.inv{n:Nat}{y:K}(h:y≠0)(hy:Sz n y):Sz (4*n+12) (nV y).val:=by have h1:Sz (n+n+4) (two y):=hy.mul hy.mL;have h2:Sz (n+n+4+(n+n+4)+4) (qQ y):=h1.mul h1.lJ;have h3:Sz (4*n+12) (qQ y):=h2.mono o_;unfold Sz;rw[EV (NZ h)];obtain⟨a1,a2,a3,a4,a5⟩:=h3;have hp:0<2^(4*n+12):=cF d_;exact dH.low ⟨a5,hp,hp,hp,a1⟩ (NZ h)
theorem Sz.div{n:Nat}{x y:K}(h:y≠0)(hx:Sz m x)(hy:Sz n y):Sz (m+7*n+28) (x*y⁻¹):=by rw[<-aAA h];have h1:Sz (n+n+4) (two y):=hy.mul hy.mL;exact((hx.mul hy.mL).mul (h1.lJ.mul (Sz.inv h hy))).mono o_
end
def sq(n:Nat):Int:=match n with|0=>1|1=>2|2=>3|_=>6
def xj(n:Nat)(a b c:Nat->Int):Nat->Int:=λk=>if Nat.beq k ((n/4) ^^^ (n%4))then c k+sq ((n/4)&&& (n%4))*(a (n/4)*b (n%4))else c k
def jF(a b:Nat->Int):Nat->Nat->Int
 |0=>λ_=>0
 |n+1=>xj n a b (jF a b n)
def m7(n:Nat):Nat:=4+9*(n/4)
def nx(n:Nat):Nat:=m7 n+1+2*(n%4)
def ptr(k:Nat):Value:=.pointer (some ⟨k,0,some 7⟩)
section
variable{Bs:ae}{a b:Nat->Int}
def TE(n:Nat)(b:Nat->Int):aM:=[(18,pb b),(19,vI (n%4)),(6,vI (n/4)),(7,ptr (m7 n)),(5,ptr 3)]
def Hp(n:Nat)(a c:Nat->Int):aE:=[(3,.aI (ic c) 38),(m7 n,.aI (bt (a (n/4))).cs 37)]
theorem N0{n:Nat}{c:Nat->Int}(h:a (n/4)=0\/b (n%4)=0):xj n a b c=c:=by
 funext k
 unfold xj;split
 ·rcases h with h|h<;>rw[h]<;>simp
 ·rfl
theorem J1:((BA (cD z.natAbs)).toList==(ByteArray.mk #[]).toList)=decide (z=0):=by rw[qK,oW];omega
theorem aJW(n:Nat)(hn:n<16){c:Nat->Int}{p r:Nat}(ha:∀ i,(a i).natAbs<2^p)(hb:∀ i,(b i).natAbs<2^q)(hc:∀ i,(c i).natAbs<2^r)(N1:p+q+3<=aA)(hr:r<=aA):
  af prog Bs 62 (.block 3 (ag f189 3)) (TE n b) (Hp n a c) (nx n) ⟨.normal,[],Hp n a (xj n a b c),nx n+2⟩:=by
 have pc:aA<=1099511627776:=by decide
 have qR:∀ m,(sq m).natAbs<2^3:=λm=>by unfold sq;split<;>decide
 have m1:=mJ (ha (n/4)) (hb (n%4)) o_ o_;have m2:=mJ (qR ((n/4)&&& (n%4))) (ek (ha (n/4)) (hb (n%4))) o_ o_;have ad:=yP (hc ((n/4) ^^^ (n%4))) (ek (qR ((n/4)&&& (n%4))) (ek (ha (n/4)) (hb (n%4)))) o_ o_;have so:=kZ (z:=sq ((n/4)&&& (n%4))) (lD (qR _) d_);by_cases h1:a (n/4)=0
 ·rw[N0 (.inl h1)];have e:((BA (cD (a (n/4)).natAbs)).toList==(ByteArray.mk #[]).toList)=true:=by rw[J1];exact aC h1
  rcases n with _|_|_|_|_|_|_|_|_|_|_|_|_|_|_|_|n
  all_goals first|omega|exact az [.rw 25 _ b_ (ch Value.bool e)]
 ·by_cases h2:b (n%4)=0
  ·rw[N0 (.inr h2)];have e:((BA (cD (a (n/4)).natAbs)).toList==(ByteArray.mk #[]).toList)=false:=by rw[J1];exact aO h1
   have e':((BA (cD (b (n%4)).natAbs)).toList==(ByteArray.mk #[]).toList)=true:=by rw[J1];exact aC h2
   rcases n with _|_|_|_|_|_|_|_|_|_|_|_|_|_|_|_|n
   all_goals first|omega|exact az [.rw 25 _ a_ (ch Value.bool e),.rw 29 _ b_ (ch Value.bool e')]
  ·have e:((BA (cD (a (n/4)).natAbs)).toList==(ByteArray.mk #[]).toList)=false:=by rw[J1];exact aO h1
   have e':((BA (cD (b (n%4)).natAbs)).toList==(ByteArray.mk #[]).toList)=false:=by rw[J1];exact aO h2
   rcases n with _|_|_|_|_|_|_|_|_|_|_|_|_|_|_|_|n
   all_goals first|omega|exact az [.rw 25 _ a_ (ch Value.bool e),.rw 29 _ a_ (ch Value.bool e'),so.at 37,m1.at 49,m2.at 50,ad.at 51]
theorem TF{p q:Nat}(ha:∀ i,(a i).natAbs<2^p)(hb:∀ i,(b i).natAbs<2^q):∀ n,n<=16->∀ k,(jF a b n k).natAbs<=n*2^(p+q+3)
 |0,_,k=>by show(0:Int).natAbs<=_;simp
 |n+1,hn,k=>by
  have ih:=TF ha hb n o_ k;show(xj n a b (jF a b n) k).natAbs<=_;unfold xj;rw[fp,pK];split
  ·have qR:∀ m,(sq m).natAbs<2^3:=λm=>by unfold sq;split<;>decide
   have h1:=ek (qR ((n/4)&&& (n%4))) (ek (ha (n/4)) (hb (n%4)));rw[show 3+(p+q)=p+q+3 by omega]at h1;have:=aAm (jF a b n k) (sq ((n/4)&&& (n%4))*(a (n/4)*b (n%4)));exact dc this (J2 ih (jD h1))
  ·exact dc ih (Jr _ _)
end
theorem J3(f g:Fr):nU (jF (co f) (co g) 16) (f.d*g.d)=dO f g:=by
 apply Fr.ext'
 ·show jF (co f) (co g) 16 0=_;simp[jF,xj,sq,co,dO]
 ·show jF (co f) (co g) 16 1=_;simp[jF,xj,sq,co,dO]
 ·show jF (co f) (co g) 16 2=_;simp[jF,xj,sq,co,dO]
 ·show jF (co f) (co g) 16 3=_;simp[jF,xj,sq,co,dO]
 ·rfl
theorem Hq{f:Fr}{n:Nat}(h:dH n f):∀ i,(co f i).natAbs<2^n
 |0=>h.1
 |1=>h.2.1
 |2=>h.2.2.1
 |_+3=>h.2.2.2.1
theorem aAB:ic (λ_=>0)=[.bool false,.string ⟨#[]⟩,.bool false,.string ⟨#[]⟩,.bool false,.string ⟨#[]⟩,.bool false,.string ⟨#[]⟩]:=by unfold ic;rw[CV];rfl
theorem aJX{f g:Fr}{n:Nat}(hf:dH m f)(hg:dH n g)(u5:f.d≠0)(nO:g.d≠0)(cU:m+n+8<=aA):aD prog 189 [gZ f,gZ g] (gZ (dO f g).low):=by
 have pc:aA<=1099511627776:=by decide
 have ca:=Hq hf;have cb:=Hq hg;have hl:=CU (c:=jF (co f) (co g) 16) (d:=f.d*g.d) (n:=m+n+4) (CQ u5 nO) (by rw[J3];exact hf.mul hg) o_;rw[J3]at hl;have md:=mJ hf.2.2.2.2 hg.2.2.2.2 o_ o_;have hs:∀ i,i<=16->∀ k,(jF (co f) (co g) i k).natAbs<2^(m+n+8):=λi hi k=>by
  have h1:=TF ca cb i hi k;have h2:i*2^(m+n+3)<=16*2^(m+n+3):=eZ _ hi;have h3:2^(m+n+8)=32*2^(m+n+3):=by rw[show m+n+8=5+(m+n+3)by omega,eh]
  have h4:0<2^(m+n+3):=cF d_;omega
 have go:∀(w:h_) (i:Nat),i<16->af prog (ae.at w) 62 (.block 3 (ag f189 3)) (TE i (co g)) (Hp i (co f) (jF (co f) (co g) i)) (nx i) ⟨.normal,[],Hp i (co f) (jF (co f) (co g) (i+1)),nx i+2⟩:=λw i hi=>
  aJW i hi ca cb (hs i o_) o_ o_
 have TG:∀(w:h_),af prog (ae.at w) 62 (.block 3 (ag f189 3)) (TE 0 (co g)) [(3,.aI [.bool false,.string ⟨#[]⟩,.bool false,.string ⟨#[]⟩,.bool false,.string ⟨#[]⟩,.bool false,.string ⟨#[]⟩] 38),(m7 0,.aI (bt (co f 0)).cs 37)] (nx 0)
   ⟨.normal,[],Hp 0 (co f) (jF (co f) (co g) 1),nx 0+2⟩:=λw=>by
  have h:=go w 0 o_;have e:Hp 0 (co f) (jF (co f) (co g) 0)=[(3,.aI [.bool false,.string ⟨#[]⟩,.bool false,.string ⟨#[]⟩,.bool false,.string ⟨#[]⟩,.bool false,.string ⟨#[]⟩] 38),(m7 0,.aI (bt (co f 0)).cs 37)]:=by show[(3,Obj.aI (ic (λ_=>0)) 38),(m7 0,.aI (bt (co f 0)).cs 37)]=_;rw[aAB]
  rw[e]at h;exact h
 generalize jF (co f) (co g)=c at *;exact fj mixed func189 200 (λw=>[.code 3 _ _ _ _ _ (TG w),.code 3 _ _ _ _ _ (go w 1 o_),.code 3 _ _ _ _ _ (go w 2 o_),.code 3 _ _ _ _ _ (go w 3 o_),.code 3 _ _ _ _ _ (go w 4 o_),.code 3 _ _ _ _ _ (go w 5 o_),.code 3 _ _ _ _ _ (go w 6 o_),.code 3 _ _ _ _ _ (go w 7 o_),.code 3 _ _ _ _ _ (go w 8 o_),.code 3 _ _ _ _ _ (go w 9 o_),.code 3 _ _ _ _ _ (go w 10 o_),.code 3 _ _ _ _ _ (go w 11 o_),.code 3 _ _ _ _ _ (go w 12 o_),.code 3 _ _ _ _ _ (go w 13 o_),.code 3 _ _ _ _ _ (go w 14 o_),.code 3 _ _ _ _ _ (go w 15 o_),md.at 60,hl.at 61]) (λ_=>k_) k_ k_
theorem Hr{x y:K}{n:Nat}(hx:Sz m x)(hy:Sz n y)(cU:m+n+8<=aA):aD prog 189 [cd x,cd y] (cd (x*y)):=by
 have e:cd (x*y)=gZ (dO (bF x) (bF y)).low:=by unfold cd dR;rw[Tn];rfl
 rw[e];exact aJX hx hy (by have:=(ku x).pos;omega) (by have:=(ku y).pos;omega) cU
theorem oG{x y:K}{n:Nat}(hx:Sz m x)(hy:Sz n y)(cU:m+n+8<=aA):aD prog 143 [cd x,cd y] (cd (x*y)):=
 aZ func143 (λ_=>[(kK hx o_).at 6,(kK hy o_).at 10,(Hr hx hy cU).at 16])
theorem aJY{x:K}:aD prog 188 [cd x,vI 2] (cd (mL x)):=by
 have e:cd (mL x)=gZ (xh (bF x)):=by unfold cd dR;rw[aAx];rfl
 rw[e];exact aZ func188 (λ_=>[(nT (bF x).c).at 18,(nT (bF x).e).at 18])
theorem aJZ{x:K}:aD prog 188 [cd x,vI 1] (cd (lJ x)):=by
 have e:cd (lJ x)=gZ (xi (bF x)):=by unfold cd dR;rw[aAy];rfl
 rw[e];exact aZ func188 (λ_=>[(nT (bF x).b).at 18,(nT (bF x).e).at 18])
theorem aJ0:kI 0=0:=rfl
theorem Hs{x y:K}{n:Nat}(h:y≠0)(hx:Sz m x)(hy:Sz n y)(cU:m+7*n+40<=aA):aD prog 135 [cd x,cd y] (.tuple #[cd (x*y⁻¹),.int .i64 0]):=by
 have h1:Sz (n+n+4) (two y):=hy.mul hy.mL;have h2:Sz (n+n+4+(n+n+4)+4) (qQ y):=h1.mul h1.lJ;have h3:=Sz.inv h hy;have d1:=Hr hy hy.mL o_;have d2:=Hr h1 h1.lJ o_;have d3:=Hr hx hy.mL o_;have d4:=Hr h1.lJ h3 o_;have d5:=Hr (hx.mul hy.mL) (h1.lJ.mul h3) o_;rw[aAA h]at d5;have hi:=CU (c:=co (nV y)) (d:=(nV y).d) (n:=n+n+4+(n+n+4)+4) (NZ h) (by obtain⟨a1,a2,a3,a4,a5⟩:=h2;have hp:0<2^(n+n+4+(n+n+4)+4):=cF d_;exact⟨a5,hp,hp,hp,a1⟩) o_
 have e:nU (co (nV y)) (nV y).d=nV y:=rfl;have e2:gZ (nV y).low=cd (nV y).val:=by unfold cd dR;rw[EV (NZ h)];rfl
 rw[e,e2]at hi;have e3:pb (co (nV y))=.agg #[.bool (bt (bF (qQ y)).d).neg,.string (BA (bt (bF (qQ y)).d).aT),.bool false,.string ⟨#[]⟩,.bool false,.string ⟨#[]⟩,.bool false,.string ⟨#[]⟩]:=by show Value.agg #[.bool (bt (bF (qQ y)).d).neg,.string (BA (bt (bF (qQ y)).d).aT),.bool (bt 0).neg,.string (BA (bt 0).aT),.bool (bt 0).neg,.string (BA (bt 0).aT),.bool (bt 0).neg,.string (BA (bt 0).aT)]=_;rw[CV];rfl
 rw[e3]at hi;have e4:(nV y).d=(bF (qQ y)).a:=rfl;rw[e4]at hi;have z:=tw (z:=0) d_;have zs:Sz 1 (kI 0):=qP d_ o_;have ne:dR y≠dR (kI 0):=λe=>h (by rw[J0 e];rfl);generalize (nV y).val=v at *;exact aZ func135 (λ_=>[(kK hx o_).at 13,(kK hy o_).at 17,z.at 23,.step 24 (ay f135 24) _ _ _ _ (aAs (neg:=true) k_ (dR y) (dR (kI 0)) (CS hy o_) (CS zs d_) (b:=false) (by simp;exact ne)),(aJY (x:=y)).at 27,d1.at 30,(aJZ (x:=two y)).at 32,d2.at 35,hi.at 42,d3.at 45,d4.at 48,d5.at 49])
theorem aJ1{x:K}(hx:Sz m x)(hm:m<=aA):aD prog 135 [cd x,cd 0] (.tuple #[.agg #[.bool false,.string ⟨#[]⟩,.bool false,.string ⟨#[]⟩,.bool false,.string ⟨#[]⟩,.bool false,.string ⟨#[]⟩,.bool false,.string ⟨#[]⟩],.int .i64 10]):=by have zs:Sz 1 (kI 0):=qP d_ o_;exact aZ func135 (λ_=>[(kK hx hm).at 13,(kK (x:=0) zs d_).at 17,(tw (z:=0) d_).at 23,.step 24 (ay f135 24) _ _ _ _ (aAs (neg:=true) k_ (dR 0) (dR (kI 0)) (CS zs d_) (CS zs d_) (b:=true) (by simp;rfl))])
theorem TH{a b s:Int}(ha:a.natAbs<=1)(hs:s.natAbs<=1):aD prog 184 [.int .i64 a,.int .i64 b,.int .i64 s] (.int .i64 (tn a b s)):=by
 have hw:IntKind.i64.wrap (a*s)=a*s:=by
  have h1:a=-1\/a=0\/a=1:=by omega
  rcases h1 with h1|h1|h1<;>rw[h1,dU]<;>omega
 unfold tn;by_cases h1:a=b
 ·rw[au (.inl h1)];exact aZ func184 (λ_=>[.rw 10 (.bool (a==b)) b_ (by rw[h1];simp)])
 ·by_cases h2:b=0
  ·rw[au (.inr h2)];exact aZ func184 (λ_=>[.rw 10 (.bool (a==b)) a_ (by congr 1;simpa using h1),.rw 13 (.bool (b==0)) b_ (by rw[h2];rfl)])
  ·rw[al (λh=>h.elim h1 h2)];by_cases h3:a=0
   ·rw[au h3];exact aZ func184 (λ_=>[.rw 10 (.bool (a==b)) a_ (by congr 1;simpa using h1),.rw 13 (.bool (b==0)) a_ (by congr 1;simpa using h2),.rw 18 (.bool (a==0)) b_ (by rw[h3];rfl)])
   ·rw[al h3];exact aZ func184 (λ_=>[.rw 10 (.bool (a==b)) a_ (by congr 1;simpa using h1),.rw 13 (.bool (b==0)) a_ (by congr 1;simpa using h2),.rw 18 (.bool (a==0)) a_ (by congr 1;simpa using h3),.wr 22 .i64 (a*s) (a*s) hw])
theorem E1{k:Int}{x:Int}{p:Nat}(hk:k.natAbs<2^3)(h1:x.natAbs<2^p)(h2:y.natAbs<2^q)(N1:p+q+3<=aA):aD prog 187 [.int .i64 k,bI x,bI y] (bI (k*(x*y))):=by
 have pc:aA<=1099511627776:=by decide
 exact aZ func187 (λ_=>[(kZ (z:=k) (lD hk d_)).at 8,(mJ h1 h2 o_ o_).at 11,(mJ hk (ek h1 h2) o_ o_).at 12])
theorem Ht{k x:Int}{p:Nat}(hk:k.natAbs<2^3)(h1:x.natAbs<2^p)(h2:y.natAbs<2^q):(k*(x*y)).natAbs<2^(p+q+3):=by have:=ek hk (ek h1 h2);rwa[show 3+(p+q)=p+q+3 by omega]at this
theorem Hu{x:Int}{p:Nat}(h1:x.natAbs<2^p)(h2:y.natAbs<2^p):(x+y).natAbs<2^(p+1):=by have:=aAm x y;rw[dr];omega
theorem N2{x:Int}{p:Nat}(h1:x.natAbs<2^p)(h2:y.natAbs<2^p):(x-y).natAbs<2^(p+1):=by have:=Int.natAbs_sub_le x y;rw[dr];omega
theorem CW(z:Int):z.sign.natAbs<=1:=by
 rcases NJ z 0 with h|h|h
 ·rw[EK h];decide
 ·rw[h];decide
 ·rw[yO h];decide
theorem TI{x:Int}{p:Nat}(h1:x.natAbs<2^p)(h2:y.natAbs<2^q)(hp:p+p+3<=aA)(hq:q+q+3<=aA):aD prog 183 [bI x,bI y] (.int .i64 (pa x y)):=by
 have pc:aA<=1099511627776:=by decide
 exact aZ func183 (λ_=>[(qN x).at 6,(qN y).at 8,(mJ h1 h1 o_ o_).at 11,(E1 (k:=2) d_ h2 h2 o_).at 14,(SM (ek h1 h1) (Ht (k:=2) d_ h2 h2) o_ o_).at 15,(TH (b:=y.sign) (s:=(x*x-2*(y*y)).sign) (CW x) (CW _)).at 16])
theorem N3(x y:Int):(pa x y).natAbs<=1:=by
 unfold pa tn;have h1:=CW x;have h2:=CW y;have h3:=CW (x*x-2*(y*y));split
 ·exact h1
 ·split
  ·exact h2
  ·rw[xd];exact dc (Cr h1 h3) d_
theorem nA{x:K}{n:Nat}(hx:Sz n x)(hn:4*n+20<=aA):aD prog 133 [cd x] (.int .i64 (OF.aB x)):=by
 have pc:aA<=1099511627776:=by decide
 have hv:=kK hx o_;rw[aAq];obtain⟨x1,x2,x3,x4,x5⟩:=hx;unfold cd dR at *;generalize bF x=f at *;have s1:=TI x1 x2 o_ o_;have s2:=TI x3 x4 o_ o_;have t1:=E1 (k:=1) d_ x1 x1 o_;rw[Ny]at t1;have t2:=E1 (k:=2) d_ x2 x2 o_;have t3:=E1 (k:=3) d_ x3 x3 o_;have t6:=E1 (k:=6) d_ x4 x4 o_;have z1:(f.a*f.a).natAbs<2^(n+n+3):=cC (ek x1 x1) (c7 d_ o_);have z2:=Ht (k:=2) d_ x2 x2;have z3:=Ht (k:=3) d_ x3 x3;have z6:=Ht (k:=6) d_ x4 x4;have a1:=yP z1 z2 o_ o_;have a2:=yP z3 z6 o_ o_;have b1:=EN (Hu z1 z2) (Hu z3 z6) o_ o_;have u2:=E1 (k:=2) d_ x1 x2 o_;have u6:=E1 (k:=6) d_ x3 x4 o_;have y2:=Ht (k:=2) d_ x1 x2;have y6:=Ht (k:=6) d_ x3 x4;have b2:=EN y2 y6 o_ o_;have s3:=TI (N2 (Hu z1 z2) (Hu z3 z6)) (N2 y2 y6) o_ o_;have xk:=N3 f.a f.b;have TJ:=N3 ((f.a*f.a+2*(f.b*f.b))-(3*(f.c*f.c)+6*(f.e*f.e))) (2*(f.a*f.b)-6*(f.c*f.e));have mx:=TH (b:=pa f.c f.e) xk TJ;have m0:=TH (a:=pa f.a f.b) (b:=pa f.c f.e) (s:=0) xk d_;unfold NU;generalize pa f.a f.b=p at *;generalize pa f.c f.e=q at *;by_cases h:p=q\/q=0\/p=0
 ·have e:tn p q (pa ((f.a*f.a+2*(f.b*f.b))-(3*(f.c*f.c)+6*(f.e*f.e))) (2*(f.a*f.b)-6*(f.c*f.e)))=tn p q 0:=by
   unfold tn;by_cases h1:p=q\/q=0
   ·rw[au h1,au h1]
   ·rw[al h1,al h1];have h2:p=0:=by
     rcases h with h|h|h
     ·exact absurd (.inl h) h1
     ·exact absurd (.inr h) h1
     ·exact h
    rw[au h2,au h2]
  rw[e];by_cases h1:p=q
  ·exact aZ func133 (λ_=>[hv.at 12,s1.at 28,s2.at 31,.rw 34 (.bool (p==q)) b_ (by rw[h1];simp),m0.at 45])
  ·by_cases h2:q=0
   ·exact aZ func133 (λ_=>[hv.at 12,s1.at 28,s2.at 31,.rw 34 (.bool (p==q)) a_ (by congr 1;simpa using h1),.rw 37 (.bool (q==0)) b_ (by rw[h2];rfl),m0.at 45])
   ·have h3:p=0:=by
     rcases h with h|h|h
     ·exact absurd h h1
     ·exact absurd h h2
     ·exact h
    exact aZ func133 (λ_=>[hv.at 12,s1.at 28,s2.at 31,.rw 34 (.bool (p==q)) a_ (by congr 1;simpa using h1),.rw 37 (.bool (q==0)) a_ (by congr 1;simpa using h2),.rw 41 (.bool (p==0)) b_ (by rw[h3];rfl),m0.at 45])
 ·have h1:p≠q:=λe=>h (.inl e);have h2:q≠0:=λe=>h (.inr (.inl e));have h3:p≠0:=λe=>h (.inr (.inr e));exact aZ func133 (λ_=>[hv.at 12,s1.at 28,s2.at 31,.rw 34 (.bool (p==q)) a_ (by congr 1;simpa using h1),.rw 37 (.bool (q==0)) a_ (by congr 1;simpa using h2),.rw 41 (.bool (p==0)) a_ (by congr 1;simpa using h3),t1.at 48,t2.at 51,a1.at 52,t3.at 55,t6.at 58,a2.at 59,b1.at 60,u2.at 63,u6.at 66,b2.at 67,s3.at 72,mx.at 73])
theorem lZ{x y:K}{n:Nat}(hx:Sz m x)(hy:Sz n y)(cU:4*(m+n)+24<=aA):aD prog 117 [cd x,cd y] (.int .i64 (OF.aB (x-y))):=
 aZ func117 (λ_=>[(A3 hx hy o_).at 7,(nA (hx.sub hy) o_).at 8])
def iI(x:K):K:=if OF.aB x<0 then -x else x
theorem TK{x:K}{n:Nat}(hx:Sz n x)(hn:4*n+20<=aA):aD prog 202 [cd x] (cd (iI x)):=by
 unfold iI;have n1:=yV hx o_;have n2:=yV hx.neg o_;rw[CR.neg_neg]at n2;by_cases h:OF.aB x<0
 ·rw[au h];exact aZ func202 (λ_=>[(nA hx hn).at 4,.rw 5 (.bool (decide (OF.aB x<0))) b_ (by rw[aC h]),n1.at 7])
 ·rw[al h];exact aZ func202 (λ_=>[(nA hx hn).at 4,.rw 5 (.bool (decide (OF.aB x<0))) a_ (by rw[aO h]),n1.at 9,n2.at 10])
theorem aAC{o:Nat}{x:Obj}(h:iC ι w (.at b o cap) x)(hx:x.owns=true):∃ cs ty,w.heap[b]?=some (.cells cs ty (0,0)):=by
 cases x with
 |aI cells ty=>
  obtain⟨b',bY,e,_,h2⟩:=h;injection e with e _ _;subst e;exact⟨_,_,h2⟩
 |row cells ty size=>
  rcases h with ⟨h,_⟩|⟨b',bj,cur,e,h2,_⟩
  ·cases h
  ·injection e with e _ _;subst e;exact⟨_,_,h2⟩
 |_=>cases hx
def Obj.soft:Obj->Bool
 |.view _=>true
 |.fact F=>!F.rc
 |_=>false
theorem aJ2{x:Obj}(h:x.soft=true)(k:x.owns=true):False:=by cases x<;>simp[Obj.soft,Obj.owns]at h k
theorem aJ3(h:(Obj.fact F).soft=true):F.rc=false:=by simpa[Obj.soft]using h
def Else(w:h_)(l:Nat):Prop:=∀ cs ty f,w.heap[l]?≠some (.cells cs ty f)
theorem TL{l:Nat}{r:Loop}(h:w.heap[l]?=some (.loop r)):Else w l:=λcs ty f e=>by rw[h]at e;cases e
theorem aJ4{l:Nat}{r:Option (List Deferred)}(h:w.heap[l]?=some (.deferred r)):Else w l:=λcs ty f e=>by rw[h]at e;cases e
theorem N4{loc:pw}{x:Obj}{l:Nat}(hl:Else w l)(h:iC ι w loc x)(hx:∀ F,x=.fact F->F.rc=false)(hz:w.heap.size<=w'.heap.size)
  (hs:∀ b o cap,x.owns=true\/x.jv=true->loc=.at b o cap->b=l\/w'.heap[b]?=w.heap[b]?) (hf:∀ F v b,x=.fact F->loc=.val v->F.cM v w b->b=l\/w'.heap[b]?=w.heap[b]?):iC ι w' loc x:=by
 cases x with
 |aI cells ty=>
  obtain⟨b,bY,e,h1,h2⟩:=h;rcases hs b 0 0 (.inl rfl) e with rfl|hb
  ·exact absurd h2 (hl _ _ _)
  ·exact⟨b,bY,e,h1,by rw[hb];exact h2⟩
 |row cells ty size=>
  rcases h with h|⟨b,cap,cur,e,h1,h2⟩
  ·exact .inl h
  ·rcases hs b 0 cap (.inl rfl) e with rfl|hb
   ·exact absurd h1 (hl _ _ _)
   ·exact .inr ⟨b,cap,cur,e,by rw[hb];exact h1,h2⟩
 |view cells=>
  rcases h with h|⟨b,o,cap,bY,e,h1,h2⟩
  ·exact .inl h
  ·rcases hs b o cap (.inr rfl) e with rfl|hb
   ·have:bY=[]:=by
     cases bY with
     |nil=>rfl
     |cons u t=>
      have:=h2 0 u rfl;unfold World.cell? at this;dsimp only at this;split at this
      ·rename_i h3;exact absurd h3 (hl _ _ _)
      ·cases this
    subst this;exact .inr ⟨b,o,cap,[],e,h1,λj u hj=>by cases hj⟩
   ·exact .inr ⟨b,o,cap,bY,e,h1,λj u hj=>by rw[World.cell?_of_block (w:=w) (w':=w') (a:=⟨b,o+j,none⟩) hb];exact h2 j u hj⟩
 |fact F=>
  obtain⟨v,e,h1⟩:=h;refine⟨v,e,(F.soft (hx F rfl) v w w' h1 hz λk hk cs ty f hc=>?_).1⟩;rcases hf F v k rfl e hk with rfl|hb
  ·exact absurd hc (hl _ _ _)
  ·rw[hb];exact hc
 |dead=>trivial
theorem N5{B1 B2:ae}{c2:g_}{w1 w2:h_}(h:aJ B1 ι c w1)(hL:cX c L)(rL:∀ k x,ai L k=some x->κ k=ι k)
  (aJ5:∀ k x l,ai L k=some x->ι k=some l->iC ι w1 l x->iC κ w2 l x) (aJ6:B2.G w2) (DX:∀ k x b o cap,ai L k=some x->x.owns=true->ι k=some (.at b o cap)->¬B2.cM b)
  (yg:w1.heap.size<=w2.heap.size) (R6:∀ k,c2 k=none->κ k=none) (c9:∀ k x,c2 k=some x->ai L k=some x\/(x=.dead/\∃ l,κ k=some l)) (TM:∀ k F,ai L k=some (.fact F)->F.rc=true->B2.Fa F) (hff:∀ k F v b,ai L k=some (.fact F)->ι k=some (.val v)->F.cM v w2 b->F.cM v w1 b)
  (hle:Map.le B2.mp κ):aJ B2 κ c2 w2:=by
 have src:∀{k x},c2 k=some x->x≠.dead->c k=some x/\κ k=ι k/\ai L k=some x:=λ{k x} hk hx=>by
  rcases c9 k x hk with h1|⟨h1,_⟩
  ·exact⟨hL k x h1,rL k x h1,h1⟩
  ·exact absurd h1 hx
 have nd:∀{x:Obj},x.owns=true->x≠.dead:=λh e=>by subst e;cases h
 have nv:∀{x:Obj},x.jv=true->x≠.dead:=λh e=>by subst e;cases h
 refine⟨aJ6,R6,?_,?_,?_,?_,?_,?_,?_,hle⟩
 ·intro k x hk;rcases c9 k x hk with h1|⟨rfl,l,hl⟩
  ·obtain⟨l,e1,e2⟩:=h.born k x (hL k x h1);exact⟨l,(rL k x h1).trans e1,aJ5 k x l h1 e1 e2⟩
  ·exact⟨l,hl,trivial⟩
 ·intro k x b o cap hk hx hl;obtain⟨q1,q2,q3⟩:=src hk (nd hx);rw[q2]at hl;exact⟨cC (h.own k x b o cap q1 hx hl).1 yg,DX k x b o cap q3 hx hl⟩
 ·intro k j x y b o cap o' bj hk hx hj hy hl cZ;obtain⟨q1,q2,_⟩:=src hk (nd hx);obtain⟨p1,p2,_⟩:=src hj (nd hy);exact h.inj k j x y b o cap o' bj q1 hx p1 hy (q2▸hl) (p2▸cZ)
 ·intro k j x F b o cap v hk hx hl hj hv;obtain⟨q1,q2,_⟩:=src hk (nd hx);obtain⟨p1,p2,p3⟩:=src hj n_;intro hF;exact h.apart k j x F b o cap v q1 hx (q2▸hl) p1 (p2▸hv) (hff j F v b p3 (p2▸hv) hF)
 ·intro k x b o cap hk hx hl;obtain⟨q1,q2,_⟩:=src hk (nv hx);obtain⟨s1,s2⟩:=h.seen k x b o cap q1 hx (q2▸hl);refine⟨cC s1 yg,λj y o' bj hj hy hm=>?_⟩;obtain⟨p1,p2,_⟩:=src hj (nd hy);exact s2 j y o' bj p1 hy (p2▸hm)
 ·intro j F hj;exact TM j F (src hj n_).2.2
 ·intro j k F F' hj hk;exact h.one j k F F' (src hj n_).1 (src hk n_).1
def ft(l:Nat)(r:Loop):Fact where
 G _ W:=W.heap[l]?=some (.loop r)
 cM _ _ k:=k=l
 lt _ w k h hk:=by subst hk;exact(wG.1 h).1
 dep _ w w' h _ hk:=⟨(hk l rfl).trans h,λk h=>h⟩
 rc:=true
 soft h:=by cases h
def oH(W1:h_)(l:Nat)(S:Nat->Prop)(m:Map):ae where
 G W:=sS W1 W/\W.tape=W1.tape/\W.output=W1.output/\W1.heap.size<=W.heap.size/\∀ k,k<W1.heap.size->¬S k->k≠l->W.heap[k]?=W1.heap[k]?
 cM k:=k<W1.heap.size/\¬S k/\k≠l
 Fa F:=∃ r,F=ft l r
 mp:=m
 lt w k h hk:=cC hk.1 h.2.2.2.1
 dep w w' h h1 h2 h3 h4 h5:=⟨h1.trans h.1,h2.trans h.2.1,h3.trans h.2.2.1,dc h.2.2.2.1 h4,λk hk hS hl=>(h5 k ⟨hk,hS,hl⟩).trans (h.2.2.2.2 k hk hS hl)⟩
section
variable{W1 W:h_}{l g:Nat}{S:Nat->Prop}{m ι:Map}{c:g_}{r r':Loop}
theorem E2(h:aJ B ι c W)(hg:c g=some (.fact (ft l r))):W.heap[l]?=some (.loop r):=by obtain⟨lc,hl,v,_,hr⟩:=h.born g _ hg;exact hr
theorem aAD(h:aJ (oH W1 l S m) ι c W)(hg:c g=some (.fact (ft l r))):aJ (oH W1 l S m) ι (aV c g (.fact (ft l r'))) (W.putObj l (.loop r')):=by
 have hr:=E2 h hg;have ao:=(wG.1 hr).1;have r6:=TL hr;have ne:∀ b,b≠l->(W.putObj l (.loop r')).heap[b]?=W.heap[b]?:=λb hb=>TN hb;have cT:∀ j y,j≠g->aV c g (.fact (ft l r')) j=some y->c j=some y:=λj y hj e=>by unfold aV at e;rw[al hj]at e;exact e
 have new:∀ y,aV c g (.fact (ft l r')) g=some y->y=.fact (ft l r'):=λy e=>by unfold aV at e;rw[au rfl]at e;injection e with e;exact e.symm
 have nf:∀ j y,j≠g->c j=some y->∀ F,y=.fact F->F.rc=false:=λj y hj e F e2=>by
  subst e2;cases hr:F.rc with
  |false=>rfl
  |true=>exact absurd (h.one j g F _ e hg hr rfl) hj
 have og:∀ j y,aV c g (.fact (ft l r')) j=some y->y.owns=true\/y.jv=true->c j=some y:=λj y e hy=>by
  by_cases hj:j=g
  ·subst hj;rw[new y e]at hy;rcases hy with hy|hy<;>cases hy
  ·exact cT j y hj e
 refine⟨⟨h.base.1,h.base.2.1,h.base.2.2.1,by rw[qS];exact h.base.2.2.2.1,λk hk hS hl=>(ne k hl).trans (h.base.2.2.2.2 k hk hS hl)⟩,?_,?_,?_,?_,?_,?_,?_,?_,h.rC⟩
 ·intro j hj;unfold aV at hj;by_cases pV:j=g
  ·rw[au pV]at hj;cases hj
  ·rw[al pV]at hj;exact h.dw j hj
 ·intro j y hj;by_cases pV:j=g
  ·subst pV;rw[new y hj];obtain⟨lc,hl,v,e,_⟩:=h.born j _ hg;exact⟨lc,hl,v,e,World.putObj_heap_same ao⟩
  ·have hc:=cT j y pV hj;obtain⟨lc,hl,ho⟩:=h.born j y hc;exact⟨lc,hl,N4 r6 ho (nf j y pV hc) (by rw[qS];exact bh _) (λb o cap _ _=>(Nat.decEq b l).casesOn (λhb=>.inr (ne b hb)) λhb=>.inl hb) λF v b _ _ _=>(Nat.decEq b l).casesOn (λhb=>.inr (ne b hb)) λhb=>.inl hb⟩
 ·intro k x b o cap hk hx hl;rw[qS];exact h.own k x b o cap (og k x hk (.inl hx)) hx hl
 ·intro k j x y b o cap o' bj hk hx hj hy;exact h.inj k j x y b o cap o' bj (og k x hk (.inl hx)) hx (og j y hj (.inl hy)) hy
 ·intro k j x F b o cap v hk hx hl hj hv hF;have gU:=og k x hk (.inl hx);by_cases pV:j=g
  ·subst pV;have e:=new _ hj;injection e with e;subst e;exact h.apart k j x _ b o cap v gU hx hl hg hv hF
  ·have gJ:=cT j _ pV hj;obtain⟨lc,q1,v',q2,q3⟩:=h.born j _ gJ;rw[hv]at q1;injection q1 with q1;subst q1;injection q2 with q2;subst q2;refine h.apart k j x F b o cap v gU hx hl gJ hv ((F.soft (nf j _ pV gJ F rfl) v W _ q3 (by rw[qS];exact bh _) λk2 gi cs ty f hc=>?_).2 b hF);rw[ne k2 (λe=>by subst e;exact r6 _ _ _ hc)];exact hc
 ·intro k x b o cap hk hx hl;rw[qS];obtain⟨q1,q2⟩:=h.seen k x b o cap (og k x hk (.inr hx)) hx hl;exact⟨q1,λj y o' bj hj hy=>q2 j y o' bj (og j y hj (.inl hy)) hy⟩
 ·intro j F hj;by_cases pV:j=g
  ·subst pV;have e:=new _ hj;injection e with e;exact λ_=>⟨r',e⟩
  ·exact h.fa j F (cT j _ pV hj)
 ·intro j k F F' hj hk hr DY;by_cases pV:j=g
  ·by_cases CX:k=g
   ·rw[pV,CX]
   ·have:=nf k _ CX (cT k _ CX hk) F' rfl;rw[DY]at this;cases this
  ·have:=nf j _ pV (cT j _ pV hj) F rfl;rw[hr]at this;cases this
end
def xl(ι:Map)(next:Nat):Map:=λk=>if k<next then ι k else none
def qT(c:g_)(next:Nat)(L:aE):g_:=λk=>if k<next then(match ai L k with|some x=>some x|none=>(c k).map λ_=>.dead)else none
theorem Hv{next:Nat}(h:k<next):xl ι next k=ι k:=by unfold xl;rw[au h]
theorem A4{p:Nat×Obj->Bool}(h:L.all p=true){x:Obj}(hk:ai L k=some x):p (k,x)=true:=aY.1 h _ (iQ hk)
theorem N6:∀{L:aE} {k:Nat},ai L k=none↔k∉L.map (·.1)
 |[],k=>by simp[ai]
 |(j,x)::L,k=>by
  by_cases h:j=k
  ·subst h;simp[ai]
  ·have e:ai ((j,x)::L) k=ai L k:=by show(if Nat.beq j k then _ else _)=_;rw[om h];rfl
   rw[e,N6];simp[mB h]
theorem aAE{L':aE}(h:L'.map (·.1)=L.map (·.1))(k:Nat):ai L' k=none↔ai L k=none:=by rw[N6,N6,h]
def TO(L:aE)(k:Nat):Bool:=L.any λp=>Nat.beq p.1 k
theorem aAF(h:TO L k=true):ai L k≠none:=λe=>by obtain⟨p,hp,e2⟩:=rF.1 h;exact N6.1 e (de.2 ⟨p,hp,jY e2⟩)
def l4(next:Nat)(p:Nat×Obj):Bool:=p.2.cells.all (nk next)
theorem N7{next:Nat}{p:Nat×Obj}(h:l4 next p=true):fH next p.2:=λv hv=>aY.1 h v hv
theorem TP(jV:∀ k x,ai Vs k=some x->x.soft=true){x:Obj}(e:ai (Os++Vs) k=some x)(hx:x.owns=true):ai Os k=some x:=by
 rw[jz]at e;cases e1:ai Os k with
 |some y=>rw[e1]at e;exact e
 |none=>
  rw[e1]at e;exact(aJ2 (jV k x e) hx).elim
theorem N8(eC:∀ k x,ai Os k=some x->x.owns=true)(jV:∀ k x,ai Vs k=some x->x.soft=true)(e:ai (Os++Vs) k=some (.fact F)):F.rc=false:=by
 rw[jz]at e;cases e1:ai Os k with
 |some y=>rw[e1]at e;injection e with e;subst e;have:=eC k _ e1;cases this
 |none=>rw[e1]at e;exact aJ3 (jV k _ e)
theorem Hw(hL:cX c L)(h:c k=none):ai L k=none:=by
 cases e:ai L k with
 |none=>rfl
 |some x=>rw[hL _ _ e]at h;cases h
theorem aAG{B2:ae}{W:h_}{next:Nat}(h:aJ B ι c W)(hL:cX c L)(du:∀ k x,ai L k=some x->k<next/\fH next x)(hb:B2.G W)
  (DX:∀ k x b o cap,ai L k=some x->x.owns=true->ι k=some (.at b o cap)->¬B2.cM b) (TM:∀ k F,ai L k=some (.fact F)->F.rc=true->B2.Fa F) (hle:Map.le B2.mp (xl ι next)) :
  aJ B2 (xl ι next) (qT c next L) W/\cX (qT c next L) L/\eH (qT c next L) next:=by
 refine⟨N5 (L:=L) h hL (λk x e=>Hv (du k x e).1) (λk x lc e _ ho=>ho.below (λk hk l e=>by rw[Hv hk];exact e) (du k x e).2) hb DX (bh _) (λk e=>?_) (λk x e=>?_) TM (λ_ _ _ _ _ _ h=>h) hle,λk x e=>?_,λk hk=>by unfold qT;rw[al o_]⟩
 ·unfold qT at e;unfold xl;split at e
  ·rename_i hk;rw[au hk];split at e
   ·cases e
   ·cases hc:c k with
    |none=>exact h.dw k hc
    |some x=>rw[hc]at e;cases e
  ·rename_i hk;rw[al hk]
 ·unfold qT at e;split at e
  ·rename_i hk;split at e
   ·rename_i y hy;injection e with e;subst e;exact .inl hy
   ·cases hc:c k with
    |none=>rw[hc]at e;cases e
    |some y=>
     rw[hc]at e;injection e with e;obtain⟨lc,q,_⟩:=h.born k y hc;exact .inr ⟨e.symm,lc,by rw[Hv hk];exact q⟩
  ·cases e
 ·unfold qT;rw[au (du k x e).1,e]
def ae.N9(w0:h_)(S:Nat->Prop):ae where
 G w:=sS w0 w/\w.tape=w0.tape/\w.output=w0.output/\w0.heap.size<=w.heap.size/\∀ k,k<w0.heap.size->¬S k->w.heap[k]?=w0.heap[k]?
 cM k:=k<w0.heap.size/\¬S k
 lt w k h hk:=cC hk.1 h.2.2.2.1
 dep w w' h h1 h2 h3 h4 h5:=⟨h1.trans h.1,h2.trans h.2.1,h3.trans h.2.2.1,dc h.2.2.2.1 h4,λk hk hS=>(h5 k ⟨hk,hS⟩).trans (h.2.2.2.2 k hk hS)⟩
def jl(ι av:Map)(ns:l_):Map:=λk=>if ns.contains k then av k else ι k
def inN(ns:l_):Value->Bool
 |.slice (some ad) _ _=>mr ad&&ns.contains ad.block
 |.pointer (some ad)=>mr ad&&ns.contains ad.block
 |.func _ fi ca=>match fi.toList,ca.toList with|[],[.pointer (some ad)]=>mr ad&&ns.contains ad.block|_,_=>false
 |_=>false
def pW(K:Nat)(ns:l_)(v:i_):Bool:=nk K v||inN ns v
theorem aAH{K:Nat}(du:∀ k,k<K->∀ lc,av k=some lc->ι k=some lc){v:i_}(ax:pW K ns v=true)(h:aH av v v'):aH (jl ι av ns) v v':=by
 unfold pW at ax;rw[rH]at ax;rcases ax with ax|ax
 ·refine h.low (λk hk l e=>?_) ax;unfold jl;by_cases hc:ns.contains k=true
  ·rw[au hc];exact e
  ·rw[al hc];exact du k hk l e
 ·have key:∀{k:Nat} {l:pw},ns.contains k=true->av k=some l->jl ι av ns k=some l:=λhk e=>by unfold jl;rw[au hk];exact e
  unfold inN at ax;split at ax
  ·rename_i ad n c;rw[cY]at ax;obtain⟨bl,off,sp⟩:=ad;have ux:=Ga ax.1;have cx:=ax.2;dsimp only at ux cx;subst ux;rcases h.gR rfl with ⟨q1,q2,q3,q4,q5⟩|⟨b,oo,cap,c',q1,q2,q3,q5⟩
   ·dsimp only at q1 q4;rw[q5,q2,q3,q4];exact .slcN (key cx q1)
   ·dsimp only at q1 q5;rw[q5];exact .slc (key cx q1) q2 q3
  ·rename_i ad;rw[cY]at ax;obtain⟨bl,off,sp⟩:=ad;have ux:=Ga ax.1;have cx:=ax.2;dsimp only at ux cx;subst ux;obtain⟨b,o,cap,q1,q2⟩:=h.uX rfl;dsimp only at q1 q2;rw[q2];exact .ptr (key cx q1)
  ·obtain⟨jK,gC,rfl,h1,h2⟩:=h.z7;split at ax
   ·rename_i ad e1 e2;rw[cY]at ax;obtain⟨bl,off,sp⟩:=ad;have ux:=Ga ax.1;have cx:=ax.2;dsimp only at ux cx;subst ux;rw[e2]at h2;obtain⟨u,e3,h3⟩:=mz h2;obtain⟨b,o,cap,q1,q2⟩:=h3.uX rfl;dsimp only at q1 q2;refine .fn ?_ ?_
    ·rw[e1]at h1 ⊢;cases oh:jK.toList with
     |nil=>exact .nil
     |cons _ _=>rw[oh]at h1;cases h1
    ·rw[e2,e3,q2];exact .cons (.ptr (key cx q1)) .nil
   ·cases ax
  ·cases ax
theorem Oa{K:Nat}{ns:l_}{ι av:Map}(du:∀ k,k<K->∀ lc,av k=some lc->ι k=some lc):∀{l l':ah},(∀ v∈l,pW K ns v=true)->bL (aH av) l l'->bL (aH (jl ι av ns)) l l'
 |_,_,_,.nil=>.nil
 |_,_,ax,.cons h1 h2=>.cons (aAH du (ax _ (aL ..)) h1) (Oa du (λv hv=>ax v (bw _ hv)) h2)
theorem aAI{K:Nat}(du:∀ k,k<K->∀ lc,av k=some lc->ι k=some lc){x:Obj}(ax:∀ v∈x.cells,pW K ns v=true){l:pw}(h:iC av w l x):iC (jl ι av ns) w l x:=by
 cases x with
 |aI cells ty=>obtain⟨b,bY,e1,e2,e3⟩:=h;exact⟨b,bY,e1,Oa du ax e2,e3⟩
 |row cells ty size=>
  rcases h with h|⟨b,cap,cur,e1,e2,e3,e4,e5⟩
  ·exact .inl h
  ·exact .inr ⟨b,cap,cur,e1,e2,e3,e4,Oa du ax e5⟩
 |view cells=>
  rcases h with h|⟨b,o,cap,cs,e1,e2,e3⟩
  ·exact .inl h
  ·exact .inr ⟨b,o,cap,cs,e1,Oa du ax e2,e3⟩
 |fact F=>exact h
 |dead=>trivial
theorem TQ:∀{Os cy:aE},cy.map (·.1)=Os.map (·.1)++ns->∀ k,ai cy k=none↔(ai Os k=none/\ns.contains k=false):=by
 have look:∀(l:aE) (k:Nat),ai l k=none↔(l.map (·.1)).contains k=false:=by
  intro l k;induction l with
  |nil=>exact⟨λ_=>rfl,λ_=>rfl⟩
  |cons p l ih=>
   obtain⟨a,x⟩:=p;rw[show ai ((a,x)::l) k=if Nat.beq a k=true then some x else ai l k from rfl,qE,List.contains_cons];by_cases h:Nat.beq a k=true
   ·rw[au h];have:=jY h;subst this;simp
   ·rw[al h,ih];have:(k==a)=false:=by
     cases e:k==a with
     |false=>rfl
     |true=>have:=eq_of_beq e;subst this;exact absurd (Eh k) h
    rw[this,wQ]
 intro Os cy h k;rw[look,look,h,List.contains_append,Mf]
section
variable{P:j_}{B:ae}{w w4:h_}{K:Nat}{S:Nat->Prop}{ι:Map}{c:g_}{ns:l_}
theorem aAJ(h:aJ B ι c w)(hO:cX c Os)(eC:∀ k x,ai Os k=some x->x.owns=true)(uy:∀ k x,ai cy k=some x->x.owns=true\/x=.dead)
  (kV:∀ k,ai cy k=none↔(ai Os k=none/\ns.contains k=false)) (Af:∀ k,ns.contains k=true->c k=none) (hS:∀ b,S b->∃ k x o cap,ai Os k=some x/\ι k=some (.at b o cap))
  {av:Map} {c':g_} (hm:aJ (ae.N9 w S) av c' w4) (A5:cX c' cy) (du:∀ k,k<K->∀ lc,av k=some lc->ι k=some lc) (ax:∀ k x,ai cy k=some x->∀ v∈x.cells,pW K ns v=true)
  (qD:∀ k x,ai Os k=some x->k<K):Map.le ι (jl ι av ns)/\aJ B (jl ι av ns) (lp c cy) w4:=by
 have hle:Map.le ι (jl ι av ns):=λk l e=>by
  unfold jl;by_cases hc:ns.contains k=true
  ·rw[h.dw k (Af k hc)]at e;cases e
  ·rw[al hc];exact e
 have bE:w.heap.size<=w4.heap.size:=hm.base.2.2.2.1;have aI:∀ b,b<w.heap.size->¬S b->w4.heap[b]?=w.heap[b]?:=hm.base.2.2.2.2;have hSF:∀ b,S b->¬B.cM b:=λb hb=>by obtain⟨k,x,o,cap,e1,e2⟩:=hS b hb;exact(h.own k x b o cap (hO k x e1) (eC k x e1) e2).2
 have cT:∀ k,ns.contains k=false->jl ι av ns k=ι k:=λk e=>by unfold jl;rw[e];rfl
 have kinds:∀ k x,lp c cy k=some x->(ai cy k=some x/\c' k=some x/\(x.owns=true\/x=.dead))\/(ai Os k=none/\ns.contains k=false/\c k=some x):=λk x e=>by
  rw[wo]at e;cases ho:ai cy k with
  |some y=>rw[ho]at e;injection e with e;subst e;exact .inl ⟨rfl,A5 k y ho,uy k y ho⟩
  |none=>rw[ho]at e;exact .inr ⟨((kV k).1 ho).1,((kV k).1 ho).2,e⟩
 have same:∀ k x,ai cy k=some x->jl ι av ns k=av k:=λk x e=>by
  unfold jl;by_cases hc:ns.contains k=true
  ·rw[au hc]
  ·rw[al hc];obtain⟨lc,q,_⟩:=hm.born k x (A5 k x e);have:ai Os k≠none:=λhn=>by have:=(kV k).2 ⟨hn,by simpa using hc⟩;rw[e]at this;cases this
   cases hk:ai Os k with
   |none=>exact absurd hk this
   |some y=>rw[q,du k (qD k y hk) lc q]
 have aAK:∀ k x b o cap,ai Os k=none->c k=some x->x.owns=true->ι k=some (.at b o cap)->¬S b:=λk x b o cap hn hc hx hl hs=>by obtain⟨k',x',o',bj,e1,e2⟩:=hS b hs;have:=h.inj k k' x x' b o cap o' bj hc hx (hO k' x' e1) (eC k' x' e1) hl e2;subst this;rw[hn]at e1;cases e1
 have aAL:∀ k x b o cap,c k=some x->x.jv=true->ι k=some (.at b o cap)->¬S b:=λk x b o cap hc hx hl hs=>by obtain⟨k',x',o',bj,e1,e2⟩:=hS b hs;exact(h.seen k x b o cap hc hx hl).2 k' x' o' bj (hO k' x' e1) (eC k' x' e1) e2
 have TR:∀ k F v b,c k=some (.fact F)->ι k=some (.val v)->F.cM v w b->¬S b:=λk F v b hc hl hF hs=>by obtain⟨k',x',o',bj,e1,e2⟩:=hS b hs;exact h.apart k' k x' F b o' bj v (hO k' x' e1) (eC k' x' e1) e2 hc hl hF
 have part:∀ k x b o cap j y o' bj,ai cy k=some x->x.owns=true->jl ι av ns k=some (.at b o cap)->ai Os j=none->c j=some y->y.owns=true->ι j=some (.at b o' bj)->False:=λk x b o cap j y o' bj hk hx hl hj hc hy cZ=>by
  rcases eU b w.heap.size with ao|fG
  ·have q:=(hm.own k x b o cap (A5 k x hk) hx (by rw[<-same k x hk];exact hl)).2;exact q ⟨ao,aAK j y b o' bj hj hc hy cZ⟩
  ·have:=(h.own j y b o' bj hc hy cZ).1;omega
 refine⟨hle,B.dep w w4 h.base hm.base.1 hm.base.2.1 hm.base.2.2.1 bE λk hk=>aI k (B.lt w k h.base hk) λhs=>hSF k hs hk,?_,?_,?_,?_,?_,?_,?_,?_,h.rC.trans hle⟩
 ·intro k hk;rw[wo]at hk;cases ho:ai cy k with
  |some y=>rw[ho]at hk;cases hk
  |none=>
   rw[ho]at hk;rw[cT k ((kV k).1 ho).2];exact h.dw k hk
 ·intro k x hk;rcases kinds k x hk with ⟨h1,h2,h3⟩|⟨h1,hc,h2⟩
  ·obtain⟨lc,q1,q2⟩:=hm.born k x h2;exact⟨lc,by rw[same k x h1];exact q1,aAI du (ax k x h1) q2⟩
  ·obtain⟨lc,q1,q2⟩:=h.born k x h2;refine⟨lc,by rw[cT k hc];exact q1,(q2.mono hle).jw bE (λb o cap hx e=>?_) λF v b e1 e2 hF=>?_⟩
   ·subst e;rcases hx with hx|hx
    ·exact aI b (h.own k x b o cap h2 hx q1).1 (aAK k x b o cap h1 h2 hx q1)
    ·exact aI b (h.seen k x b o cap h2 hx q1).1 (aAL k x b o cap h2 hx q1)
   ·subst e1;subst e2;exact aI b (q2.DU rfl hF) (TR k F v b h2 q1 hF)
 ·intro k x b o cap hk hx hl;rcases kinds k x hk with ⟨h1,h2,h3⟩|⟨h1,hc,h2⟩
  ·have cZ:av k=some (.at b o cap):=by rw[<-same k x h1];exact hl
   obtain⟨q1,q2⟩:=hm.own k x b o cap h2 hx cZ;refine⟨q1,λhF=>?_⟩;have gH:=B.lt w b h.base hF;exact q2 ⟨gH,λhs=>hSF b hs hF⟩
  ·rw[cT k hc]at hl;obtain⟨q1,q2⟩:=h.own k x b o cap h2 hx hl;exact⟨cC q1 bE,q2⟩
 ·intro k j x y b o cap o' bj hk hx hj hy hl cZ;rcases kinds k x hk with ⟨h1,h2,h3⟩|⟨h1,hc,h2⟩
  ·rcases kinds j y hj with ⟨p1,p2,p3⟩|⟨p1,kj,p2⟩
   ·exact hm.inj k j x y b o cap o' bj h2 hx p2 hy (by rw[<-same k x h1];exact hl) (by rw[<-same j y p1];exact cZ)
   ·rw[cT j kj]at cZ;exact(part k x b o cap j y o' bj h1 hx hl p1 p2 hy cZ).elim
  ·rw[cT k hc]at hl;rcases kinds j y hj with ⟨p1,p2,p3⟩|⟨p1,kj,p2⟩
   ·exact(part j y b o' bj k x o cap p1 hy cZ h1 h2 hx hl).elim
   ·rw[cT j kj]at cZ;exact h.inj k j x y b o cap o' bj h2 hx p2 hy hl cZ
 ·intro k j x F b o cap v hk hx hl hj hv hF;rcases kinds j _ hj with ⟨_,_,p3⟩|⟨p1,pd,p2⟩
  ·rcases p3 with p3|p3<;>cases p3
  rw[cT j pd]at hv;have hF:=h.DW p2 hv bE (λk2 gi jm=>aI k2 gi (TR j F v k2 p2 hv jm)) hF;rcases kinds k x hk with ⟨h1,h2,h3⟩|⟨h1,hc,h2⟩
  ·have cZ:av k=some (.at b o cap):=by rw[<-same k x h1];exact hl
   have hb:b<w.heap.size:=by obtain⟨lc,q1,q2⟩:=h.born j _ p2;rw[hv]at q1;injection q1 with q1;subst q1;exact q2.DU rfl hF
   exact(hm.own k x b o cap h2 hx cZ).2 ⟨hb,TR j F v b p2 hv hF⟩
  ·rw[cT k hc]at hl;exact h.apart k j x F b o cap v h2 hx hl p2 hv hF
 ·intro k x b o cap hk hx hl;rcases kinds k x hk with ⟨h1,h2,h3⟩|⟨h1,hc,h2⟩
  ·rcases h3 with h3|h3
   ·cases x<;>simp[Obj.owns,Obj.jv]at h3 hx
   ·subst h3;cases hx
  ·rw[cT k hc]at hl;obtain⟨q1,q2⟩:=h.seen k x b o cap h2 hx hl;refine⟨cC q1 bE,λj y o' bj hj hy cZ=>?_⟩;rcases kinds j y hj with ⟨p1,p2,p3⟩|⟨p1,kj,p2⟩
   ·have ll:av j=some (.at b o' bj):=by rw[<-same j y p1];exact cZ
    exact(hm.own j y b o' bj p2 hy ll).2 ⟨q1,aAL k x b o cap h2 hx hl⟩
   ·rw[cT j kj]at cZ;exact q2 j y o' bj p2 hy cZ
 ·intro j F hj;rcases kinds j _ hj with ⟨_,_,h3⟩|⟨h1,_,h2⟩
  ·rcases h3 with h3|h3<;>cases h3
  ·exact h.fa j F h2
 ·intro j k F F' hj hk;rcases kinds j _ hj with ⟨_,_,h3⟩|⟨_,_,h2⟩
  ·rcases h3 with h3|h3<;>cases h3
  rcases kinds k _ hk with ⟨_,_,h3⟩|⟨_,_,yS⟩
  ·rcases h3 with h3|h3<;>cases h3
  exact h.one j k F F' h2 yS
theorem aJ7(hm:aJ B ι c w)(hL:cX c (Os++Vs))(du:∀ k x,ai (Os++Vs) k=some x->k<K/\fH K x)(eC:∀ k x,ai Os k=some x->x.owns=true)(jV:∀ k x,ai Vs k=some x->x.soft=true):
  ∃ S:Nat->Prop,(∀ b,S b->∃ k x o cap,ai Os k=some x/\ι k=some (.at b o cap))/\aJ (ae.N9 w S) (xl ι K) (qT c K (Os++Vs)) w/\cX (qT c K (Os++Vs)) (Os++Vs)/\eH (qT c K (Os++Vs)) K:=by
 refine⟨λb=>∃ k x o cap,ai Os k=some x/\ι k=some (.at b o cap),λb h=>h,aAG hm hL du ⟨.refl _,rfl,rfl,bh _,λ_ _ _=>rfl⟩ (λk x b o cap e hx hl hF=>hF.2 ⟨k,x,o,cap,TP jV e hx,hl⟩) (λk F e hr=>?_) n_⟩;rw[N8 eC jV e]at hr;cases hr
theorem aAM(hm:aJ B ι c w){B':ae}{c':g_}(bo:aJ B' av c' w4)(hle:Map.le (xl ι K) av)(gU:∀ k,k<K->qT c K L k=none->c' k=none)(hL:cX c L):
  ∀ k,k<K->∀ lc,av k=some lc->ι k=some lc:=λk hk lc e=>by
 cases tT:ι k with
 |some Hx=>
  have:=hle k Hx (by rw[Hv hk];exact tT);rw[e]at this;exact this.symm
 |none=>
  exfalso;have hc:c k=none:=by
   cases hc:c k with
   |none=>rfl
   |some y=>obtain⟨Hx,q,_⟩:=hm.born k y hc;rw[tT]at q;cases q
  have B7:ai L k=none:=by
   cases e1:ai L k with
   |none=>rfl
   |some y=>rw[hL k y e1]at hc;cases hc
  rw[bo.dw k (gU k hk (by unfold qT;rw[au hk,B7,hc];rfl))]at e;cases e
end
def J4:aM->aM->aM
 |[],fr=>fr
 |p::l,fr=>J4 l (p::fr)
theorem aAN{m:Map}{N:Nat}:∀(l:aM) {fr:aM} {T:p_},T.size=N->(∀ t,nJ m (bC fr t) (T.getD t undef))->(∀ p∈l,p.1<N/\flat p.2=true)->
  (l.foldl (λt p=>t.setIfInBounds p.1 p.2) T).size=N/\∀ t,nJ m (bC (J4 l fr) t) ((l.foldl (λt p=>t.setIfInBounds p.1 p.2) T).getD t undef)
 |[],fr,T,hT,h,_=>⟨hT,h⟩
 |(p,v)::l,fr,T,hT,h,hl=>by
  obtain⟨h1,h2⟩:=hl (p,v) (aL ..);dsimp only at h1 h2;refine aAN l (fr:=(p,v)::fr) (T:=T.setIfInBounds p v) (by simpa using hT) (λt=>?_) λq hq=>hl q (bw _ hq);by_cases e:p=t
  ·subst e;have e1:bC ((p,v)::fr) p=v:=by simp[bC]
   have e2:(T.setIfInBounds p v).getD p undef=v:=by rw[pF,Array.getElem?_setIfInBounds_self_of_lt o_];rfl
   rw[e1,e2];exact .inr (.same h2)
  ·have e1:bC ((p,v)::fr) t=bC fr t:=by show(if Nat.beq p t then _ else _)=_;rw[om e];rfl
   have e2:(T.setIfInBounds p v).getD t undef=T.getD t undef:=by rw[pF,pF,Q3 e]
   rw[e1,e2];exact h t
def TS:Ex->Option Code
 |.normal=>none
 |.ret=>some .ret
 |.exit id=>some (.exit id)
def gy(cB:FuncId)(T:p_)(ps:Array Tmp)(ep dB:Code)(D:Nat):Loop:={ state:=.ready,pending:=none,fn:=cB,tmps:=T,params:=ps,assign:=ep,body:=dB,defers:=D }
def uz(r:Loop)(j:Option Code):Loop:={ r with state:=if j.isNone then .ready else .done,pending:=j }
theorem TT(h:∀ p∈L.map (λp=>(p.1,some p.2)),c p.1=p.2):cX c L:=λk x e=>h (k,some x) (de.2 ⟨(k,x),iQ e,rfl⟩)
structure A6(g N:Nat)(fr:aM)(m:Map)(T:p_):Prop where
 size:T.size=N
 jZ:∀ t,nJ m (bC fr t) (T.getD t undef)
 low:∀ k lc,m k=some lc->k<g
section
variable{W1 W W3:h_}{l g next:Nat}{S S':Nat->Prop}{m ι:Map}{c:g_}{r r2:Loop}
theorem aJ8(h:aJ (oH W1 l S m) ι c W)(hg:c g=some (.fact (ft l r)))(hgn:g<next)(hL:cX c L)(E3:ai L g=none)(du:∀ k x,ai L k=some x->k<next/\fH next x)
  (pz:∀ k F,ai L k=some (.fact F)->F.rc=false) (hS:∀ k x b o cap,ai L k=some x->x.owns=true->ι k=some (.at b o cap)->S' b) :
  aJ (oH W l S' (xl ι next)) (xl ι next) (qT c next ((g,.fact (ft l r))::L)) W/\cX (qT c next ((g,.fact (ft l r))::L)) ((g,.fact (ft l r))::L)/\eH (qT c next ((g,.fact (ft l r))::L)) next:=by
 have ll:∀ k x,ai ((g,.fact (ft l r))::L) k=some x->(k=g/\x=.fact (ft l r))\/ai L k=some x:=λk x e=>by
  rw[show ai ((g,Obj.fact (ft l r))::L) k=if Nat.beq g k=true then some (.fact (ft l r))else ai L k from rfl]at e;split at e
  ·rename_i hb;injection e with e;exact .inl ⟨(jY hb).symm,e.symm⟩
  ·exact .inr e
 refine aAG h (λk x e=>?_) (λk x e=>?_) ⟨.refl _,rfl,rfl,bh _,λ_ _ _ _=>rfl⟩ (λk x b o cap e hx hb hF=>?_) (λk F e=>?_) (Map.le.refl _)
 ·rcases ll k x e with ⟨rfl,rfl⟩|e
  ·exact hg
  ·exact hL k x e
 ·rcases ll k x e with ⟨rfl,rfl⟩|e
  ·exact⟨hgn,λv hv=>by cases hv⟩
  ·exact du k x e
 ·rcases ll k x e with ⟨rfl,rfl⟩|e
  ·cases hx
  ·exact hF.2.1 (hS k x b o cap e hx hb)
 ·rcases ll k _ e with ⟨_,e2⟩|e2
  ·injection e2 with e2;exact λ_=>⟨r,e2⟩
  ·exact λhr=>by rw[pz k F e2]at hr;cases hr
theorem aJ9{c':g_}(hm:aJ (oH W l S' κ) av c' W3)(hg:c' g=some (.fact (ft l r2)))(hr:W.heap[l]?=some (.loop r))(A5:cX c' cy)(uy:∀ k x,ai cy k=some x->x.owns=true\/x=.dead):
  ∃ c2,aJ (ae.N9 W S') av c2 (W3.putObj l (.loop r))/\cX c2 cy:=by
 have Ob:=E2 hm hg;have r6:=TL Ob;have ao:=(wG.1 Ob).1;have ne:∀ b,b≠l->(W3.putObj l (.loop r)).heap[b]?=W3.heap[b]?:=λb hb=>TN hb;have Oc:∀ k x F,ai cy k=some x->x≠.fact F:=λk x F e h=>by subst h;rcases uy k _ e with h|h<;>cases h
 refine⟨λk=>match ai cy k with|some x=>some x|none=>(c' k).map λ_=>.dead,?_,λk x e=>by simp only[e]⟩;refine N5 (L:=cy) hm A5 (λ_ _ _=>rfl) (λk x lc e _ ho=>?_) ⟨hm.base.1,hm.base.2.1,hm.base.2.2.1,by rw[qS];exact hm.base.2.2.2.1,λk hk hS=>?_⟩ (λk x b o cap e hx hl hF=>?_) (by rw[qS];exact bh _) (λk e=>?_) (λk x e=>?_) (λk F e=>absurd rfl (Oc k _ F e)) (λk F v b e=>absurd rfl (Oc k _ F e)) n_
 ·exact N4 r6 ho (λF ef=>absurd ef (Oc k x F e)) (by rw[qS];exact bh _) (λb _ _ _ _=>(Nat.decEq b l).casesOn (λhb=>.inr (ne b hb)) λhb=>.inl hb) λF v b ef=>absurd ef (Oc k x F e)
 ·by_cases J5:k=l
  ·subst J5;rw[World.putObj_heap_same ao,hr]
  ·rw[ne k J5];exact hm.base.2.2.2.2 k hk hS J5
 ·have q:=(hm.own k x b o cap (A5 k x e) hx hl).2;refine q ⟨hF.1,hF.2,λhb=>?_⟩;obtain⟨lc,q1,q2⟩:=hm.born k x (A5 k x e);rw[hl]at q1;injection q1 with q1;subst q1;obtain⟨cs,ty,q3⟩:=aAC q2 hx;subst hb;exact r6 _ _ _ q3
 ·split at e
  ·cases e
  ·cases hc:c' k with
   |none=>exact hm.dw k hc
   |some y=>rw[hc]at e;cases e
 ·split at e
  ·rename_i y hy;injection e with e;subst e;exact .inl hy
  ·cases hc:c' k with
   |none=>rw[hc]at e;cases e
   |some y=>
    rw[hc]at e;injection e with e;obtain⟨lc,q,_⟩:=hm.born k y hc;exact .inr ⟨e.symm,lc,q⟩
theorem aKa(w:h_)(l:Nat)(a b:Go.Obj):(w.putObj l a).putObj l b=w.putObj l b:=by simp[World.putObj]
end
section
variable{P:j_}{W1:h_}{l g nb N D:Nat}{S:Nat->Prop}{m:Map}
structure Hy(P:j_)(g nb N:Nat)(ps:Array Tmp)(ep dB:Code)(fr:aM)(Os Vs cy:aE)(ns:l_)(ew:ah)(j:Option Code):Prop where
 flat:∀ v∈ew,flat v=true
 len:ew.length=ps.size
 jZ:∀ p∈ps,p<N
 E4:g<nb
 low:∀ k x,ai (Os++Vs) k=some x->k<nb/\k≠g/\fH nb x
 ok':∀ k x,ai cy k=some x->∀ v∈x.cells,pW nb ns v=true
 own:∀ k x,ai Os k=some x->x.owns=true
 TU:∀ k x,ai cy k=some x->x.owns=true\/x=.dead
 view:∀ k x,ai Vs k=some x->x.soft=true
 keys:∀ k,ai cy k=none↔(ai Os k=none/\ns.contains k=false)
 new:∀ k,ns.contains k=true->nb<=k
 run:∃ rA rB:lv,(∀ B,af P B N ep (J4 (ps.toList.zip ew) fr) (Os++Vs) nb rA)/\rA.ex=.normal/\nb<=rA.next/\ai rA.M g=none/\
  (∀ B,af P B N dB rA.fr rA.M rA.next rB)/\(∀ k x,ai cy k=some x->ai rB.M k=some x)/\TS rB.ex=j
theorem TV{ps:Array Tmp}{dB:Code}{j:Option Code}(ax:Hy P g nb N ps ep dB fr Os Vs cy ns ew j)
  {o:Oper} {x:m_} (ho:di o.op=some x) {T:p_} {cB:FuncId} (oI:A6 g N fr m T) :
  cz P (oH W1 l S m) o (.func (.yield l) #[] #[]::ew) ((g,some (.fact (ft l (gy cB T ps ep dB D))))::(ns.map (λk=>(k,none))++(Os++Vs).map (λp=>(p.1,some p.2)))) (.bool j.isNone)
   ((g,.fact (ft l (uz (gy cB T ps ep dB D) j)))::cy):=by
 intro R ι c a w hv hm hn K Q hK;obtain⟨rA,rB,hA,TW,TX,Od,hB,TY,TZ⟩:=ax.run;have hg:c g=some (.fact (ft l (gy cB T ps ep dB D))):=hn (g,_) (aL ..);have Af:∀ k,ns.contains k=true->c k=none:=λk hk=>hn (k,none) (bw _ (uA _ (de.2 ⟨k,by simpa using hk,rfl⟩)));have hL:cX c (Os++Vs):=TT λp hp=>hn p (bw _ (vA _ hp));have hO:cX c Os:=λk x e=>hL k x (by rw[jz,e]);have E3:ai (Os++Vs) g=none:=by
  cases e:ai (Os++Vs) g with
  |none=>rfl
  |some x=>exact absurd rfl (ax.low _ _ e).2.1
 have hOg:ai Os g=none:=by
  rw[jz]at E3;cases e:ai Os g with
  |none=>rfl
  |some x=>rw[e]at E3;cases E3
 have hng:ns.contains g=false:=by
  cases e:ns.contains g with
  |false=>rfl
  |true=>have:=ax.new g e;have:=ax.E4;omega
 have aKb:ai cy g=none:=(ax.keys g).2 ⟨hOg,hng⟩;have hr:=E2 hm hg;obtain⟨S',hS'⟩:∃ S':Nat->Prop,∀ b,S' b↔∃ k x o cap,ai Os k=some x/\ι k=some (.at b o cap):=⟨_,λb=>Iff.rfl⟩;obtain⟨dst,op,ty,pos,after,guard⟩:=o;dsimp only at ho hv;unfold di at ho;split at ho
 ·rename_i x' kT wy;injection ho with ho;subst ho;have yk:(Op.operands (.call ⟨.value x',kT,wy⟩)).toList=x'::kT.toList:=by simp[Op.operands,Call.operands]
  rw[yk]at hv;cases hv with
  |cons hx rD=>
  obtain⟨jK,gC,he,h1,h2⟩:=hx.z7;have ef:jK=#[]:=by
   cases j5:jK.toList with
   |nil=>exact Hz.1 j5
   |cons _ _=>rw[j5]at h1;cases h1
  have ec:gC=#[]:=by
   cases j5:gC.toList with
   |nil=>exact Hz.1 j5
   |cons _ _=>rw[j5]at h2;cases h2
  subst ef;subst ec;have aN:kT.toList.map a.eval=ew:=mZ rD ax.flat;have e3:execOp a.eval ⟨dst,.call ⟨.value x',kT,wy⟩,ty,pos,after,guard⟩=Instr.yield l ew.toArray:=by
   have:execOp a.eval ⟨dst,.call ⟨.value x',kT,wy⟩,ty,pos,after,guard⟩=(do let d <-Deferred.ofValue (a.eval x') (kT.map a.eval);invoke d.target d.args):=rfl;rw[this,he,<-aN];have:kT.map a.eval=(kT.toList.map a.eval).toArray:=by apply D2;simp
   rw[this];simp[Deferred.ofValue,invoke,go_sem]
  have hy:=run_yield (P:=P) (args:=ew.toArray) hr (by simpa[gy]using ax.len);have aKc:((gy cB T ps ep dB D).params.zip ew.toArray).foldl (λtmps (t,a)=>tmps.setIfInBounds t a) (gy cB T ps ep dB D).tmps=(ps.toList.zip ew).foldl (λt p=>t.setIfInBounds p.1 p.2) T:=by rw[<-aAO];simp[gy]
  rw[aKc]at hy;obtain⟨f1,f2⟩:=aAN (ps.toList.zip ew) oI.size oI.jZ λp hp=>by have:=List.of_mem_zip hp;exact⟨ax.jZ _ (by simpa using this.1),ax.flat _ this.2⟩
  refine⟨λ_ _=>trivial,?_⟩;rw[LX _ _ _ n_,e3,hy,Oper.uponIn_round];refine⟨λe=>(by cases e),roundIn_of_wpIn trivial ?_⟩
  -- the aUf own memory
  obtain⟨T0,J6,xg⟩:=aJ8 (S':=S') (next:=nb) hm hg ax.E4 hL E3 (λk x e=>⟨(ax.low k x e).1,(ax.low k x e).2.2⟩) (λk F e=>N8 ax.own ax.view e) (λk x b o cap e hx hb=>(hS' b).2 ⟨k,x,o,cap,TP ax.view e hx,hb⟩);have J7:=J6 g (.fact (ft l (gy cB T ps ep dB D))) (by show(if Nat.beq g g then _ else _)=_;rw[au (Eh g)]);have aAP:∀ k,k≠g->ai ((g,Obj.fact (ft l (gy cB T ps ep dB D)))::(Os++Vs)) k=ai (Os++Vs) k:=λk hk=>by show(if Nat.beq g k then _ else _)=_;rw[om (mB hk)];rfl
  have aAQ:cX (qT c nb ((g,.fact (ft l (gy cB T ps ep dB D)))::(Os++Vs))) (Os++Vs):=λk x e=>J6 k x (by rw[aAP k λh=>by subst h;rw[E3]at e;cases e];exact e);refine hA _ (some l) _ _ _ _ _ ⟨rfl,f1,λt=>(f2 t).mono λk lc e=>by rw[Hv (lD (oI.low k lc e) ax.E4)];exact hm.rC k lc e⟩ T0 aAQ xg λbJ gk a1 w1 jc gW cS dY dy gN _=>?_;rw[TW];have tv:gk g=some (.fact (ft l (gy cB T ps ep dB D))):=(gN g ax.E4 E3).trans J7;refine⟨_,run_beginRound (E2 cS tv) rfl,?_⟩;have dx:=aAD (r':={ gy cB T ps ep dB D with state:=.busy }) cS tv;refine hB _ (some l) _ _ _ _ _ gW dx (λk x e=>?_) (λk hk=>?_) λdq qC a2 w2 kC _ uY A7 T1 hk3 _=>?_
  ·unfold aV;by_cases CX:k=g
   ·subst CX;rw[Od]at e;cases e
   ·rw[al CX];exact dY k x e
  ·unfold aV;rw[al (by have:=ax.E4;omega)];exact dy k hk
  ·have hg3:qC g=some (.fact (ft l { gy cB T ps ep dB D with state:=.busy })):=(hk3 g (by have:=ax.E4;omega) Od).trans (by unfold aV;rw[au rfl]);have uB:=run_endRound (P:=P) j (E2 uY hg3);have Oe:∀ k,k<nb->∀ lc,dq k=some lc->ι k=some lc:=aAM hm (L:=(g,.fact (ft l (gy cB T ps ep dB D)))::(Os++Vs)) uY (jc.trans kC) (λk hk e=>by
    have CX:k≠g:=λh=>by subst h;rw[J7]at e;cases e
    have q1:=(gN k hk (Hw aAQ e)).trans e;rw[hk3 k (cC hk TX) (Hw dY q1)];unfold aV;rw[al CX];exact q1) (λk x e=>by
    by_cases hk:k=g
    ·subst hk;simp[ai]at e;subst e;exact hg
    ·exact hL k x (by rw[<-aAP k hk];exact e))
   obtain⟨c5,T2,hO5⟩:=aJ9 (g:=g) (cy:=cy) uY hg3 hr (λk x e=>A7 k x (TY k x e)) ax.TU;obtain⟨hle,hm6⟩:=aAJ (K:=nb) (ns:=ns) hm hO ax.own ax.TU ax.keys Af (λb hb=>(hS' b).1 hb) T2 hO5 Oe ax.ok' (λk x e=>(ax.low k x (by rw[jz,e])).1);have hg6:lp c cy g=some (.fact (ft l (gy cB T ps ep dB D))):=by rw[wo,aKb];exact hg
   have hm7:=aAD (r':=uz (gy cB T ps ep dB D) j) hm6 hg6;rw[aKa]at hm7;have hm8:aJ (oH W1 l S m) (jl ι dq ns) (lp c ((g,.fact (ft l (uz (gy cB T ps ep dB D) j)))::cy)) (w2.putObj l (.loop (uz (gy cB T ps ep dB D) j))):=by
    have e:lp c ((g,Obj.fact (ft l (uz (gy cB T ps ep dB D) j)))::cy)=aV (lp c cy) g (.fact (ft l (uz (gy cB T ps ep dB D) j))):=by
     funext k
     rw[wo];unfold aV;by_cases hk:k=g
     ·subst hk;rw[au rfl];simp[ai]
     ·rw[al hk,wo];have:ai ((g,Obj.fact (ft l (uz (gy cB T ps ep dB D) j)))::cy) k=ai cy k:=by show(if Nat.beq g k then _ else _)=_;rw[om (mB hk)];rfl
      rw[this]
    rw[e];exact hm7
   have fin:=hK (jl ι dq ns) (.bool j.isNone) _ hle (.same rfl) hm8;subst TZ;cases hx:rB.ex with
   |normal=>rw[hx]at uB fin;exact⟨_,_,uB,fin⟩
   |ret=>rw[hx]at uB fin;exact⟨_,_,uB,fin⟩
   |exit id=>rw[hx]at uB fin;exact⟨_,_,uB,fin⟩
 ·cases ho
end
end Go.Proofs.YthccllenbnhogaaGreatDoor
