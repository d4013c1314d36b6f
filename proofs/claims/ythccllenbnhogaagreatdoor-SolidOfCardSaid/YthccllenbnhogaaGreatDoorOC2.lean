/- Solids of lists of planes: the proof of SolidOfCardSaid (the law's function answers true at every list of planes; theorem solidOf_card, last part), part 2 of 6; no condition. -/
import Derived.Test.YthccllenbnhogaaGreatDoorOC1
namespace Go.Proofs.YthccllenbnhogaaGreatDoor
open Go Go.RowKit Tryz
abbrev q_:=List (Nat×Option Obj)
abbrev g_:=Nat->Option Obj
variable{i m k a q b j size e d off cc r cap k1 k2 D n2 A m1 m2:Nat}{w w':h_}{ι κ ao bF:Map}{o:Oper}{c:g_}{f:FuncId}{B:ae}{x:m_}{fr:aL}{ty:TypeId}{M L Os Vs ck ms:aC}{y z:Int}{xs args cells' eg post:ak}{fn:Func}{v' va res:i_}{P:j_}{F:Fact}{σ:List (Option Nat)}{Q:Ending->World->Prop}{x1 x2:Obj}{ns:l_}{cur:p_}{dZ:Code}
section
variable{P:j_}{B:ae}{N:Nat}
theorem ij.aGV{w0 w1:h_}{l:oZ}{x:Obj}(h0:ij κ w0 l x)(h1:ij bF w1 l x)(tD:Map.le κ bF)(B0:Map.le κ ao):ij ao w1 l x:=by
 cases x with
 |aH cells ty=>
  obtain⟨b,cs,e1,e2,_⟩:=h0;obtain⟨b',bW,B3,BN,BO⟩:=h1;rw[DK BN (mC tD e2)]at BO;rw[e1]at B3;injection B3 with B3 _ _;subst B3;exact⟨b,cs,e1,mC B0 e2,BO⟩
 |row cells ty size=>
  rcases h0 with h0|⟨b,cap,cur,e1,e2,e3,e4,e5⟩
  ·exact .inl h0
  ·rcases h1 with h1|⟨b',bf,fv,B3,BN,BO,e4',e5'⟩
   ·exact .inl h1
   ·refine .inr ⟨b',bf,fv,B3,BN,BO,e4',?_⟩;rw[DK e5' (mC tD e5)];exact mC B0 e5
 |view cells=>
  rcases h0 with h0|⟨b,o,cap,cs,e1,e2,e3⟩
  ·exact .inl h0
  ·rcases h1 with h1|⟨b',o',bf,bW,B3,BN,BO⟩
   ·exact .inl h1
   ·refine .inr ⟨b',o',bf,bW,B3,?_,BO⟩;rw[DK BN (mC tD e2)];exact mC B0 e2
 |fact F=>exact h1
 |dead=>trivial
def jZ(ι:Map)(next:Nat)(σ:List (Option Nat)):Map:=λk=>if k<next then ι k else match σ[k-next]? with
 |some (some m)=>ι m
 |some none=>some .nil
 |none=>none
def yc(c0:g_)(next:Nat)(X:List Obj):g_:=λk=>if k<next then c0 k else X[k-next]?
def marks:Nat->List Obj->aC
 |_,[]=>[]
 |k,x::l=>(k,x)::marks (k+1) l
def dc:List (Option Nat)->List Obj->aC
 |some m::σ,x::l=>(m,x)::dc σ l
 |none::σ,_::l=>dc σ l
 |_,_=>[]
def Obj.isNil:Obj->Bool
 |.row [] _ _=>true
 |.view []=>true
 |_=>false
def po(next:Nat)(σ:List (Option Nat)):Value->Value
 |.slice (some ad) n c=>if Nat.ble next ad.block&&lM ad then(match σ[ad.block-next]? with
   |some (some m)=>.slice (some ⟨m,ad.off,some 7⟩) n c
   |some none=>.slice none 0 0
   |none=>.slice (some ad) n c)else .slice (some ad) n c
 |v=>v
def yd(next:Nat)(σ:List (Option Nat)):Value->Bool
 |.slice (some ad) n c=>if Nat.ble next ad.block&&lM ad then(match σ[ad.block-next]? with
   |some (some _)=>true
   |some none=>Nat.beq ad.off 0&&(Nat.beq n 0&&Nat.beq c 0)
   |none=>false)else mH next (.slice (some ad) n c)
 |v=>mH next v
def oI(next:Nat)(σ:List (Option Nat)):Obj->Obj
 |.aH cs ty=>.aH (cs.map (po next σ)) ty
 |x=>x
def pq(next:Nat)(σ:List (Option Nat))(F:aC):aC:=F.map λp=>(p.1,oI next σ p.2)
def wh(next:Nat)(σ:List (Option Nat)):Obj->Prop
 |.aH cs _=>∀ v∈cs,yd next σ v=true
 |x=>fW next x
def eY(next:Nat)(σ:List (Option Nat))(fr:aL):aL:=fr.map λp=>(p.1,po next σ p.2)
theorem II{next:Nat}(h:k<next):jZ ι next σ k=ι k:=by unfold jZ;rw[aq h]
theorem Q7{next:Nat}(h:σ[j]?=some (some m)):jZ ι next σ (next+j)=ι m:=by unfold jZ;rw[al o_,D0,h]
theorem Ya{next:Nat}(h:σ[j]?=some none):jZ ι next σ (next+j)=some .nil:=by unfold jZ;rw[al o_,D0,h]
theorem Q8{next:Nat}{v:i_}(ax:yd next σ v=true)(h:aG ι (po next σ v) v'):aG (jZ ι next σ) v v':=by
 have low:∀ k,k<next->∀ l,ι k=some l->jZ ι next σ k=some l:=λk hk l e=>by rw[II hk];exact e
 have jd:∀{v:i_},mH next v=true->aG ι v v'->aG (jZ ι next σ) v v':=λhb h=>h.low low hb;cases v with
 |slice oa n c=>
  cases oa with
  |none=>exact jd ax h
  |some ad=>
   unfold yd at ax;unfold po at h;dsimp only at ax h;split at ax
   ·rename_i hc;rw[aq hc]at h;simp only[cY]at hc;have fJ:=o7 hc.1;obtain⟨j,hj⟩:∃ j,ad.block=next+j:=⟨ad.block-next,by omega⟩;have v7:ad.block-next=j:=by omega
    rw[v7]at ax h;have eta:=Bq hc.2;cases FU:σ[j]? with
    |none=>rw[FU]at ax;cases ax
    |some o=>
     cases o with
     |none=>
      rw[FU]at ax h;simp only[cY]at ax;have h1:=jK ax.1;have h2:=jK ax.2.1;have h3:=jK ax.2.2;rw[h.eW rfl,eta,h1,h2,h3,hj];exact .slcN (Ya FU)
     |some m=>
      rw[FU]at h;dsimp only at h;rw[eta,hj];rcases h.gK rfl with ⟨q1,q2,q3,q4,q5⟩|⟨b,o,cap,c',q1,q2,q3,q5⟩
      ·dsimp only at q1 q4;rw[q5,q2,q3,q4];exact .slcN (by rw[Q7 FU];exact q1)
      ·dsimp only at q1 q5;rw[q5];exact .slc (by rw[Q7 FU];exact q1) q2 q3
   ·rename_i hc;rw[al hc]at h;exact jd ax h
 |_=>exact jd ax h
theorem Yb{next:Nat}{v:i_}(h:mH next v=true):po next σ v=v/\yd next σ v=true:=by
 unfold po yd;split
 ·rename_i ad n c;split
  ·rename_i hb;rw[cY]at hb;have h:(lh ad||Nat.blt ad.block next)=true:=h;rw[K8 hb.2,vY,xP]at h;have:=o7 hb.1;omega
  ·exact⟨rfl,h⟩
 ·exact⟨rfl,h⟩
theorem Q9(next:Nat)(σ:List (Option Nat)):∀(F:aC) (k:Nat),ah (pq next σ F) k=(ah F k).map (oI next σ)
 |[],_=>rfl
 |(j,x)::F,k=>by show(if Nat.beq j k then some (oI next σ x)else ah (pq next σ F) k)=(if Nat.beq j k then some x else ah F k).map (oI next σ);rw[Q9 next σ F k];split<;>rfl
theorem FV{next:Nat}{σ:List (Option Nat)}:∀{F:aC},(∀ p∈F,fW next p.2)->pq next σ F=F/\∀ p∈F,wh next σ p.2
 |[],_=>⟨rfl,λp hp=>(by cases hp)⟩
 |(j,x)::F,h=>by
  obtain⟨h1,h2⟩:=FV (σ:=σ) (F:=F) λp hp=>h p (bB _ hp);have hx:fW next x:=h (j,x) (aN ..);have e:oI next σ x=x/\wh next σ x:=by
   cases x with
   |aH cs ty=>
    refine⟨?_,λv hv=>(Yb (hx v hv)).2⟩;show Obj.aH (cs.map (po next σ)) ty=_;have e:cs.map (po next σ)=cs:=(vM (g:=id) λv hv=>(Yb (σ:=σ) (hx v hv)).1).trans (List.map_id cs);rw[e]
   |_=>exact⟨rfl,hx⟩
  refine⟨by show(j,oI next σ x)::pq next σ F=_;rw[e.1,h1],λp hp=>?_⟩;rcases ch.1 hp with rfl|hp
  ·exact e.2
  ·exact h2 p hp
theorem Ra(next:Nat)(σ:List (Option Nat))(x:Obj):(oI next σ x).owns=x.owns/\(oI next σ x).jc=x.jc/\(∀ F,x=.fact F->oI next σ x=.fact F):=by cases x<;>exact⟨rfl,rfl,λF e=>(by first|exact e|cases e)⟩
theorem aGW{l:oZ}{next:Nat}{x:Obj}(ax:wh next σ x)(di:∀ k,k<next->∀ l,ι k=some l->jZ ι next σ k=some l)(h:ij ι w l (oI next σ x)):ij (jZ ι next σ) w l x:=by
 cases x with
 |aH cells ty=>
  obtain⟨b,bW,e1,e2,e3⟩:=h;refine⟨b,bW,e1,?_,e3⟩;have go:∀{l l':ak},(∀ v∈l,yd next σ v=true)->bJ (aG ι) (l.map (po next σ)) l'->bJ (aG (jZ ι next σ)) l l':=λ{l}=>by
   induction l with
   |nil=>intro l' _ h;cases h;exact .nil
   |cons v l ih=>
    intro l' hk h;cases h with
    |cons h1 h2=>exact .cons (Q8 (hk v (aN ..)) h1) (ih (λu hu=>hk u (bB _ hu)) h2)
  exact go ax e2
 |row cells ty size=>exact ij.below di h ax
 |view cells=>exact ij.below di h ax
 |fact F=>exact h
 |dead=>trivial
theorem Rb:∀(X:List Obj) (next k:Nat),ah (marks next X) k=if k<next then none else X[k-next]?
 |[],next,k=>by unfold marks ah;split<;>simp
 |x::X,next,k=>by
  unfold marks ah;by_cases h:next=k
  ·subst h;have:Nat.beq next next=true:=DH next;rw[aq this,al (Nat.lt_irrefl _),uN];rfl
  ·rw[nM h];simp only[tE,tF];rw[Rb X (next+1) k];by_cases h2:k<next
   ·rw[aq o_,aq h2]
   ·rw[al o_,al h2];obtain⟨d,rfl⟩:∃ d,k=next+1+d:=⟨k-next-1,by omega⟩;rw[D0,show next+1+d-next=d+1 by omega];rfl
theorem Yc:∀{σ:List (Option Nat)} {X:List Obj} {j m:Nat} {x:Obj},σ[j]?=some (some m)->X[j]?=some x->(m,x)∈dc σ X
 |o::σ,y::X,0,m,x,h1,h2=>by simp at h1 h2;subst h1;subst h2;exact aN ..
 |o::σ,y::X,j+1,m,x,h1,h2=>by
  have:=Yc (σ:=σ) (X:=X) (j:=j) (by simpa using h1) (by simpa using h2);cases o with
  |none=>exact this
  |some q=>exact bB _ this
 |[],_,j,m,x,h1,_=>by simp at h1
 |_::_,[],j,m,x,_,h2=>by simp at h2
structure FX(M:aC)(next:Nat)(σ:List (Option Nat))(fr:aL)(F:aC)(X:List Obj):Prop where
 len:X.length=σ.length
 nodup:∀ i j m:Nat,σ[i]?=some (some m)->σ[j]?=some (some m)->i=j
 low:∀ i m:Nat,σ[i]?=some (some m)->m<next->ah F m=none/\ah M m≠none
 nil:∀(i:Nat) (x:Obj),σ[i]?=some none->X[i]?=some x->x.isNil=true
 jL:∀ p∈fr,yd next σ p.2=true
 keys:∀ p∈F,p.1<next/\ah M p.1≠none
 aGX:∀ p∈F,wh next σ p.2
 news:∀ x∈X,fW next x
theorem rename{c0 c1:g_}{w0 w1:h_}{next:Nat}{F:aC}{X:List Obj}(ok:FX M next σ fr F X)
  (h0:aI B κ c0 w0) (ye:eA c0 next) (mG:cT c0 M) (tD:Map.le κ bF) (h1:aI B bF c1 w1) (hF:∀ k x,ah F k=some x->c1 k=some (oI next σ x)) (hX:∀ p∈dc σ X,c1 p.1=some p.2) (hk:∀ k,k<next->ah M k=none->c1 k=c0 k) :
  ∃ c2,Map.le κ (jZ bF next σ)/\aI B (jZ bF next σ) c2 w1/\cT c2 (F++marks next X)/\eA c2 (next+X.length)/\(∀ k,k<next->ah M k=none->c2 k=c0 k):=by
 have Rc:∀ k l,κ k=some l->k<next:=λk l e=>by
  rcases eQ k next with h|h
  ·exact h
  ·rw[h0.dp k (ye k h)]at e;cases e
 have hle:Map.le κ (jZ bF next σ):=λk l e=>by rw[II (Rc k l e)];exact tD k l e
 have low:∀ k,k<next->∀ l,bF k=some l->jZ bF next σ k=some l:=λk hk l e=>by rw[II hk];exact e
 -- the objects
 let cl:g_:=λk=>match ah F k with
  |some x=>some x
  |none=>match ah M k with
   |none=>c1 k
   |some _=>some .dead
 have ga:∀ k x,cl k=some x->(x=.dead/\ah M k≠none)\/∃ y,c1 k=some y/\(ah F k=some x/\y=oI next σ x\/(ah F k=none/\ah M k=none/\y=x)):=by
  intro k x hx;have hx:(match ah F k with|some x=>some x|none=>match ah M k with|none=>c1 k|some _=>some Obj.dead)=some x:=hx;cases hf:ah F k with
  |some y=>rw[hf]at hx;injection hx with hx;subst hx;exact .inr ⟨_,hF k y hf,.inl ⟨rfl,rfl⟩⟩
  |none=>
   rw[hf]at hx;dsimp only at hx;cases hm:ah M k with
   |none=>rw[hm]at hx;exact .inr ⟨_,hx,.inr ⟨rfl,rfl,rfl⟩⟩
   |some y=>rw[hm]at hx;injection hx with hx;exact .inl ⟨hx.symm,λe=>by cases e⟩
 have aGY:∀(j:Nat) (x:Obj),X[j]?=some x->(σ[j]?=some none/\x.isNil=true)\/∃ m,σ[j]?=some (some m)/\c1 m=some x:=by
  intro j x hx;have hj:j<σ.length:=by rw[<-ok.len];exact(eD.1 hx).1
  cases hs:σ[j]? with
  |none=>rw[Yd]at hs;omega
  |some o=>
   cases o with
   |none=>exact .inl ⟨rfl,ok.nil j x hs hx⟩
   |some m=>exact .inr ⟨m,rfl,hX _ (Yc hs hx)⟩
 -- where a mark that is not dead comes from
 have src:∀ k x,yc cl next X k=some x->(x=.dead/\k<next/\ah M k≠none)\/(x.isNil=true/\jZ bF next σ k=some .nil/\¬k<next)\/
   ∃ m y,c1 m=some y/\y.owns=x.owns/\y.jc=x.jc/\(∀ F',x=.fact F'->y=.fact F')/\jZ bF next σ k=bF m/\((k<next/\m=k/\(ah F k=some x/\y=oI next σ x\/(ah F k=none/\ah M k=none/\y=x)))\/(¬k<next/\σ[k-next]?=some (some m)/\X[k-next]?=some x/\y=x)):=by
  intro k x hx;unfold yc at hx;split at hx
  ·rename_i av;rcases ga k x hx with h|⟨y,h1,h2⟩
   ·exact .inl ⟨h.1,av,h.2⟩
   ·refine .inr (.inr ⟨k,y,h1,?_,?_,?_,II av,.inl ⟨av,rfl,h2⟩⟩)<;>rcases h2 with ⟨_,rfl⟩|⟨_,_,rfl⟩
    ·exact(Ra next σ x).1
    ·rfl
    ·exact(Ra next σ x).2.1
    ·rfl
    ·exact(Ra next σ x).2.2
    ·exact λ_ e=>e
  ·rename_i fJ;obtain⟨j,rfl⟩:∃ j,k=next+j:=⟨k-next,by omega⟩;rw[D0]at hx ⊢;rcases aGY j x hx with ⟨h1,h2⟩|⟨m,h1,h2⟩
   ·exact .inr (.inl ⟨h2,Ya h1,fJ⟩)
   ·exact .inr (.inr ⟨m,x,h2,rfl,rfl,λ_ e=>e,Q7 h1,.inr ⟨fJ,h1,hx,rfl⟩⟩)
 -- an owner comes from an owner
 have own:∀ k x b o cap,yc cl next X k=some x->x.owns=true->jZ bF next σ k=some (.at b o cap)->∃ m y,c1 m=some y/\y.owns=true/\bF m=some (.at b o cap)/\((k<next/\m=k/\(ah F k=some x/\y=oI next σ x\/(ah F k=none/\ah M k=none/\y=x)))\/(¬k<next/\σ[k-next]?=some (some m)/\X[k-next]?=some x/\y=x)):=by
  intro k x b o cap hx ho hl;rcases src k x hx with ⟨rfl,_⟩|⟨_,h,_⟩|⟨m,y,h1,h2,_,_,h3,h4⟩
  ·cases ho
  ·rw[h]at hl;cases hl
  ·exact⟨m,y,h1,h2.trans ho,by rw[<-h3];exact hl,h4⟩
 have view:∀ k x b o cap,yc cl next X k=some x->x.jc=true->jZ bF next σ k=some (.at b o cap)->∃ m y,c1 m=some y/\y.jc=true/\bF m=some (.at b o cap):=by
  intro k x b o cap hx ho hl;rcases src k x hx with ⟨rfl,_⟩|⟨_,h,_⟩|⟨m,y,h1,_,h2,_,h3,h4⟩
  ·cases ho
  ·rw[h]at hl;cases hl
  ·exact⟨m,y,h1,h2.trans ho,by rw[<-h3];exact hl⟩
 have Md:∀ k F' v,yc cl next X k=some (.fact F')->jZ bF next σ k=some (.val v)\/True->∃ m,c1 m=some (.fact F')/\jZ bF next σ k=bF m/\∃ y x,x=.fact F'/\((k<next/\m=k/\(ah F k=some x/\y=oI next σ x\/(ah F k=none/\ah M k=none/\y=x)))\/(¬k<next/\σ[k-next]?=some (some m)/\X[k-next]?=some x/\y=x)):=by
  intro k F' v hx _;rcases src k (.fact F') hx with ⟨e,_⟩|⟨hn,_⟩|⟨m,y,h1,_,_,h2,h3,h4⟩
  ·cases e
  ·cases hn
  ·rw[h2 F' rfl]at h1 h4;exact⟨m,h1,h3,_,_,rfl,h4⟩
 have one:∀{k j m x y u v},((k<next/\m=k/\(ah F k=some x/\u=oI next σ x\/(ah F k=none/\ah M k=none/\u=x)))\/(¬k<next/\σ[k-next]?=some (some m)/\X[k-next]?=some x/\u=x))->((j<next/\m=j/\(ah F j=some y/\v=oI next σ y\/(ah F j=none/\ah M j=none/\v=y)))\/(¬j<next/\σ[j-next]?=some (some m)/\X[j-next]?=some y/\v=y))->k=j:=λ{k j m x y u v} q q'=>by
  have Ye:∀{k j},k<next->m=k->((∃ z,ah F k=some z)\/ah M k=none)->¬j<next->σ[j-next]?=some (some m)->False:=λ{k j} av e h fJ hs=>by
   subst e;obtain⟨p1,p2⟩:=ok.low _ _ hs av;rcases h with ⟨z,h⟩|h
   ·rw[p1]at h;cases h
   ·exact p2 h
  rcases q with ⟨h1,h2,h3⟩|⟨h1,h2,_⟩<;>rcases q' with ⟨g1,g2,g3⟩|⟨g1,g2,_⟩
  ·omega
  ·exact(Ye h1 h2 (h3.imp (λh=>⟨_,h.1⟩) λh=>h.2.1) g1 g2).elim
  ·exact(Ye g1 g2 (g3.imp (λh=>⟨_,h.1⟩) λh=>h.2.1) h1 h2).elim
  ·have:=ok.nodup _ _ _ h2 g2;omega
 refine⟨yc cl next X,hle,⟨h1.base,?_,?_,?_,?_,?_,?_,?_,?_,h0.qR.trans hle⟩,?_,?_,?_⟩
 ·intro k hk;unfold yc at hk;split at hk
  ·rename_i av;rw[II av];have hk:(match ah F k with|some x=>some x|none=>match ah M k with|none=>c1 k|some _=>some Obj.dead)=none:=hk;cases hf:ah F k with
   |some y=>rw[hf]at hk;cases hk
   |none=>
    rw[hf]at hk;dsimp only at hk;cases hm:ah M k with
    |none=>rw[hm]at hk;exact h1.dp k hk
    |some y=>rw[hm]at hk;cases hk
  ·rename_i fJ;unfold jZ;rw[al fJ];have:σ[k-next]?=none:=by rw[Yd]at hk ⊢;rw[<-ok.len];exact hk
   rw[this]
 ·intro k x hx;rcases src k x hx with ⟨rfl,av,hM⟩|⟨hn,h,_⟩|⟨m,y,q1,_,_,_,q2,q3⟩
  ·cases hm:ah M k with
   |none=>exact absurd hm hM
   |some y=>
    obtain⟨l,e1,_⟩:=h0.born k y (mG k y hm);exact⟨l,hle k l e1,trivial⟩
  ·refine⟨.nil,h,?_⟩;cases x with
   |row cells ty size=>cases cells with
    |nil=>exact .inl ⟨rfl,rfl⟩
    |cons _ _=>cases hn
   |view cells=>cases cells with
    |nil=>exact .inl ⟨rfl,rfl⟩
    |cons _ _=>cases hn
   |_=>cases hn
  ·obtain⟨l,e1,e2⟩:=h1.born m y q1;refine⟨l,by rw[q2];exact e1,?_⟩;rcases q3 with ⟨av,rfl,⟨h,rfl⟩|⟨hf,hm,rfl⟩⟩|⟨fJ,hs,sD,rfl⟩
   ·exact aGW (ok.aGX _ (iy h)) low e2
   ·have e:=hk m av hm;rw[q1]at e;obtain⟨l',f1,f2⟩:=h0.born m y e.symm;have:=tD m l' f1;rw[e1]at this;injection this with this;subst this;exact f2.aGV e2 tD hle
   ·exact e2.below low (ok.news _ (cL sD))
 ·intro k x b o cap hx ho hl;obtain⟨m,y,q1,qo,q2,_⟩:=own k x b o cap hx ho hl;exact h1.own m y b o cap q1 qo q2
 ·intro k j x y b o cap o' bf hx HY hy H7 hl cW;obtain⟨m,u,q1,qo,q2,q3⟩:=own k x b o cap hx HY hl;obtain⟨m',u',zq,qo',q2',Re⟩:=own j y b o' bf hy H7 cW;have e:=h1.inj m m' u u' b o cap o' bf q1 qo zq qo' q2 q2';subst e;exact one q3 Re
 ·intro k j x F' b o cap v hx HY hl hj hv hf;obtain⟨m,u,q1,qo,q2,_⟩:=own k x b o cap hx HY hl;obtain⟨m',p1,p2,_⟩:=Md j F' v hj (.inr trivial);exact h1.apart m m' u F' b o cap v q1 qo q2 p1 (by rw[<-p2];exact hv) hf
 ·intro k x b o cap hx iq hl;obtain⟨m,u,q1,qv,q2⟩:=view k x b o cap hx iq hl;obtain⟨p1,p2⟩:=h1.seen m u b o cap q1 qv q2;refine⟨p1,λj y o' bf hy H7 hj=>?_⟩;obtain⟨m',u',s1,so,s2,_⟩:=own j y b o' bf hy H7 hj;exact p2 m' u' o' bf s1 so s2
 ·intro j F' hj;obtain⟨m',p1,_⟩:=Md j F' undef hj (.inr trivial);exact h1.fa m' F' p1
 ·intro k j F' Yf hx hy hr Dn;obtain⟨m,q1,_,_,_,_,q3⟩:=Md k F' undef hx (.inr trivial);obtain⟨m',zq,_,_,_,_,Re⟩:=Md j Yf undef hy (.inr trivial);have e:=h1.one m m' F' Yf q1 zq hr Dn;subst e;exact one q3 Re
 ·intro k x hx;rw[jh]at hx;unfold yc;cases hf:ah F k with
  |some y=>
   rw[hf]at hx;injection hx with hx;subst hx;have av:=(ok.keys _ (iy hf)).1;dsimp only at av;rw[aq av];show(match ah F k with|some x=>some x|none=>match ah M k with|none=>c1 k|some _=>some Obj.dead)=some y;rw[hf]
  |none=>
   rw[hf]at hx;dsimp only at hx;rw[Rb]at hx;by_cases av:k<next
   ·rw[aq av]at hx;cases hx
   ·rw[al av]at hx ⊢;exact hx
 ·intro k gM;unfold yc;rw[al o_,Yd];omega
 ·intro k av hm;unfold yc;rw[aq av];show(match ah F k with|some x=>some x|none=>match ah M k with|none=>c1 k|some _=>some Obj.dead)=c0 k;cases hf:ah F k with
  |some y=>exact absurd hm (ok.keys _ (iy hf)).2
  |none=>rw[hm];exact hk k av hm
theorem aGZ{zF:aL}{a:Act}{next:Nat}(hf:fk B ι (bt zF) N a)(ax:∀ p∈fr,yd next σ p.2=true)(h:∀ p∈eY next σ fr,bt zF p.1=p.2)(D1:∀ p∈fr,lN (po next σ p.2)=false):
  fk B (jZ ι next σ) (bt fr) N a:=by
 refine⟨hf.defers,hf.size,λt=>?_⟩;have key:∀(l:aL),(∀ p∈l,p∈fr)->mZ (jZ ι next σ) (bt l t) (a.tmps.getD t undef):=by
  intro l;induction l with
  |nil=>intro _;exact .inl rfl
  |cons p l ih=>
   intro hl;obtain⟨s,v⟩:=p;show mZ _ (if Nat.beq s t then v else bt l t) _;by_cases hs:Nat.beq s t=true
   ·rw[aq hs];have hm:=hl _ (aN ..);have h1:=h (s,po next σ v) (dq.2 ⟨(s,v),hm,rfl⟩);dsimp only at h1;have e:=jK hs;subst e;have h2:=hf.slot s;rw[h1]at h2;exact .inr (Q8 (ax _ hm) (h2.zp (D1 _ hm)))
   ·rw[al hs];exact ih λq hq=>hl q (bB _ hq)
 exact key fr λ_ h=>h
theorem Rf:∀{σ:List (Option Nat)} {X:List Obj} {m:Nat} {x:Obj},(∀ i j m:Nat,σ[i]?=some (some m)->σ[j]?=some (some m)->i=j)->(m,x)∈dc σ X->ah (dc σ X) m=some x
 |[],_,m,x,_,h=>by simp[dc]at h
 |none::_,[],m,x,_,h=>by simp[dc]at h
 |some _::_,[],m,x,_,h=>by simp[dc]at h
 |none::σ,y::X,m,x,hn,h=>Rf (σ:=σ) (X:=X) (λi j m h1 h2=>by have:=hn (i+1) (j+1) m (by simpa using h1) (by simpa using h2);omega) h
 |some q::σ,y::X,m,x,hn,h=>by
  have nL:∀ i j m:Nat,σ[i]?=some (some m)->σ[j]?=some (some m)->i=j:=λi j m h1 h2=>by have:=hn (i+1) (j+1) m (by simpa using h1) (by simpa using h2);omega
  show(if Nat.beq q m then some y else ah (dc σ X) m)=some x;rcases ch.1 h with e|h'
  ·injection e with e1 e2;subst e1;subst e2;rw[aq (DH m)]
  ·have aY:q≠m:=by
    rintro rfl
    have idx:∀{σ:List (Option Nat)} {X:List Obj},(q,x)∈dc σ X->∃ j:Nat,σ[j]?=some (some q):=by
     intro σ;induction σ with
     |nil=>intro X h;simp[dc]at h
     |cons o σ ih=>
      intro X h;cases X with
      |nil=>cases o<;>simp[dc]at h
      |cons z X=>
       cases o with
       |none=>obtain⟨j,hj⟩:=ih (X:=X) h;exact⟨j+1,by simpa using hj⟩
       |some t=>
        rcases ch.1 h with e|h
        ·injection e with e1 _;exact⟨0,by simp[e1]⟩
        ·obtain⟨j,hj⟩:=ih (X:=X) h;exact⟨j+1,by simpa using hj⟩
    obtain⟨j,hj⟩:=idx h';have:=hn 0 (j+1) q s_ (by simpa using hj);omega
   rw[nM aY];simp only[tE,tF];exact Rf nL h'
theorem Rg:∀{σ:List (Option Nat)} {X:List Obj} {m:Nat} {x:Obj},(m,x)∈dc σ X->∃ j:Nat,σ[j]?=some (some m)
 |[],_,_,_,h=>by simp[dc]at h
 |none::_,[],_,_,h=>by simp[dc]at h
 |some _::_,[],_,_,h=>by simp[dc]at h
 |none::σ,_::X,_,_,h=>by obtain⟨j,hj⟩:=Rg (σ:=σ) (X:=X) h;exact⟨j+1,by simpa using hj⟩
 |some t::σ,_::X,m,x,h=>by
  rcases ch.1 h with e|h
  ·injection e with e1 _;exact⟨0,by simp[e1]⟩
  ·obtain⟨j,hj⟩:=Rg (σ:=σ) (X:=X) h;exact⟨j+1,by simpa using hj⟩
theorem FX.Yg{next:Nat}{F:aC}{X:List Obj}(ok:FX M next σ fr F X)(h:cT c (pq next σ F++dc σ X)):
  (∀ k x,ah F k=some x->c k=some (oI next σ x))/\∀ p∈dc σ X,c p.1=some p.2:=by
 refine⟨λk x hx=>h k _ (by rw[jh,Q9,hx];rfl),λp hp=>?_⟩;obtain⟨m,x⟩:=p;have hf:ah F m=none:=by
  obtain⟨j,hj⟩:=Rg hp;rcases eQ m next with av|fJ
  ·exact(ok.low j m hj av).1
  ·cases hF:ah F m with
   |none=>rfl
   |some y=>have:=(ok.keys _ (iy hF)).1;dsimp only at this;omega
 exact h m x (by rw[jh,Q9,hf];exact Rf ok.nodup hp)
theorem aG0{a:Act}{next:Nat}(hf:fk B ι (bt (eY next σ fr)) N a)(ax:∀ p∈fr,yd next σ p.2=true)(D1:∀ p∈fr,lN (po next σ p.2)=false):
  fk B (jZ ι next σ) (bt fr) N a:=by
 refine⟨hf.defers,hf.size,λt=>?_⟩;have key:∀(l:aL),(∀ p∈l,p∈fr)->mZ ι (bt (eY next σ l) t) (a.tmps.getD t undef)->mZ (jZ ι next σ) (bt l t) (a.tmps.getD t undef):=by
  intro l;induction l with
  |nil=>intro _ _;exact .inl rfl
  |cons p l ih=>
   intro hl h;obtain⟨s,v⟩:=p;have h:mZ ι (if Nat.beq s t then po next σ v else bt (eY next σ l) t) (a.tmps.getD t undef):=h;show mZ _ (if Nat.beq s t then v else bt l t) _;by_cases hs:Nat.beq s t=true
   ·rw[aq hs]at h ⊢;have hm:=hl _ (aN ..);exact .inr (Q8 (ax _ hm) (h.zp (D1 _ hm)))
   ·rw[al hs]at h ⊢;exact ih (λq hq=>hl q (bB _ hq)) h
 exact key fr (λ_ h=>h) (hf.slot t)
theorem aG1{b:Code}{next p:Nat}{r:kR}(n:Nat)(I:Nat->aL)(F:Nat->aC)(X:Nat->List Obj)(hp:∀ i,i<=n->(X i).length=p)
  (start:∃ σ,FX M next σ (I 0) (F 0) (X 0)/\(∀ q∈I 0,lN (po next σ q.2)=false)/\(∀ q∈eY next σ (I 0),bt fr q.1=q.2)/\(∀ k x,ah (pq next σ (F 0)++dc σ (X 0)) k=some x->ah M k=some x))
  (body:∀ i,i<n->∃ σ gg,FX M next σ (I (i+1)) (F (i+1)) (X (i+1))/\(∀ q∈I (i+1),lN (po next σ q.2)=false)/\ag P B N b (I i) (F i++marks next (X i)) (next+p) ⟨.normal,eY next σ (I (i+1)),pq next σ (F (i+1))++dc σ (X (i+1)),gg⟩)
  (last:ag P B N b (I n) (F n++marks next (X n)) (next+p) r) (hr:r.ex≠.normal):ag P B N (.loop b) fr M next r:=by
 intro R sC c0 a0 w0 Q zG jJ mG ye hQ;refine QB (n+1) ?_;have key:∀ d i,i+d=n->∀(bF:Map) (c1:g_) (a1:Act) (w1:h_),Map.le sC bF->fk B bF (bt (I i)) N a1->aI B bF c1 w1->cT c1 (F i++marks next (X i))->eA c1 (next+p)->
   (∀ k,k<next->ah M k=none->ah (F i) k=none)->(∀ k,k<next->ah M k=none->c1 k=c0 k)->
   (∀ t,tv (.loop b) t=false->a1.tmps.getD t undef=a0.tmps.getD t undef)->Code.roundsIn (FW R) 0 P b Q (d+1) a1 w1:=by
  have tu:∀(i k:Nat),k<next->ah M k=none->ah (F i) k=none->ah (F i++marks next (X i)) k=none:=λi k hk _ hf=>by rw[jh,hf];dsimp only;rw[Rb,aq hk]
  intro d;induction d with
  |zero=>
   intro i hi bF c1 a1 w1 iK gN cP dT du Rh gE iL;have:i=n:=by omega
   subst this;rw[DI];refine last R bF c1 a1 w1 _ gN cP dT du λdf c2 a2 w2 ke iU dz fO ew fT nk=>?_;have:=hQ df c2 a2 w2 (iK.trans ke) iU dz fO ew (λk hk h0=>(fT k o_ (tu i k hk h0 (Rh k hk h0))).trans (gE k hk h0)) λt ht=>(nk t ht).trans (iL t ht);show Exit.then _ Q r.ex.zx a2 w2;cases hx:r.ex with
   |normal=>exact absurd hx hr
   |exit id=>rw[hx]at this;exact this
   |ret=>rw[hx]at this;exact this
  |succ d ih=>
   intro i hi bF c1 a1 w1 iK gN cP dT du Rh gE iL;rw[DI];obtain⟨σ,gg,ok,D1,hb⟩:=body i o_;refine hb R bF c1 a1 w1 _ gN cP dT du λdf c2 a2 w2 ke iU dz fO ew fT nk=>?_;obtain⟨q1,q2⟩:=ok.Yg fO;have gM:∀ k,k<next->ah M k=none->c2 k=c0 k:=λk hk h0=>(fT k o_ (tu i k hk h0 (Rh k hk h0))).trans (gE k hk h0);obtain⟨c3,e1,e2,e3,e4,e5⟩:=rename ok jJ ye mG (iK.trans ke) dz q1 q2 gM;rw[hp (i+1) o_]at e4;refine ih (i+1) o_ _ c3 a2 w2 e1 (aG0 iU ok.jL D1) e2 e3 e4 (λk hk h0=>?_) e5 λt ht=>(nk t ht).trans (iL t ht);cases hF:ah (F (i+1)) k with
   |none=>rfl
   |some y=>exact absurd h0 (ok.keys _ (iy hF)).2
 obtain⟨σ,ok,D1,lT,hM⟩:=start;obtain⟨q1,q2⟩:=ok.Yg (c:=c0) λk x hx=>mG k x (hM k x hx);obtain⟨c3,e1,e2,e3,e4,e5⟩:=rename ok jJ ye mG (Map.le.refl _) jJ q1 q2 (λ_ _ _=>rfl);rw[hp 0 o_]at e4;refine key n 0 o_ _ c3 a0 w0 e1 (aGZ zG ok.jL lT D1) e2 e3 e4 (λk hk h0=>?_) e5 λ_ _=>rfl;cases hF:ah (F 0) k with
 |none=>rfl
 |some y=>exact absurd h0 (ok.keys _ (iy hF)).2
end
def gi(n a:Nat):List UInt8:=(List.range n).map λi=>UInt8.ofNat (a/256^(n-1-i)%256)
theorem IJ(n a:Nat):(gi n a).length=n:=by simp[gi]
theorem wi(n a:Nat):gi (n+1) a=UInt8.ofNat (a/256^n%256)::gi n a:=by
 unfold gi;rw[List.range_succ_eq_map,qc,List.map_map]
 congr 1
 refine vM λi hi=>?_;have hi:=kf.1 hi;show UInt8.ofNat (a/256^(n+1-1-(i+1))%256)=_;rw[show n+1-1-(i+1)=n-1-i by omega]
theorem Me(a:Nat):gi 0 a=[]:=rfl
theorem Yh(n a m:Nat)(h:n<=m):gi n (a%256^m)=gi n a:=by
 unfold gi;refine vM λi hi=>?_;have hi:=kf.1 hi
 congr 1
 obtain⟨s,hs⟩:∃ s,m=(n-1-i)+1+s:=⟨m-(n-1-i)-1,by omega⟩;have e:256^m=256^(n-1-i)*(256*256^s):=by rw[hs,dX,dh,fq]
 rw[e,zU,ID]
theorem Yi(m n a:Nat):gi (m+n) a=gi m (a/256^n)++gi n a:=by
 induction m with
 |zero=>simp[Me]
 |succ m ih=>
  rw[show m+1+n=(m+n)+1 by omega,wi,wi,ih,FY,kg,<-dX,lW n m]
theorem aG2(n a:Nat):fB (gi n a)=a%256^n:=by
 induction n with
 |zero=>simp[Me,fB,su]
 |succ n ih=>
  rw[wi,IC,ih,IJ];have h1:(UInt8.ofNat (a/256^n%256)).toNat=a/256^n%256:=by rw[Mf];exact dG (cC _ d_)
  rw[h1,dh,LO,cH (256^n),lW]
def cz(a:Nat):List UInt8:=gi (nd 256 a) a
theorem D2(a:Nat):fB (cz a)=a:=by unfold cz;rw[aG2,dG (dL d_ a)]
theorem B4:cz 0=[]:=by unfold cz;rw[qd];rfl
theorem sE(a:Nat):(cz a).length=nd 256 a:=IJ _ _
theorem aG3:cz a=[]↔a=0:=by
 constructor
 ·intro h;have:=D2 a;rw[h]at this;exact this.symm
 ·rintro rfl;exact B4
theorem aG4(h:cz a=cz b):a=b:=by rw[<-D2 a,h,D2]
theorem Mg(h:a≠0):∃ c l,cz a=c::l/\c≠0:=by
 have hp:=vS (B:=256) d_ h;obtain⟨n,hn⟩:∃ n,nd 256 a=n+1:=⟨nd 256 a-1,by omega⟩;have av:=dL (B:=256) d_ a;rw[hn]at av;refine⟨_,_,by unfold cz;rw[hn,wi],λe=>?_⟩;have h1:(UInt8.ofNat (a/256^n%256)).toNat=a/256^n%256:=by rw[Mf];exact dG (cC _ d_)
 rw[e]at h1;have h2:a<256^n:=(FH d_ av).1 h1.symm;have:=iN (B:=256) d_ h2;omega
theorem aG5(k:Nat)(l:List UInt8):jl (List.replicate k 0++l)=k+jl l:=by
 induction k with
 |zero=>simp
 |succ k ih=>
  have e:jl (0::(List.replicate k 0++l))=jl (List.replicate k 0++l)+1:=rfl;rw[List.replicate_succ,FY,e,ih];omega
theorem Yj{n:Nat}(h:a<256^n):gi (k+n) a=List.replicate k 0++gi n a:=by
 rw[Yi,lq h]
 congr 1
 induction k with
 |zero=>rfl
 |succ k ih=>rw[wi,ih,List.replicate_succ,Nat.zero_div];rfl
theorem aG6{n:Nat}(h:a<256^n):IF (gi n a)=cz a:=by
 have hle:=iN (B:=256) d_ h;obtain⟨k,hk⟩:∃ k,n=k+nd 256 a:=⟨n-nd 256 a,by omega⟩;have hz:jl (gi (nd 256 a) a)=0:=by
  by_cases h0:a=0
  ·subst h0;rw[qd];rfl
  ·obtain⟨c,l,e,hc⟩:=Mg h0;unfold cz at e;rw[e];unfold jl;rw[al hc]
 unfold IF;rw[hk,Yj (dL d_ a),aG5,hz,iJ,List.drop_append_of_le_length s_];simp[cz]
theorem Yk{c:UInt8}{l:List UInt8}(h:c≠0):256^l.length<=fB (c::l):=by
 rw[IC];have:1<=c.toNat:=by
  rcases nr c.toNat with e|e
  ·exact absurd (L7.1 (by rw[e];rfl)) h
  ·exact e
 have:=eR (256^l.length) this;omega
theorem aG7{l:List UInt8}(h:∀ c r,l=c::r->c≠0):cz (fB l)=l:=by
 have hlen:nd 256 (fB l)=l.length:=by
  refine Yl (iN d_ (zT l)) ?_;cases l with
  |nil=>simp
  |cons c r=>
   have h1:=Yk (l:=r) (h c r rfl);rcases eQ (nd 256 (fB (c::r))) (r.length+1)with h2|h2
   ·have h3:=dL (B:=256) d_ (fB (c::r));have h4:256^nd 256 (fB (c::r))<=256^r.length:=cX d_ o_;omega
   ·exact h2
 unfold cz;rw[hlen];clear hlen h;induction l with
 |nil=>rfl
 |cons c r ih=>
  have hv:=zT r;have hp:0<256^r.length:=cE d_;rw[pU,wi,IC]
  congr 1
  ·rw[lW,oG _ _ hp,lq hv,jv];have hc:c.toNat<256:=c.toNat_lt;rw[dG hc];simp
  ·rw[<-Yh _ _ _ (aZ r.length),lW,B5,dG hv,ih]
theorem aG8(d:Nat):gi 4 d=[UInt8.ofNat (d/16777216%256),UInt8.ofNat (d/65536%256),UInt8.ofNat (d/256%256),UInt8.ofNat (d%256)]:=by rw[wi,wi,wi,wi,Me];simp
section
variable{P:j_}{B:ae}{N:Nat}
def aO.mkc(fn:Func)(key k cp e size bytes:Nat)(z:i_)(hb:bytes*cp<=281474976710656)(hn:cp<=maxLen)(ho:LL P (au fn key)=some (e,size,bytes,z)):aO P B N:=
 .step key (au fn key) [vI 0,vI cp] [(k,none)] (.slice (some ⟨k,0,some 7⟩) 0 0) [(k,.row [] e size)] (by
  unfold LL at ho;split at ho
  ·rename_i t a b bM;split at ho
   ·rename_i e' ht;split at ho
    ·rename_i i hi;split at ho
     ·rename_i z' lj;injection ho with ho;injection ho with h1 ho;injection ho with h2 ho;injection ho with h3 h4;subst h1;subst h4;have:=WB (P:=P) (B:=B) bM ht hi lj (kl:=.i64) (kc:=.i64) (l:=0) (cp:=cp) (kB _) (by rw[h3];exact hb) hn (cells:=[]) (by rw[kT,Ri]) s_ n_ k;rw[h2]at this;exact this.step
     ·cases ho
    ·cases ho
   ·cases ho
  ·cases ho)
def aO.pr(fn:Func)(key k j n m nm e size bytes:Nat)(cells:ak)(q:Nat)(x:Obj)(new:ak)(kS:n+m=nm)(hx:x.reads=true)(hlen:x.cells.length=m*size)(jI:cells.length=n*size)(iw:cells++x.cells=new)
  (h1:∀ v∈x.cells,v.oneCell'=true) (bE:0<size) (h63:nm<=maxLen) (hb:nm*bytes<=140737488355328) (ho:DZ P (au fn key)=some (e,size,bytes,size,true)):aO P B N:=
 .step key (au fn key) [.slice (some ⟨j,0,some 7⟩) n 0,.slice (some ⟨q,0,some 7⟩) m 0] [(k,none),(j,some (.row cells e size)),(q,some x)] (.slice (some ⟨k,0,some 7⟩) nm 0) [(k,.row new e size),(j,.dead)] (by
  subst kS;have hs:Bn B (.slice (some ⟨q,0,some 7⟩) m 0) m x.cells [(q,some x)]:=by have:=Le (B:=B) (k:=q) (off:=0) (m:=m) (cc:=0) hx (len:=m*size) (λh=>by rw[h,kT]);rw[lv,jN (uA hlen)]at this;exact this
  have:=X7 (B:=B) ho bE hs hlen h1 (j:=j) (n:=n) (cells:=cells) (uA jI.symm) h63 hb k;rw[jN (uA jI),iw]at this;exact this)
def gv(l:List UInt8):ak:=l.map λc=>.int .u8 (c.toNat:Int)
theorem aG9(l:List UInt8):∀ u∈gv l,flat u=true:=λu hu=>by obtain⟨x,_,rfl⟩:=dq.1 hu;rfl
theorem Ym(l:List UInt8):∀ acc:List UInt8,(l.map λc=>(c.toNat:Int)).foldl (λ(r:ByteArray) (n:Int)=>r.push (UInt8.ofNat n.toNat)) (BA acc)=BA (acc++l):=by
 induction l with
 |nil=>intro acc;simp
 |cons c l ih=>
  intro acc;rw[qc,uH];have e:(BA acc).push (UInt8.ofNat ((c.toNat:Int)).toNat)=BA (acc++[c]):=by unfold BA;simp[ByteArray.push]
  rw[e,ih,Bx];rfl
def Mh(P:j_)(o:Oper):Bool:=match o.op with
 |.convert src dst _=>match P.underlying src,P.underlying dst with
  |some (.slice e),some .string=>(match P.underlying e with|some (.int .u8)=>true|_=>false)
  |_,_=>false
 |_=>false
def aO.Rj(fn:Func)(key k n:Nat)(l:List UInt8)(x:Obj)(hx:x.reads=true)(hc:x.cells=gv l)(hn:l.length=n)(ho:Mh P (au fn key)=true):aO P B N:=
 .step key (au fn key) [.slice (some ⟨k,0,some 7⟩) n 0] [(k,some x)] (.string (BA l)) [] (by
  unfold Mh at ho;split at ho
  ·rename_i src dst y bM;split at ho
   ·rename_i e hs hd;split at ho
    ·rename_i he;have:=WD (P:=P) (B:=B) bM hs he hd (k:=k) (off:=0) (n:=n) (cc:=0) (y:=x) (ns:=l.map λc=>(c.toNat:Int)) hx (by rw[hc,lv,jN (by simp[gv,hn])];simp[gv,Function.comp_def]) (by simpa using hn)
     have e2:=Ym l [];rw[jg]at e2;rw[show ByteArray.empty=BA []from rfl,e2]at this;exact this.step
    ·cases ho
   ·cases ho
  ·cases ho)
end
section
variable{P:j_}{B:ae}{N:Nat}
theorem FZ{x:Obj}(h:∀ u∈x.cells,flat u=true):fW m x:=λu hu=>iM (h u hu)
def F0:List (Option Nat)->Bool
 |[]=>true
 |none::l=>F0 l
 |some m::l=>(l.all λo=>match o with|some k=>!Nat.beq m k|none=>true)&&F0 l
theorem Yn:∀{σ:List (Option Nat)},F0 σ=true->∀ i j m:Nat,σ[i]?=some (some m)->σ[j]?=some (some m)->i=j
 |[],_,i,j,m,h,_=>by simp at h
 |o::l,h,i,j,m,h1,h2=>by
  have hl:F0 l=true/\∀ k,o=some k->∀ j:Nat,l[j]?≠some (some k):=by
   cases o with
   |none=>exact⟨h,λk e=>by cases e⟩
   |some q=>
    simp only[F0,cY,aX]at h;refine⟨h.2,λk e j hj=>?_⟩;injection e with e;subst e;have:=h.1 _ (cL hj);simp at this
  cases i with
  |zero=>
   cases j with
   |zero=>rfl
   |succ j=>
    simp at h1 h2;exact absurd h2 (hl.2 m h1 j)
  |succ i=>
   cases j with
   |zero=>
    simp at h1 h2;exact absurd h1 (hl.2 m h2 i)
   |succ j=>
    simp at h1 h2;rw[Yn hl.1 i j m h1 h2]
def Yo(M:aC)(F:aC)(next:Nat)(σ:List (Option Nat)):Bool:=σ.all λo=>match o with
 |some m=>Nat.ble next m||((match ah F m with|none=>true|some _=>false)&&(match ah M m with|none=>false|some _=>true))
 |none=>true
def F1:List (Option Nat)->List Obj->Bool
 |none::σ,x::X=>x.isNil&&F1 σ X
 |some _::σ,_::X=>F1 σ X
 |_,_=>true
theorem Yp:∀{σ:List (Option Nat)} {X:List Obj},F1 σ X=true->∀(i:Nat) (x:Obj),σ[i]?=some none->X[i]?=some x->x.isNil=true
 |[],_,_,i,x,h,_=>by simp at h
 |_::_,[],_,i,x,_,h=>by simp at h
 |o::σ,y::X,h,i,x,h1,h2=>by
  cases i with
  |zero=>
   simp at h1 h2;subst h1;subst h2;simp only[F1,cY]at h;exact h.1
  |succ i=>
   simp at h1 h2;refine Yp (σ:=σ) (X:=X) ?_ i x h1 h2;cases o with
   |none=>simp only[F1,cY]at h;exact h.2
   |some _=>exact h
def uO(M:aC)(next:Nat)(σ:List (Option Nat))(fr:aL)(F:aC)(X:List Obj):Bool:=
 Nat.beq X.length σ.length&&(F0 σ&&(Yo M F next σ&&(F1 σ X&&((fr.all λp=>yd next σ p.2&&!lN (po next σ p.2))&&(F.all λp=>Nat.blt p.1 next&&(match ah M p.1 with|none=>false|some _=>true))))))
theorem Yq{next:Nat}{F:aC}{X:List Obj}(h:uO M next σ fr F X=true)(hF:∀ p∈F,wh next σ p.2)(hX:∀ x∈X,fW next x):
  FX M next σ fr F X/\∀ q∈fr,lN (po next σ q.2)=false:=by
 simp only[uO,cY,aX,zy]at h;obtain⟨h1,h2,h3,h4,h5,h6⟩:=h;refine⟨⟨jK h1,Yn h2,λi m hi hm=>?_,Yp h4,λp hp=>(h5 p hp).1,λp hp=>?_,hF,hX⟩,λq hq=>(h5 q hq).2⟩
 ·unfold Yo at h3;rw[aX]at h3;have:=h3 _ (cL hi);simp only[qV,cY]at this;rcases this with this|⟨p1,p2⟩
  ·have:=o7 this;omega
  ·constructor
   ·cases hf:ah F m with
    |none=>rfl
    |some y=>rw[hf]at p1;cases p1
   ·intro e;rw[e]at p2;cases p2
 ·obtain⟨q1,q2⟩:=h6 p hp;refine⟨Nat.lt_of_succ_le (by simpa[Nat.blt]using q1),λe=>?_⟩;rw[e]at q2;cases q2
theorem Rk{b:Code}{next p:Nat}{r:kR}(n:Nat)(I:Nat->aL)(F:Nat->aC)(X:Nat->List Obj)(kW:List (Option Nat))(hp:∀ i,i<=n->(X i).length=p)
  (hF:∀ q∈F 0,wh next kW q.2) (hX:∀ i,i<=n->∀ x∈X i,fW next x) (h0:uO (pq next kW (F 0)++dc kW (X 0)) next kW (I 0) (F 0) (X 0)=true)
  (hs:((eY next kW (I 0)).map λq=>bt (eY next kW (I 0)) q.1)=(eY next kW (I 0)).map λq=>q.2)
  (body:∀ i,i<n->∃ σ gg,uO (pq next kW (F 0)++dc kW (X 0)) next σ (I (i+1)) (F (i+1)) (X (i+1))=true/\(∀ q∈F (i+1),wh next σ q.2)/\ag P B N b (I i) (F i++marks next (X i)) (next+p) ⟨.normal,eY next σ (I (i+1)),pq next σ (F (i+1))++dc σ (X (i+1)),gg⟩)
  (last:ag P B N b (I n) (F n++marks next (X n)) (next+p) r) (hr:r.ex≠.normal):ag P B N (.loop b) (eY next kW (I 0)) (pq next kW (F 0)++dc kW (X 0)) next r:=by
 refine aG1 n I F X hp ?_ ?_ last hr
 ·obtain⟨q1,q2⟩:=Yq h0 hF (hX 0 (kB _));exact⟨kW,q1,q2,LJ hs,λ_ _ h=>h⟩
 ·intro i hi;obtain⟨σ,gg,e1,e0,e2⟩:=body i hi;obtain⟨q1,q2⟩:=Yq e1 e0 (hX (i+1) o_);exact⟨σ,gg,q1,q2,e2⟩
theorem rm{b:Code}{next p:Nat}{r:kR}(n:Nat)(I:Nat->aL)(F:Nat->aC)(X:Nat->List Obj)(kW:List (Option Nat))(hp:∀ i,i<=n->(X i).length=p)
  (z7:∀ i,i<=n->(∀ q∈F i,fW next q.2)/\∀ x∈X i,fW next x) (h0:uO (F 0++dc kW (X 0)) next kW (I 0) (F 0) (X 0)=true)
  (hs:((eY next kW (I 0)).map λq=>bt (eY next kW (I 0)) q.1)=(eY next kW (I 0)).map λq=>q.2)
  (body:∀ i,i<n->∃ σ gg,uO (F 0++dc kW (X 0)) next σ (I (i+1)) (F (i+1)) (X (i+1))=true/\ag P B N b (I i) (F i++marks next (X i)) (next+p) ⟨.normal,eY next σ (I (i+1)),F (i+1)++dc σ (X (i+1)),gg⟩)
  (last:ag P B N b (I n) (F n++marks next (X n)) (next+p) r) (hr:r.ex≠.normal):ag P B N (.loop b) (eY next kW (I 0)) (F 0++dc kW (X 0)) next r:=by
 have e0:=(FV (σ:=kW) (z7 0 (kB _)).1).1;rw[<-e0]at h0 body ⊢;refine Rk n I F X kW hp (FV (z7 0 (kB _)).1).2 (λi hi=>(z7 i hi).2) (by rw[e0]at h0 ⊢;exact h0) hs (λi hi=>?_) last hr;obtain⟨σ,gg,e1,e2⟩:=body i hi;exact⟨σ,gg,by rw[e0]at e1 ⊢;exact e1,(FV (z7 (i+1) o_).1).2,by rw[(FV (σ:=σ) (z7 (i+1) o_).1).1];exact e2⟩
end
def vb(m:Nat):Value:=.int .u8 (m:Int)
theorem aHa(d:Nat):gv (gi 4 d)=[vb (d/16777216%256),vb (d/65536%256),vb (d/256%256),vb (d%256)]:=by
 have e:∀ m,Value.int .u8 ((UInt8.ofNat (m%256)).toNat:Int)=vb (m%256):=λm=>by rw[Mf,dG (cC _ d_)];rfl
 rw[aG8];simp only[gv,qc,Mi,e]
theorem Mj(l m:List UInt8):gv (l++m)=gv l++gv m:=by simp[gv]
theorem D3(l:List UInt8):(gv l).length=l.length:=by simp[gv]
section
variable{Bs:ae}{n a:Nat}
def F2(n j m:Nat):aL:=[(4,c8 j),(0,sl 0 n),(3,sl 2 (4*m))]
def D4(n a:Nat):aC:=[(0,.view (ai (aa base n a)))]
def D5(a j m:Nat):List Obj:=[.row (gv (gi (4*m) (a/base^j))) 5 1]
theorem aHb(hn:n=m+1+j)(h63:n<35184372088832):
  ag prog Bs 45 (aE (af f204 0)) (F2 n (j+1) m) (D4 n a++marks 2 (D5 a (j+1) m)) 3 ⟨.normal,eY 2 [some 4] (F2 n j (m+1)),D4 n a++dc [some 4] (D5 a j (m+1)),5⟩:=by
 have hj:j<n:=by omega
 obtain⟨d,hd⟩:∃ d,d=a/base^j%base:=⟨_,rfl⟩;have lY:d<base:=by rw[hd];exact gG d_ a j
 have iA:(ai (aa base n a))[j]?=some (aM d):=by rw[hd];exact ki (dV hj)
 have sh:∀ k:Nat,(d:Int).fdiv ((2:Int)^k)=((d/2^k:Nat):Int):=λk=>by rw[rh _ (F3 d_),sA,F4];rfl
 have w8:∀ m:Nat,IntKind.u8.wrap ((m:Nat):Int)=((m%256:Nat):Int):=λm=>by rw[Yr];omega
 have iw:gv (gi (4*m) (a/base^(j+1)))++[vb (d/2^24%256),vb (d/2^16%256),vb (d/2^8%256),vb (d%256)]=gv (gi (4*(m+1)) (a/base^j)):=by
  have e1:a/base^j/256^4=a/base^(j+1):=by rw[show(256:Nat)^4=base by decide,kg,<-dh]
  rw[show 4*(m+1)=4*m+4 by omega,Yi,e1,Mj,<-Yh 4 (a/base^j) 4 (aZ _),show a/base^j%256^4=d from hd.symm,aHa]
 exact ay [.rw 12 (c8 (j+1)) (vI j) (dP j),.ge 13 j 0 true s_,.rw 18 (c8 (j+1)) (vI j) (dP j),.ix f204 19 0 n j hj k_,.ld f204 20 172 0 j (.view (ai (aa base n a))) (aM d) rfl (by rw[ft];exact iA) k_,.quo 21 .u32 ((d:Int).fdiv ((2:Int)^24)) ((d/2^24:Nat):Int) (sh 24),.wr 22 .u8 ((d/2^24:Nat):Int) ((d/2^24%256:Nat):Int) (w8 _),.rw 24 (c8 (j+1)) (vI j) (dP j),.ix f204 25 0 n j hj k_,.ld f204 26 172 0 j (.view (ai (aa base n a))) (aM d) rfl (by rw[ft];exact iA) k_,.quo 27 .u32 ((d:Int).fdiv ((2:Int)^16)) ((d/2^16:Nat):Int) (sh 16),.wr 28 .u8 ((d/2^16:Nat):Int) ((d/2^16%256:Nat):Int) (w8 _),.rw 30 (c8 (j+1)) (vI j) (dP j),.ix f204 31 0 n j hj k_,.ld f204 32 172 0 j (.view (ai (aa base n a))) (aM d) rfl (by rw[ft];exact iA) k_,.quo 33 .u32 ((d:Int).fdiv ((2:Int)^8)) ((d/2^8:Nat):Int) (sh 8),.wr 34 .u8 ((d/2^8:Nat):Int) ((d/2^8%256:Nat):Int) (w8 _),.rw 36 (c8 (j+1)) (vI j) (dP j),.ix f204 37 0 n j hj k_,.ld f204 38 172 0 j (.view (ai (aa base n a))) (aM d) rfl (by rw[ft];exact iA) k_,.wr 39 .u8 (d:Int) ((d%256:Nat):Int) (w8 _),.bs f204 40 3 4 5 1 [0,1,2,3] (vb 0) [vb (d/2^24%256),vb (d/2^16%256),vb (d/2^8%256),vb (d%256)] #[vb (d/2^24%256),vb (d/2^16%256),vb (d/2^8%256),vb (d%256)]
   (.row [vb (d/2^24%256),vb (d/2^16%256),vb (d/2^8%256),vb (d%256)] 5 1) rfl (λv hv=>by simp at hv;rcases hv with rfl|rfl|rfl|rfl<;>rfl) (λv hv=>by simp at hv;rcases hv with rfl|rfl|rfl|rfl<;>rfl) k_ rfl o_ o_ k_,
  .pr f204 41 4 2 (4*m) 4 (4*(m+1)) 5 1 1 (gv (gi (4*m) (a/base^(j+1)))) 3 (.row [vb (d/2^24%256),vb (d/2^16%256),vb (d/2^8%256),vb (d%256)] 5 1) (gv (gi (4*(m+1)) (a/base^j)))
   o_ rfl rfl (by rw[D3,IJ];omega) iw (λv hv=>by simp[Obj.cells]at hv;rcases hv with rfl|rfl|rfl|rfl<;>rfl) o_ (by simp[maxLen];omega) o_ k_,
  .rw 14 (c8 (j+1)) (vI j) (dP j),.wr 15 .i64 ((j:Int)-1) ((j:Int)-1) (nU o_)]
theorem aHc(h63:n<35184372088832):
  ag prog Bs 45 (.block 0 (af f204 0)) (eY 2 [some 1] (F2 n n 0)) (D4 n a++dc [some 1] (D5 a n 0)) 2 ⟨.normal,F2 n 0 n,D4 n a++marks 2 (D5 a 0 n),3⟩:=by
 have:=rm (P:=prog) (B:=Bs) (N:=45) (b:=aE (af f204 0)) (next:=2) (p:=1) (r:=⟨.exit 0,F2 n 0 n,D4 n a++marks 2 (D5 a 0 n),3⟩) n (λi=>F2 n (n-i) i) (λ_=>D4 n a) (λi=>D5 a (n-i) i) [some 1] (λ_ _=>rfl)
  (λi _=>⟨λq hq=>by simp[D4]at hq;subst hq;exact FZ (e9 _),λx hx=>by simp[D5]at hx;subst hx;exact FZ (aG9 _)⟩) k_ k_
  (λi hi=>⟨[some 4],5,k_,by
   obtain⟨j,hj⟩:∃ j,n=i+1+j:=⟨n-(i+1),by omega⟩;have e1:n-i=j+1:=by omega
   have e2:n-(i+1)=j:=by omega
   simp only[e1,e2];exact aHb hj h63⟩)
  (by simp only[uN];exact ay [.rw 13 (.bool (decide (((0:Nat):Int)-1>=0))) a_ rfl]) n_
 simp only[FF]at this;exact bO (id:=0) this
end
theorem Ys(fQ:gZ w va a)(h1:nd base a<35184372088832):
  Calls prog 204 #[va] w λe w'=>e=.returned (.string (BA (cz a)))/\Below w.heap.size w w':=by
 have av:=dL (B:=base) d_ a;have hl:∀ s∈[cq.row va (nd base a) (ai (aa base (nd base a) a))],s.OK w:=by intro s hs;simp at hs;subst hs;exact⟨fQ,e9 _⟩
 unfold gZ at fQ;generalize nd base a=n at *;have ht:IF (gi (4*n) (a/base^0))=cz a:=by rw[ri,DX];refine aG6 ?_;rw[rj];exact av
 have tl:=aGI (gi (4*n) (a/base^0));rw[ht]at tl
 refine kU (Q:=λe w'=>e=.returned (.string (BA (cz a)))/\Below w.heap.size w w') mixed func204 [cq.row va n (ai (aa base n a))] hl 100 (N:=45) k_
  (rs:=[(aO.wr 7 .i64 (4*(n:Int)) ((4*n:Nat):Int) (by rw[dO];omega):aO prog (ae.at w) 45),.mkc f204 8 1 (4*n) 5 1 1 (vb 0) o_ (by simp[maxLen];omega) k_,.wr 11 .i64 ((n:Int)-1) ((n:Int)-1) (nU o_),.code 0 _ _ _ _ _ (aHc (n:=n) (a:=a) h1),.Rj f204 43 2 (4*n) (gi (4*n) (a/base^0)) (.row (gv (gi (4*n) (a/base^0))) 5 1) rfl rfl (IJ _ _) k_,tl.at 44])
  (v:=.string (BA (cz a))) (ms:=[]) k_ λao bP v' w' hc bh _ _=>⟨by rw[hc.eW rfl],bh.base⟩
section
variable{P:j_}{B:ae}{N:Nat}
def cq.apart(g:Nat):cq->Prop
 |.plain _=>True
 |.row v n _=>∀ b o c',v=.slice (some ⟨b,o,none⟩) n c'->b≠g
theorem Rl{w:h_}{g:Nat}:∀(l:List cq) (k:Nat) (ι:Map) (c:g_),aI B ι c w->(∀ j x b o cap,c j=some x->x.owns=true->ι j=some (.at b o cap)->b=g)->eA c k->(∀ s∈l,cq.OK w s)->(∀ s∈l,cq.apart g s)->
  ∃ ao c',Map.le ι ao/\aI B ao c' w/\eA c' (sk k l)/\cT c' (tB k l)/\(∀ j,j<k->c' j=c j)/\bJ (aG ao) (qZ k l) (l.map cq.real)/\k<=sk k l
 |[],k,ι,c,hm,ho,hu,_,_=>⟨ι,c,Map.le.refl _,hm,hu,λk x h=>(by cases h),λ_ _=>rfl,.nil,aZ _⟩
 |.plain v::l,k,ι,c,hm,ho,hu,hl,aY=>by obtain⟨ao,c',h1,h2,h3,h4,h5,h6,h7⟩:=Rl l k ι c hm ho hu (λs hs=>hl s (bB _ hs)) (λs hs=>aY s (bB _ hs));have hv:flat v=true:=hl _ (aN ..);exact⟨ao,c',h1,h2,h3,h4,h5,.cons (.same hv) h6,h7⟩
 |.row v n xs::l,k,ι,c,hm,ho,hu,hl,aY=>by
  obtain⟨hv,cA⟩:cZ w v n xs/\∀ u∈xs,flat u=true:=hl _ (aN ..);have hap:∀ b o c',v=.slice (some ⟨b,o,none⟩) n c'->b≠g:=aY _ (aN ..);obtain⟨bF,q1,q2,q3⟩:=xT hm (k:=k) (hu k (aZ _)) hv cA (λb o c' hb j y o' bf hj hy he=>hap b o c' hb (ho j y b o' bf hj hy he));have wj:∀ j x b o cap,aT c k (.view xs) j=some x->x.owns=true->bF j=some (.at b o cap)->b=g:=by
   intro j x b o cap hj hx hb;unfold aT at hj;by_cases bL:j=k
   ·rw[aq bL]at hj;injection hj with hj;subst hj;cases hx
   ·rw[al bL]at hj;obtain⟨lo,e1,_⟩:=hm.born j x hj;have:=q1 j lo e1;rw[hb]at this;injection this with this;subst this;exact ho j x b o cap hj hx e1
  have du:eA (aT c k (.view xs)) (k+1):=λj hj=>by unfold aT;rw[al o_];exact hu j o_
  obtain⟨ao,c',h1,h2,h3,h4,h5,h6,h7⟩:=Rl l (k+1) bF _ q2 wj du (λs hs=>hl s (bB _ hs)) (λs hs=>aY s (bB _ hs));refine⟨ao,c',q1.trans h1,h2,h3,λj x hj=>?_,λj hj=>?_,.cons (q3.mono h1) h6,by show k<=sk (k+1) l;omega⟩
  ·unfold tB ah at hj;split at hj
   ·rename_i hb;injection hj with hj;subst hj;rw[<-jK hb,h5 k o_];unfold aT;rw[aq rfl]
   ·exact h4 j x hj
  ·rw[h5 j o_];unfold aT;rw[al o_]
theorem aHd{g:Nat}{cells:ak}{c':Nat}{v:i_}(gV:P.follows .mixedOrders=true)(hf:P.funcs[f]?=some fn)
  (hg:w.heap[g]?=some (.cells cur ty (0,0))) (jf:cap<=maxLen) (bE:cur.size=cap*size) (hc:cur.toList.take cells.length=cells) (cA:∀ v∈cells,flat v=true) (zQ:∀ v∈cells',flat v=true) (hn:m<=c') (lP:cc+c'=cap)
  (l:List cq) (hl:∀ s∈l,cq.OK w s) (aY:∀ s∈l,cq.apart g s) (n:Nat) {N:Nat} (hN:N=((.slice (some ⟨0,off,some 7⟩) m cc:i_)::qZ 1 l).length+(fn.ntmps-((.slice (some ⟨0,off,some 7⟩) m cc:i_)::qZ 1 l).length))
  {rs:bK P (ae.v8 w g) N}
  (h:nO (gu (P:=P) fn n (.slice (some ⟨0,off,some 7⟩) m cc::qZ 1 l) ((0,.row cells ty size)::tB 1 l) (sk 1 l) rs) ((0,.row cells' ty size)::ms)=nP (gu fn n (.slice (some ⟨0,off,some 7⟩) m cc::qZ 1 l) ((0,.row cells ty size)::tB 1 l) (sk 1 l) rs) v ((0,.row cells' ty size)::ms))
  (hQ:∀ ao Rm v' w',ao 0=some (.at g 0 cap)->aG ao v v'->zO g w w'->(∃ fv,w'.heap[g]?=some (.cells fv ty (0,0))/\fv.size=cap*size/\fv.toList.take cells'.length=cells')->aI (ae.v8 w g) ao Rm w'->(∀ p∈ms,Rm p.1=some p.2)->Q (.returned v') w') :
  Calls P f (.slice (some ⟨g,off,none⟩) m c'::l.map cq.real).toArray w Q:=by
 have jJ:=QS hg jf bE hc cA;have Yt:dy (λ_=>none) 0 (.at g 0 cap) 0=some (.at g 0 cap):=fj _ _ _;obtain⟨ι,c,h1,h2,h3,h4,h5,h6,h7⟩:=Rl (g:=g) l 1 _ _ jJ (λj x b o cp hj _ hb=>by
   by_cases z8:j=0
   ·subst z8;rw[Yt]at hb;injection hb with hb;injection hb with hb _ _;exact hb.symm
   ·unfold dy at hb;rw[al z8]at hb;cases hb) (λk hk=>by unfold aT;rw[al o_]) hl aY
 have th:ι 0=some (.at g 0 cap):=h1 0 _ Yt;have ha:cT c ((0,.row cells ty size)::tB 1 l):=λk x hk=>by
  unfold ah at hk;split at hk
  ·rename_i hb;injection hk with hk;subst hk;rw[<-jK hb,h5 0 o_];unfold aT;rw[aq rfl]
  ·exact h4 k x hk
 have aHe:aG ι (.slice (some ⟨0,off,some 7⟩) m cc) (.slice (some ⟨g,off,none⟩) m c'):=by have:=aG.slc (off:=off) th hn lP;rwa[jv]at this
 refine tA gV hf hN n h (.cons aHe h6) h2 ha h3 λao bP v' w' hle jH hm dD=>?_;obtain⟨e1,e2⟩:=QT hm (hle 0 _ th) (dD _ (aN ..)) zQ;exact hQ ao bP v' w' (hle 0 _ th) jH e1 e2 hm λp hp=>dD p (bB _ hp)
theorem aHf{Rn:Nat}{cells:ak}{val:i_}(ho:da o.op=some x)(eB:fN P f=true)(hkk:k2≠k)(jJ:0<m)
  (cA:∀ v∈cells,flat v=true) (zQ:∀ v∈cells',flat v=true) (qf:flat val=true) (gB:x2.reads=true) (aHg:∀ v∈x2.cells,flat v=true) (aHh:n2=0->Rn=0)
  (h:∀ w g cap cur c' v2,w.heap[g]?=some (.cells cur ty (0,0))->m<=c'->cc+c'=cap->cap<=maxLen->cur.size=cap*size->cur.toList.take cells.length=cells->cZ w v2 n2 (x2.cells.take Rn)->(∀ b o c,v2=.slice (some ⟨b,o,none⟩) n2 c->b≠g)->Calls P f #[.slice (some ⟨g,off,none⟩) m c',v2] w λe w'=>e=.returned val/\zO g w w'/\∃ fv,w'.heap[g]?=some (.cells fv ty (0,0))/\fv.size=cap*size/\fv.toList.take cells'.length=cells') :
  ct P B o [.func (.func f) #[] #[],.slice (some ⟨k,off,some 7⟩) m cc,.slice (some ⟨k2,0,some 7⟩) n2 0] [(k,some (.row cells ty size)),(k2,some x2)] val [(k,.row cells' ty size)]:=by
 refine jy (fi:=[]) (ca:=[]) ho eB λι c w hm jA args' aU=>?_;have hk:c k=some (.row cells ty size):=jA _ (aN ..);have fT:c k2=some x2:=jA _ (bB _ (aN ..));obtain⟨v,v2,rfl,hv,gW⟩:=iH aU;have hr:=nQ hm fT gB aHg aHh gW;rw[lv]at hr;rcases hv.gK rfl with ⟨_,h0,_⟩|⟨g,oo,cap,c',hb,kQ,lP,he⟩
 ·omega
 ·dsimp only at hb he;obtain⟨l,q1,q2⟩:=hm.born k _ hk;rw[hb]at q1;injection q1 with q1;subst q1;rcases q2 with q2|⟨b,bf,cur,e1,lk,dC,e7,jI⟩
  ·cases q2.1
  ·injection e1 with e1 e2 e3;subst e1;subst e2;subst e3;rw[jv]at he;rw[he];have aY:∀ b o c,v2=.slice (some ⟨b,o,none⟩) n2 c->b≠g:=by
    rintro b o c1 rfl rfl
    rcases gW.gK rfl with ⟨_,_,_,_,e⟩|⟨b',o',bf,c2,gD,_,_,e⟩
    ·cases e
    ·injection e with e _ _;injection e with e;injection e with e _ _;subst e;simp only[Obj.reads,qV]at gB;rcases gB with gB|gB
     ·exact hkk (hm.inj k2 k x2 _ _ _ _ _ _ fT gB hk rfl gD hb)
     ·exact(hm.seen k2 x2 _ _ _ fT gB gD).2 k _ _ _ hk rfl hb
   refine(h w g cap cur c' v2 lk kQ lP dC e7 (mD jI cA) hr aY).mono ?_
   rintro e w' ⟨rfl,pj,fv,p1,p2,p3⟩
   refine⟨ι,val,rfl,Map.le.refl _,.same qf,hm.write hk rfl hb pj.os pj.tape pj.output pj.size (λj hj DT=>pj.block j hj DT) (.inr ⟨g,cap,fv,rfl,p1,dC,p2,?_⟩) n_ rfl⟩;rw[p3];exact j7 zQ
end
section
variable{B U V n T v1 v2 u2:Nat}
structure lB(B n U V T u2 v1 v2:Nat):Prop where
 hB:2<=B
 hU:U<V*B
 hT:T=U/B^(n+1)
 hu:u2=U/B^n%B
 j8:v1=V/B^(n+1)
 gW:v2=V/B^n%B
 top:B<=2*v1
 B6:v1<B
theorem lB.pow(h:lB B n U V T u2 v1 v2):0<B^n:=cE (by have:=h.hB;omega)
theorem lB.two(h:lB B n U V T u2 v1 v2):U/B^n=T*B+u2/\V/B^n=v1*B+v2:=by rw[h.hT,h.hu,h.j8,h.gW];exact⟨vV U n,vV V n⟩
theorem lB.aHi(h:lB B n U V T u2 v1 v2)(hq:q*v1<=T->False):U/V<q:=by
 have qh:0<V:=by
  rcases nr V with e|e
  ·have:=h.hU;rw[e]at this;omega
  ·exact e
 refine Nat.lt_of_not_le λhle=>hq ?_;have h1:q*V<=U:=(B7 qh).1 hle;rw[h.hT,h.j8];have hp:0<B^(n+1):=cE (by have:=h.hB;omega);rw[B7 hp];have h2:V/B^(n+1)*B^(n+1)<=V:=B8 _ _
 calc q*(V/B^(n+1))*B^(n+1)=q*(V/B^(n+1)*B^(n+1)):=by rw[fq]
  _<=q*V:=iX _ h2
  _<=U:=h1
structure Aa(U V T v1 q r:Nat):Prop where
 eq:q*v1+r=T
 le:U/V<=q
theorem lB.start(h:lB B n U V T u2 v1 v2):Aa U V T v1 (T/v1) (T%v1):=by
 refine⟨by rw[cH];exact iP T v1,?_⟩;have hv:0<v1:=by have:=h.top;have:=h.hB;omega
 have:=h.aHi (q:=T/v1+1) λhle=>by have:=(B7 hv).2 hle;omega
 omega
theorem lB.small(h:lB B n U V T u2 v1 v2):U/V<B:=by
 have qh:0<V:=by
  rcases nr V with e|e
  ·have:=h.hU;rw[e]at this;omega
  ·exact e
 exact(gY qh).2 (by rw[cH];exact h.hU)
theorem lB.aHj(h:lB B n U V T u2 v1 v2)(g:Aa U V T v1 q r)(hc:B<=q\/r*B+u2<q*v2):U/V<q:=by
 rcases hc with hc|hc
 ·exact cy h.small hc
 ·have qh:0<V:=by
   rcases nr V with e|e
   ·have:=h.hU;rw[e]at this;omega
   ·exact e
  rw[gY qh];obtain⟨e1,e2⟩:=h.two;have hp:=h.pow;have h1:U/B^n<q*(V/B^n):=by rw[e1,e2,<-g.eq,nS,e8,<-fq];omega
  have h2:U<q*(V/B^n)*B^n:=(gY hp).1 h1;rw[fq]at h2;exact cy h2 (iX _ (B8 _ _))
theorem lB.less(h:lB B n U V T u2 v1 v2)(g:Aa U V T v1 q r)(hc:B<=q\/r*B+u2<q*v2):0<q/\Aa U V T v1 (q-1) (r+v1):=by have av:=h.aHj g hc;obtain⟨p,rfl⟩:∃ p,q=p+1:=⟨q-1,(Nat.sub_add_cancel (Nat.one_le_of_lt av)).symm⟩;refine⟨by omega,?_,Nat.le_of_lt_succ av⟩;have:=g.eq;rw[e8,ph]at this;rw[Mk];omega
theorem lB.fin(h:lB B n U V T u2 v1 v2)(g:Aa U V T v1 q r)(hc:(q<B/\q*v2<=r*B+u2)\/B<=r):q<B/\q*V<U+V:=by
 obtain⟨e1,e2⟩:=h.two;have hp:=h.pow;have ik:B^(n+1)=B^n*B:=dh ..;have hVd:=iP V (B^n);have hVm:=cC V hp;rcases hc with ⟨hq,hc⟩|hr
 ·refine⟨hq,?_⟩;have h1:q*(V/B^n)<=U/B^n:=by rw[e1,e2,<-g.eq,nS,e8,<-fq];omega
  have h2:q*(V/B^n)*B^n<=U:=(B7 hp).1 h1;have h3:q*V=q*(V/B^n)*B^n+q*(V%B^n):=by rw[fq,<-nS,cH (V/B^n),hVd]
  have h4:q*(V%B^n)<V:=by
   have h5:q*(V%B^n)<=(B-1)*B^n:=BS o_ (jm hVm);have h6:v1*B^(n+1)<=V:=by rw[h.j8];exact B8 _ _
   have h7:1*B^(n+1)<=v1*B^(n+1):=eR _ (by have:=h.top;have:=h.hB;omega);have h8:(B-1)*B^n<B^(n+1):=by rw[ik,cH (B^n)];exact Ab (by have:=h.hB;omega) hp
   omega
  omega
 ·have wk:V<(v1+1)*B^(n+1):=by rw[h.j8];have jB:0<B^(n+1):=cE (by have:=h.hB;omega);exact(gY jB).1 (F5 _)
  have jB:0<B^(n+1):=cE (by have:=h.hB;omega);have hTU:T*B^(n+1)<=U:=by rw[h.hT];exact B8 _ _
  have Yu:T<(v1+1)*B:=by rw[h.hT,gY jB];refine cy h.hU ?_;rw[fq,cH B,<-fq];exact eR _ (jm wk)
  have hqB:q<B:=by
   have h1:q*v1<B*v1:=by have:=g.eq;rw[e8,ph,cH v1]at Yu;omega
   exact aHk h1
  refine⟨hqB,?_⟩;have h2:q*V<=q*((v1+1)*B^(n+1)):=iX _ (jm wk);have h3:q*((v1+1)*B^(n+1))<=T*B^(n+1):=by rw[<-fq];refine eR _ ?_;have:=g.eq;rw[nS,fY];omega
  have qh:0<V:=by
   rcases nr V with e|e
   ·have:=h.hU;rw[e]at this;omega
   ·exact e
  omega
theorem lB.aHl(h:lB B n U V T u2 v1 v2)(r:Nat):B<=r+v1+v1:=by have:=h.top;omega
theorem lB.aHm(h:lB B n U V T u2 v1 v2)(g:Aa U V T v1 q r):q<=B*2+1:=by
 have jB:0<B^(n+1):=cE (by have:=h.hB;omega);have wk:V<(v1+1)*B^(n+1):=by rw[h.j8];exact(gY jB).1 (F5 _)
 have Yu:T<(v1+1)*B:=by rw[h.hT,gY jB];refine cy h.hU ?_;rw[fq,cH B,<-fq];exact eR _ (jm wk)
 have hv:0<v1:=by have:=h.top;have:=h.hB;omega
 have h1:q*v1<(B*2)*v1:=by
  have:=g.eq;have h2:(v1+1)*B<=(B*2)*v1:=by
   rw[e8,ph,fq,cH v1];have:B*1<=B*v1:=iX _ hv;have e:B*(2*v1)=B*v1+B*v1:=by rw[Nat.two_mul,nS]
   omega
  omega
 have:=aHk h1;omega
def nt(B q V i:Nat):Nat:=q*(V%B^i)/B^i
theorem aHn:nt B q V 0=0:=by simp[nt,su]
theorem Yv(hB:0<B)(q V i:Nat):nt B q V i+q*(V/B^i%B)=q*(V%B^(i+1))/B^i:=by have hp:0<B^i:=cE hB;rw[oF,nS,<-fq,oG _ _ hp];rfl
theorem aHo(hB:0<B)(q V i:Nat):(nt B q V i+q*(V/B^i%B))/B=nt B q V (i+1):=by rw[Yv hB,kg,<-dh];rfl
theorem Yw(hB:0<B)(q V i:Nat):(nt B q V i+q*(V/B^i%B))%B=q*V/B^i%B:=by
 have hp:0<B^i:=cE hB;rw[Yv hB];have e:q*V=q*(V%B^(i+1))+(q*(V/B^(i+1))*B)*B^i:=by
  have h1:=iP V (B^(i+1));have h2:q*(V/B^(i+1))*B*B^i=q*(B^(i+1)*(V/B^(i+1))):=by rw[dh];simp only[cH,lX,fq]
  rw[h2,<-nS,lW,h1]
 rw[e,oG _ _ hp,B5]
theorem Yx(hB:0<B)(hq:q<B)(V i:Nat):nt B q V i<B:=by have hp:0<B^i:=cE hB;unfold nt;rw[gY hp];have h1:q*(V%B^i)<=q*B^i:=iX _ (jm (cC _ hp));exact eP h1 (Ab hq hp)
end
section
variable{B:Nat}
def fR(B j R D:Nat):Nat:=R%B^j+D*B^j
theorem wm(hB:0<B)(j R D i:Nat):fR B j R D/B^(j+i)%B=D/B^i%B:=by have hp:0<B^j:=cE hB;unfold fR;rw[dX,<-kg,oG _ _ hp,lq (cC _ hp),jv]
theorem Ro(hB:0<B){t:Nat}(ht:t<j)(R D:Nat):fR B j R D/B^t%B=R/B^t%B:=by
 unfold fR;obtain⟨s,rfl⟩:∃ s,j=t+1+s:=⟨j-(t+1),by omega⟩;have hp:0<B^t:=cE hB;have e1:R%B^(t+1+s)/B^t%B=R/B^t%B:=by
  have e:B^(t+1+s)=B^t*(B*B^s):=by rw[dX,dh,fq]
  rw[e,zU,ID]
 have e2:D*B^(t+1+s)=(D*B^s*B)*B^t:=by rw[dX,dh];simp only[cH,lX,fq]
 rw[e2,oG _ _ hp,B5,e1]
theorem F6(hB:0<B)(R:Nat)(h:D<B^m):fR B j R D<B^(j+m):=by have hp:0<B^j:=cE hB;unfold fR;have h1:=cC R hp;have h2:(D+1)*B^j<=B^m*B^j:=eR _ h;rw[e8,ph]at h2;rw[dX,cH (B^j)];omega
theorem Yy(hB:0<B)(j R D E:Nat):fR B j (fR B j R D) E=fR B j R E:=by unfold fR;rw[B5,Nat.mod_mod]
theorem aHp(j R:Nat):fR B j R (R/B^j)=R:=by unfold fR;rw[cH,lW];exact iP R (B^j)
theorem F7(j R i:Nat):R/B^(j+i)%B=R/B^j/B^i%B:=by rw[dX,kg]
theorem Ml(hB:0<B)(L j R D:Nat):cQ B L j (fR B j R D) R=aa B L R:=by
 unfold cQ aa;refine vM λt _=>?_;by_cases h:t<j
 ·rw[aq h,Ro hB h]
 ·rw[al h]
theorem D6(hB:0<B){L R S:Nat}(hR:R<B^m)(hS:S<B^m):cQ B L m S R=aa B L S:=by
 unfold cQ aa;refine vM λt _=>?_;by_cases h:t<m
 ·rw[aq h]
 ·rw[al h,qe hR o_ hB,qe hS o_ hB]
def fC(B m U V q:Nat):Nat:=(U+B^(m+1)-q*V)%B^(m+1)
section
variable{m U V q:Nat}
theorem Rp(hB:0<B):fC B m U V q<B^(m+1):=cC _ (cE hB)
theorem Yz(hB:0<B)(h:i<k):a%B^k/B^i%B=a/B^i%B:=by have:=Ro hB h a 0;unfold fR at this;rw[kT,iJ]at this;exact this
theorem aHq(hB:0<B)(h:i<k):(a+B^k)/B^i%B=a/B^i%B:=by
 have e:B^k=B^(k-i-1)*B*B^i:=by rw[<-dh,<-dX];congr 1;omega
 rw[e,oG _ _ (cE hB),B5]
theorem aHr(h:i<=k):(a+B^k)%B^i=a%B^i:=by
 have e:B^k=B^i*B^(k-i):=by rw[<-dX];congr 1;omega
 rw[e,DQ]
def nV(B U V q i:Nat):Nat:=kh B U (q*V) i
theorem aHs(h:i<=k):kh B (a+B^k) b i=kh B a b i:=by unfold kh;rw[aHr h]
theorem aHt(hB:0<B)(hq:q*V<=U+B^(m+1))(hi:i<=m):
  (U/B^i%B+2*B-(nt B q V i+q*(V/B^i%B))%B-nV B U V q i)%B=fC B m U V q/B^i%B:=by
 unfold fC nV;rw[Yz hB o_,Yw hB,<-aHq hB (show i<m+1 by omega),<-aHs (show i<=m+1 by omega)];exact QP hB hq i
theorem aHu(hB:0<B)(i:Nat):(if U/B^i%B<(nt B q V i+q*(V/B^i%B))%B+nV B U V q i then 1 else 0)=nV B U V q (i+1):=by unfold nV;rw[Yw hB];exact QO hB _ _ _
theorem aHv(hB:0<B)(hq:q<B)(hV:V<B^m):q*V<B^(m+1):=by rw[dh,cH (B^m)];exact eP (eR _ (jm hq)) (XG hV hB)
theorem aHw(hB:0<B)(hq:q<B)(hV:V<B^m)(hU:U<V*B):nV B U V q (m+1)=if U<q*V then 1 else 0:=by
 have B9:U<B^(m+1):=by rw[dh];exact cy hU (eR _ (jm hV))
 unfold nV kh;rw[dG B9,dG (aHv hB hq hV)]
theorem YA(hB:0<B)(hV:V<B^m)(hU:U<V*B)(hle:U/V<=q)(h:¬U<q*V):q=U/V/\fC B m U V q=U%V:=by
 have B9:U<B^(m+1):=by rw[dh];exact cy hU (eR _ (jm hV))
 have qh:0<V:=by
  rcases nr V with e|e
  ·rw[e]at hU;omega
  ·exact e
 have e:q=U/V:=by have:=(B7 qh).2 (IK.1 h);omega
 refine⟨e,?_⟩;unfold fC;have h1:=iP U V;rw[cH]at h1;rw[<-e]at h1;have h2:U+B^(m+1)-q*V=U%V+B^(m+1):=by omega
 rw[h2,IL,dG (eP (Iv _ _) B9)]
theorem YB(hB:0<B)(hV:V<B^m)(hU:U<V*B)(hb:q*V<U+V)(h:U<q*V):q=U/V+1/\(fC B m U V q+V)%B^(m+1)=U%V:=by
 have B9:U<B^(m+1):=by rw[dh];exact cy hU (eR _ (jm hV))
 have qh:0<V:=by
  rcases nr V with e|e
  ·rw[e]at hU;omega
  ·exact e
 have oJ:0<q:=by
  rcases nr q with e|e
  ·rw[e,kT]at h;omega
  ·exact e
 obtain⟨p,rfl⟩:∃ p,q=p+1:=⟨q-1,by omega⟩;rw[e8,ph]at h hb;have e:p=U/V:=by have h1:p<=U/V:=(B7 qh).2 o_;have h2:U/V<p+1:=(gY qh).2 (by rw[e8,ph];exact h);omega
 refine⟨by rw[e],?_⟩;unfold fC;have h1:=iP U V;rw[cH,<-e]at h1;rw[Nat.mod_add_mod,e8,ph];have hpV:p*V<=U:=by omega
 have Rq:V<=B^(m+1):=c9 (jm hV) (cX hB o_);have h2:U+B^(m+1)-(p*V+V)+V=U%V+B^(m+1):=by omega
 rw[h2,IL,dG (eP (Iv _ _) B9)]
theorem Rr(hB:0<B)(hi:i<=m):(D/B^i%B+V/B^i%B+eC B D V i)%B=(D+V)%B^(m+1)/B^i%B:=by rw[Yz hB o_];exact FK hB D V i
end
theorem YC(hB:0<B)(A V j:Nat):fR B j (A%(V*B^(j+1))) (A%(V*B^(j+1))/B^j%V)=A%(V*B^j):=by
 have hp:0<B^j:=cE hB;have h1:A%(V*B^j)=A%(V*B^(j+1))%(B^j*V):=by rw[cH (B^j),dh,<-fq,ID]
 rw[h1];generalize A%(V*B^(j+1))=R;rw[LO];unfold fR;rw[cH (B^j) (_%V)]
theorem YD(A V j:Nat):A%(V*B^(j+1))/B^j/V=A/V/B^j%B:=by rw[kg,dh,<-fq,cH (B^j) V,zU,kg]
theorem YE{V:Nat}(hB:0<B)(hV:0<V)(A j:Nat):A%(V*B^(j+1))/B^j<V*B:=by have hp:0<B^j:=cE hB;rw[gY hp,fq,cH B,<-dh];exact cC _ (qi hV (cE hB))
theorem YF{B X:Nat}(hB:0<B)(hk:∃ c,B=2^k*c):((X/B^(i+1)%B*B+X/B^i%B)/2^k)%B=X/2^k/B^i%B:=by
 obtain⟨c,hc⟩:=hk;have h2:0<2^k:=cE d_;have e1:X/B^i=X/B^(i+1)*B+X/B^i%B:=vV X i;have e2:X/B^(i+1)=X/B^(i+1)/B*B+X/B^(i+1)%B:=by rw[cH];exact(iP _ _).symm
 have e3:X/2^k/B^i=X/B^i/2^k:=by rw[kg,kg,cH]
 rw[e3];generalize X/B^i%B=x0 at *;generalize X/B^i=Y at *;generalize X/B^(i+1)%B=x1 at *;generalize X/B^(i+1)/B=H at *;generalize X/B^(i+1)=Z at *;subst e1;subst e2;have e4:(H*B+x1)*B+x0=(x1*B+x0)+H*B*c*2^k:=by
  rw[e8];have:H*B*c*2^k=H*B*B:=by rw[fq (H*B),cH c,<-hc]
  omega
 have e5:H*B*c=H*c*B:=by rw[fq,cH B c,<-fq]
 rw[e4,oG _ _ h2,e5,B5]
end
section
variable{Bs:ae}{N:Nat}
def pv(x:Obj)(a:Nat):Prop:=x.reads=true/\∃ M,nd base a<=M/\x.cells=ai (aa base M a)
theorem Ac(hm:aI Bs ι c w){x:Obj}{v:i_}(hk:c k=some x)(hx:pv x a)(hv:aG ι (sl k (nd base a)) v):gZ w v a:=by
 obtain⟨h1,M,h2,h3⟩:=hx;have:=nQ (len:=nd base a) hm hk h1 (by rw[h3];exact e9 _) (λh=>h) hv;rw[h3,lv]at this;have e:(ai (aa base M a)).take (nd base a)=ai (aa base (nd base a) a):=by unfold ai;rw[<-BE,Ir h2]
 rw[e]at this;exact this
def tG(a:Nat):Obj:=.row (ai (aa base (nd base a) a)) 172 1
theorem rp(a:Nat):pv (tG a) a:=⟨rfl,_,aZ _,rfl⟩
theorem wo(a:Nat):pv (.view (ai (aa base (nd base a) a))) a:=⟨rfl,_,aZ _,rfl⟩
theorem Mm{y:m_}{c:Nat}(ho:da o.op=some y)(eB:fN prog f=true)(dw:∀ v∈args,flat v=true)
  (h:∀ w,Calls prog f args.toArray w λe w'=>∃ v,e=.returned v/\jk w w' v c/\Below w.heap.size w w') (k:Nat) :
  ct prog Bs o (.func (.func f) #[] #[]::args) [(k,none)] (sl k (nd base c)) [(k,tG c)]:=by
 refine jy (fi:=[]) (ca:=[]) ho eB λι cc w hm hn args' aU=>?_;rw[jg,gO]at aU;rw[mD aU dw];refine(h w).mono ?_
 rintro e w' ⟨v,rfl,h1,h2⟩
 obtain⟨ao,q1,q2,q3⟩:=DN hm h2 (k:=k) (hn _ (aN ..)) h1 (e9 _);exact⟨ao,v,rfl,q1,q3,q2⟩
theorem Rt{y:m_}{c:Nat}(ho:da o.op=some y)(eB:fN prog f=true)(hx:pv x1 a)(gB:pv x2 b)
  (h:∀ w va vb,gZ w va a->gZ w vb b->Calls prog f #[va,vb] w λe w'=>∃ v,e=.returned v/\jk w w' v c/\Below w.heap.size w w') (k:Nat) :
  ct prog Bs o [.func (.func f) #[] #[],sl k1 (nd base a),sl k2 (nd base b)] [(k1,some x1),(k2,some x2),(k,none)] (sl k (nd base c)) [(k,tG c)]:=by
 refine jy (fi:=[]) (ca:=[]) ho eB λι cc w hm hn args' aU=>?_;rw[jg,gO]at aU;obtain⟨va,vb,rfl,hv,gW⟩:=iH aU;refine(h w va vb (Ac hm (hn (k1,some x1) s_) hx hv) (Ac hm (hn (k2,some x2) s_) gB gW)).mono ?_
 rintro e w' ⟨v,rfl,h1,h2⟩
 obtain⟨ao,q1,q2,q3⟩:=DN hm h2 (k:=k) (hn (k,none) s_) h1 (e9 _);exact⟨ao,v,rfl,q1,q3,q2⟩
theorem F8{y:m_}(ho:da o.op=some y)(eB:fN prog f=true)(hx:pv x1 a)(QU:∀ v∈post,flat v=true)(zz:flat res=true)
  (h:∀ w va,gZ w va a->Calls prog f (va::post).toArray w λe w'=>e=.returned res/\Below w.heap.size w w') :
  ct prog Bs o (.func (.func f) #[] #[]::sl k1 (nd base a)::post) [(k1,some x1)] res []:=by
 refine jy (fi:=[]) (ca:=[]) ho eB λι cc w hm hn args' aU=>?_;rw[jg,gO]at aU;cases aU with
 |cons hv hp=>
 rw[mD hp QU];refine(h w _ (Ac hm (hn _ (aN ..)) hx hv)).mono ?_
 rintro e w' ⟨rfl,h2⟩
 exact⟨ι,res,rfl,Map.le.refl _,.same zz,hm.call h2⟩
theorem Mn{y:m_}(ho:da o.op=some y)(eB:fN prog f=true)(hx:pv x1 a)(gB:pv x2 b)(zz:flat res=true)
  (h:∀ w va vb,gZ w va a->gZ w vb b->Calls prog f #[va,vb] w λe w'=>e=.returned res/\Below w.heap.size w w') :
  ct prog Bs o [.func (.func f) #[] #[],sl k1 (nd base a),sl k2 (nd base b)] [(k1,some x1),(k2,some x2)] res []:=by
 refine jy (fi:=[]) (ca:=[]) ho eB λι cc w hm hn args' aU=>?_;rw[jg,gO]at aU;obtain⟨va,vb,rfl,hv,gW⟩:=iH aU;refine(h w va vb (Ac hm (hn (k1,some x1) s_) hx hv) (Ac hm (hn (k2,some x2) s_) gB gW)).mono ?_
 rintro e w' ⟨rfl,h2⟩
 exact⟨ι,res,rfl,Map.le.refl _,.same zz,hm.call h2⟩
end
def oK(a:Nat):Value:=.string (BA (cz a))
def Ad(neg:Bool)(a:Nat):Value:=.agg #[.bool (neg&&decide (a≠0)),oK a]
theorem qj(a:Nat):((BA (cz a)).toList==(ByteArray.mk #[]).toList)=decide (a=0):=by rw[DU,pe];exact aG3
theorem YG{neg:Bool}(fQ:gZ w va a)(h1:nd base a<35184372088832):
  Calls prog 156 #[va,.bool neg] w λe w'=>e=.returned (Ad neg a)/\Below w.heap.size w w':=by
 have hl:∀ s∈[cq.row va (nd base a) (ai (aa base (nd base a) a)),.plain (.bool neg)],s.OK w:=by
  intro s hs;simp at hs;rcases hs with rfl|rfl
  ·exact⟨fQ,e9 _⟩
  ·exact rfl
 cases neg with
 |false=>
  exact kU (Q:=λe w'=>e=.returned (Ad false a)/\Below w.heap.size w w') mixed func156 [cq.row va (nd base a) (ai (aa base (nd base a) a)),.plain a_] hl 100 (N:=15) k_
   (rs:=[(.step 7 (au f156 7) _ _ _ _ (F8 (y:=.func 204) (k1:=0) (post:=[]) k_ k_ (wo a) n_ rfl λw va h=>Ys h h1):aO prog (ae.at w) 15)])
   (v:=.agg #[.bool false,oK a]) (ms:=[]) k_ λao bP v' w' hc bh _ _=>⟨by rw[hc.eW rfl];rfl,bh.base⟩
 |true=>
  have e:(!((BA (cz a)).toList==(ByteArray.mk #[]).toList))=decide (a≠0):=by rw[qj];simp
  exact kU (Q:=λe w'=>e=.returned (Ad true a)/\Below w.heap.size w w') mixed func156 [cq.row va (nd base a) (ai (aa base (nd base a) a)),.plain b_] hl 100 (N:=15) k_
   (rs:=[(.step 7 (au f156 7) _ _ _ _ (F8 (y:=.func 204) (k1:=0) (post:=[]) k_ k_ (wo a) n_ rfl λw va h=>Ys h h1):aO prog (ae.at w) 15),.rw 11 (.bool (!((BA (cz a)).toList==(ByteArray.mk #[]).toList))) (.bool (decide (a≠0))) (by rw[e])])
   (v:=.agg #[.bool (decide (a≠0)),oK a]) (ms:=[]) k_ λao bP v' w' hc bh _ _=>⟨by rw[hc.eW rfl];simp[Ad],bh.base⟩
section
variable{Bs:ae}{n a k:Nat}
theorem aHx{B L X:Nat}(h:i+1<L)(h0:d=n2/B^i%B)(h1:e=n2/B^(i+1)%B)(ho:∀ t,t≠i->t≠i+1->X/B^t%B=n2/B^t%B):((aa B L X).set i d).set (i+1) e=aa B L n2:=by
 refine Ru λt=>?_;rw[List.getElem?_set,List.getElem?_set];by_cases ht:t<L
 ·rw[dV ht,dV ht];by_cases h2:i+1=t
  ·subst h2;rw[aq rfl,aq (by simp[nR];omega),h1]
  ·rw[al h2];by_cases h3:i=t
   ·subst h3;rw[aq rfl,aq (by rw[nR];omega),h0]
   ·rw[al h3,ho t (λe=>h3 e.symm) (λe=>h2 e.symm)]
 ·have e1:(aa B L X)[t]?=none:=xH (by rw[nR];omega);have e2:(aa B L n2)[t]?=none:=xH (by rw[nR];omega);rw[e1,e2,al o_,al o_]
theorem aHy{x c k:Nat}(hk:k<=31)(hx:x<base)(hc:c<2^k):(c||| (x*2^k%base))=(c+x*2^k)%base/\(c+x*2^k)/base=x*2^k/base/\x*2^k/base<2^k:=by
 obtain⟨m,hm⟩:∃ m,base=m*2^k:=⟨2^(32-k),by rw[<-dX,show 32-k+k=32 by omega]⟩;have hp:0<2^k:=cE d_;have qk:0<m:=by
  rcases nr m with e|e
  ·rw[e,kT]at hm;exact absurd hm d_
  ·exact e
 have e1:x*2^k%base=x%m*2^k:=by rw[hm,YH]
 have e2:x*2^k/base=x/m:=by rw[hm,YI _ _ hp]
 have e3:(c+x*2^k)/base=x/m:=by rw[hm,cH m,<-kg,oG _ _ hp,lq hc,jv]
 have e4:(c+x*2^k)%base=c+x%m*2^k:=by
  have h1:=iP (c+x*2^k) base;rw[e3]at h1;have h2:=iP x m;have h3:x*2^k=base*(x/m)+x%m*2^k:=by
   rw[hm]
   conv=>lhs;rw[<-h2]
   rw[e8,Ae]
  generalize base*(x/m)=z at h1 h3;omega
 refine⟨?_,e3.trans e2.symm,?_⟩
 ·have:=L5 (i:=k) hc (x%m);rw[e1,e4,Nat.or_comm,cH,<-this];omega
 ·rw[e2,gY qk,cH,<-hm];exact hx
theorem aHz(hk:k<=31):(a%base^i*2^k)/base^i%base=(a%base^i*2^k)/base^i/\(a%base^i*2^k)/base^i<2^k:=by
 have hp:0<base^i:=cE d_;have h1:(a%base^i*2^k)/base^i<2^k:=by rw[gY hp,cH];exact XG (cC _ hp) (cE d_)
 refine⟨dG (cy h1 ?_),h1⟩;exact c9 (cX d_ hk) d_
theorem aHA:(a%base^(i+1)*2^k)/base^i=(a%base^i*2^k)/base^i+a/base^i%base*2^k:=by have hp:0<base^i:=cE d_;rw[oF,e8,Ae,oG _ _ hp]
def rq(n a k i:Nat):aL:=[(14,vI i),(13,vI n),(12,sl 0 n),(5,sl 1 (n+1)),(1,vI k)]
def nW(n a k i:Nat):aC:=[(0,.view (ai (aa base n a))),(1,.row (ai (aa base (n+1) (a%base^i*2^k))) 172 1)]
theorem Rv(hi:i<n)(hk:k<=31)(h63:n<35184372088832):
  ag prog Bs 40 (aE (af f233 0)) (rq n a k i) (nW n a k i) 2 ⟨.normal,rq n a k (i+1),nW n a k (i+1),2⟩:=by
 have hx:=gG (B:=base) d_ a i;obtain⟨s1,s2⟩:=aHz (a:=a) (k:=k) (i:=i) hk;have s3:=aHA (a:=a) (k:=k) (i:=i);have iA:(ai (aa base (n+1) (a%base^i*2^k)))[i]?=some (aM ((a%base^i*2^k)/base^i)):=by rw[<-s1];exact ki (dV o_)
 have iW:∀ d e,d=(a%base^(i+1)*2^k)/base^i%base->e=(a%base^(i+1)*2^k)/base^(i+1)%base->((aa base (n+1) (a%base^i*2^k)).set i d).set (i+1) e=aa base (n+1) (a%base^(i+1)*2^k):=by
  intro d e hd he;refine aHx o_ hd he λt h1 h2=>?_;rcases eQ t i with h|h
  ·have e1:a%base^(i+1)*2^k=fR base i (a%base^i*2^k) ((a%base^i*2^k)/base^i+a/base^i%base*2^k):=by unfold fR;rw[oF,e8,e8,<-tt,Nat.mod_add_div',Ae]
   rw[e1,Ro d_ h]
  ·have hp:0<base^i:=cE d_;have b1:a%base^i*2^k<base^(i+1):=by rw[dh];exact YJ (cC _ hp) (c9 (cX d_ hk) d_) d_
   have b2:a%base^(i+1)*2^k<base^(i+2):=by rw[dh _ (i+1)];exact YJ (cC _ (cE d_)) (c9 (cX d_ hk) d_) d_
   rw[qe b1 o_ d_,qe b2 o_ d_]
 generalize hc:(a%base^i*2^k)/base^i=c at *;generalize F9:a/base^i%base=x at *;obtain⟨t1,t2,t3⟩:=aHy hk hx s2;have hd:(c||| x*2^k%base)=(a%base^(i+1)*2^k)/base^i%base:=by rw[s3,t1]
 have he:x*2^k/base=(a%base^(i+1)*2^k)/base^(i+1)%base:=by
  have e5:∀ Z:Nat,Z/base^(i+1)=Z/base^i/base:=λZ=>by rw[dh,kg]
  rw[e5,s3,t2];exact(dG (cy t3 (c9 (cX d_ hk) d_))).symm
 have iW:=iW _ _ hd he;have h64:x*2^k<18446744073709551616:=by have h1:x*2^k<=(base-1)*2^31:=BS o_ (cX d_ hk);exact eP h1 d_
 have w25:IntKind.u32.wrap ((x:Int)*2^(min k IntKind.u32.bits))=((x*2^k%base:Nat):Int):=by
  have e:(x:Int)*2^k=((x*2^k:Nat):Int):=by simp
  rw[show min k IntKind.u32.bits=k from mE (by show k<=32;omega),mI,e];unfold base;omega
 have w34:IntKind.u64.wrap ((x:Int)*2^(min k IntKind.u64.bits))=((x*2^k:Nat):Int):=by
  have e:(x:Int)*2^k=((x*2^k:Nat):Int):=by simp
  rw[show min k IntKind.u64.bits=k from mE (by show k<=64;omega),jz,e];omega
 have q1:x*2^k%base<base:=cC _ d_;have q2:c<base:=cy s2 (c9 (cX d_ hk) d_);have q3:x*2^k/base<base:=cy t3 (c9 (cX d_ hk) d_);have IM:eM prog 172 (ai (aa base (n+1) (a%base^i*2^k))) i (aM (c||| x*2^k%base))=some (ai ((aa base (n+1) (a%base^i*2^k)).set i (c||| x*2^k%base))):=by rw[xY _ _ _ (by simp[ai,nR];omega),xZ]
 have Rw:eM prog 172 (ai ((aa base (n+1) (a%base^i*2^k)).set i (c||| x*2^k%base))) (i+1) (aM (x*2^k/base))=some (ai (aa base (n+1) (a%base^(i+1)*2^k))):=by rw[xY _ _ _ (by simp[ai,nR];omega),xZ,iW]
 generalize x*2^k=y at *;generalize kD:(c||| y%base)=d at *;exact ay [.lt 15 i n true (by simp[hi]),.ix f233 17 0 n i hi k_,.ld f233 18 172 0 i (.view (ai (aa base n a))) (aM x) rfl (by rw[ft,<-F9];exact ki (dV hi)) k_,.ix f233 21 1 (n+1) i o_ k_,.ld f233 22 172 1 i (.row (ai (aa base (n+1) (a%base^i*2^k))) 172 1) (aM c) rfl (by rw[ft];exact iA) k_,.shl f233 25 .u32 (x:Int) ((y%base:Nat):Int) k w25 k_,.quo 26 .u32 _ ((d:Nat):Int) ((QR q2 q1).trans (by rw[kD])),.ix f233 27 1 (n+1) i o_ k_,.st f233 100027 172 1 i (.row (ai (aa base (n+1) (a%base^i*2^k))) 172 1) (aM d) (.row (ai ((aa base (n+1) (a%base^i*2^k)).set i d)) 172 1) rfl IM rfl k_,.sum 30 i 1 (i+1) rfl o_,.wr 32 .u64 (x:Int) (x:Int) (by rw[jz];unfold base at hx;omega),.shl f233 34 .u64 (x:Int) (y:Int) k w34 k_,.quo 35 .u64 ((y:Int).fdiv ((2:Int)^32)) ((y/base:Nat):Int) (by rw[rh _ d_];unfold base;omega),.wr 36 .u32 ((y/base:Nat):Int) ((y/base:Nat):Int) (by rw[mI];unfold base at q3 ⊢;omega),.ix f233 37 1 (n+1) (i+1) o_ k_,.st f233 100037 172 1 (i+1) (.row (ai ((aa base (n+1) (a%base^i*2^k)).set i d)) 172 1) (aM (y/base)) (.row (ai (aa base (n+1) (a%base^(i+1)*2^k))) 172 1) rfl Rw rfl k_,.sum 38 i 1 (i+1) rfl o_]
theorem Rx(hk:k<=31)(h63:n<35184372088832):
  ag prog Bs 40 (.block 0 (af f233 0)) (rq n a k 0) (nW n a k 0) 2 ⟨.normal,rq n a k n,nW n a k n,2⟩:=
 bO (cg (b:=aE (af f233 0)) (r:=⟨.exit 0,rq n a k n,nW n a k n,2⟩) n (rq n a k) (nW n a k) (λi t _=>jx (l:=nW n a k i) (m:=nW n a k 0) rfl t) (λi hi=>Rv hi hk h63)
  (ay [.lt 15 n n false s_]) n_)
end
def YK(w w':h_)(v:i_)(n a:Nat):Prop:=w'.ownsRow w.heap.size 172 1 v n (ai (aa base n a))
theorem aHB(fQ:gZ w va a)(hk:k<=31)(h1:nd base a<35184372088832):
  Calls prog 233 #[va,vI k] w λe w'=>∃ v,e=.returned v/\YK w w' v (nd base a+1) (a*2^k)/\Below w.heap.size w w':=by
 have av:=dL (B:=base) d_ a;have hl:∀ s∈[cq.row va (nd base a) (ai (aa base (nd base a) a)),.plain (vI k)],s.OK w:=by
  intro s hs;simp at hs;rcases hs with rfl|rfl
  ·exact⟨fQ,e9 _⟩
  ·exact rfl
 unfold gZ at fQ;generalize nd base a=n at *;have aU:a%base^n=a:=dG av
 refine kU (Q:=λe w'=>∃ v,e=.returned v/\YK w w' v (n+1) (a*2^k)/\Below w.heap.size w w') mixed func233 [cq.row va n (ai (aa base n a)),.plain (vI k)] hl 100 (N:=40) k_
  (rs:=[(aO.sum 10 n 1 (n+1) rfl o_:aO prog (ae.at w) 40),.pf f233 11 1 (n+1) 172 4 (aM 0) (ai (aa base (n+1) (a%base^0*2^k))) (by rw[ri,su,kT,QX,DR]) rfl rfl o_ (by simp[maxLen];omega) k_,.code 0 _ _ _ _ _ (Rx (n:=n) (a:=a) hk h1)])
  (v:=sl 1 (n+1)) (ms:=[(1,.row (ai (aa base (n+1) (a%base^n*2^k))) 172 1)]) k_ λao bP v' w' hc bh dD _=>⟨v',rfl,?_,bh.base⟩
 have:=uJ bh (dD _ (aN ..)) hc (by simp[ai,nR]) (e9 _);rw[jN (by simp[ai,nR]),aU]at this;exact this
def bl(x:Nat):Nat:=if x=0 then 0 else x.log2+1
theorem Ry{x:Nat}(h:2^k<=x):bl x=bl (x/2^k)+k:=by
 have hp:0<2^k:=cE d_;have hx:x≠0:=by omega
 have hq:0<x/2^k:=Mo h hp;unfold bl;rw[al hx,al o_];have h1:=YL (n:=x/2^k) o_;have h2:=Nat.lt_log2_self (n:=x/2^k);have e:x.log2=(x/2^k).log2+k:=by
  rw[Nat.log2_eq_iff hx];constructor
  ·rw[dX];exact(B7 hp).1 h1
  ·rw[show(x/2^k).log2+k+1=((x/2^k).log2+1)+k by omega,dX];exact(gY hp).1 h2
 omega
theorem YM{x n:Nat}(h:x<2^n):bl x<=n:=by
 unfold bl;split
 ·omega
 ·rename_i hx;have:=YL hx;rcases eQ x.log2 n with h1|h1
  ·omega
  ·have:=cX (show 0<2 by decide) h1;omega
theorem aHC{x:Nat}(h:x≠0):∃ k,bl x=k+1/\2^k<=x/\x<2^(k+1):=by refine⟨x.log2,by unfold bl;rw[al h],YL h,Nat.lt_log2_self⟩
section
variable{P:j_}{B:ae}{N:Nat}
theorem aHD(ho:FQ P o=true){kd:IntKind}{s:ByteArray}{c:UInt8}(hc:s[i]?=some c):ct P B o [.string s,.int kd i] [] (.int .u8 (c.toNat:Int)) []:=by
 unfold FQ at ho;split at ho
 ·rename_i t p q bM;split at ho
  ·rename_i ht;refine(Bl (λu hu=>by simp at hu;rcases hu with rfl|rfl<;>rfl) rfl λρ fA w _=>?_).step;rw[bM]at fA;simp[Op.operands]at fA;have h0:(0:Int)<=(i:Int):=by omega
   simp[execOp,bM,fA.1,fA.2,Instr.index,asIntOf,iI ht,h0,hc]
  ·cases ho
 ·cases ho
def aO.Mp(fn:Func)(key:Nat)(kd:IntKind)(s:ByteArray)(i:Nat)(c:UInt8)(hc:s[i]?=some c)(ho:FQ P (au fn key)=true):aO P B N:=
 .step key (au fn key) [.string s,.int kd i] [] (.int .u8 (c.toNat:Int)) [] (aHD ho hc)
end
noncomputable def Ga:ByteArray:=match (au f170 16).op with|.index _ (.const (.string s)) _=>s|_=>default
theorem aHE:∀ i,i<256->Ga[i]?=some (UInt8.ofNat (bl i)):=by decide +kernel
theorem aHF{x:Nat}(hx:x<base):aB prog 170 [aM x] (vI (bl x)):=by
 have fin:∀ z,z<256->∃ c:UInt8,Ga[z]?=some c/\c.toNat=bl z:=λz hz=>⟨_,aHE z hz,by have:=YM (x:=z) (n:=8) hz;rw[Mf];exact dG o_⟩
 have w8:∀ z,z<256->IntKind.u8.wrap ((z:Nat):Int)=(z:Int):=λz h=>by rw[Yr];omega
 have shr:∀(z k:Nat),(z:Int).fdiv ((2:Int)^k)=((z/2^k:Nat):Int):=λz k=>by rw[rh _ (F3 d_),sA,F4];rfl
 by_cases h1:65536<=x
 ·have e1:=Ry (k:=16) h1;obtain⟨y,hy⟩:∃ y,y=x/2^16:=⟨_,rfl⟩;have Fx:y<65536:=by rw[hy];unfold base at hx;omega
  by_cases h2:256<=y
  ·have e2:=Ry (x:=y) (k:=8) h2;obtain⟨z,hz⟩:∃ z,z=y/2^8:=⟨_,rfl⟩;have Af:z<256:=by rw[hz];omega
   obtain⟨c,c1,c2⟩:=fin z Af;have e:bl x=24+c.toNat:=by rw[e1,<-hy,e2,<-hz,c2];omega
   rw[e];exact aV func170 (λ_=>[.ge 4 x 65536 true (by simp[h1]),.quo 6 .u32 ((x:Int).fdiv ((2:Int)^16)) (y:Int) (by rw[shr,hy]),.ge 8 y 256 true (by simp[h2]),.quo 10 .u32 ((y:Int).fdiv ((2:Int)^8)) (z:Int) (by rw[shr,hz]),.wr 15 .u8 (z:Int) (z:Int) (w8 z Af),.Mp f170 16 .u8 Ga z c c1 k_,.wr 17 .i64 (c.toNat:Int) (c.toNat:Int) (by rw[dO];have:=c.toNat_lt;omega),.sum 18 24 c.toNat (24+c.toNat) rfl (by have:=c.toNat_lt;omega)])
  ·obtain⟨c,c1,c2⟩:=fin y o_;have e:bl x=16+c.toNat:=by rw[e1,<-hy,c2];omega
   rw[e];exact aV func170 (λ_=>[.ge 4 x 65536 true (by simp[h1]),.quo 6 .u32 ((x:Int).fdiv ((2:Int)^16)) (y:Int) (by rw[shr,hy]),.ge 8 y 256 false (by simp;omega),.wr 15 .u8 (y:Int) (y:Int) (w8 y o_),.Mp f170 16 .u8 Ga y c c1 k_,.wr 17 .i64 (c.toNat:Int) (c.toNat:Int) (by rw[dO];have:=c.toNat_lt;omega),.sum 18 16 c.toNat (16+c.toNat) rfl (by have:=c.toNat_lt;omega)])
 ·by_cases h2:256<=x
  ·have e2:=Ry (x:=x) (k:=8) h2;obtain⟨z,hz⟩:∃ z,z=x/2^8:=⟨_,rfl⟩;have Af:z<256:=by rw[hz];omega
   obtain⟨c,c1,c2⟩:=fin z Af;have e:bl x=8+c.toNat:=by rw[e2,<-hz,c2];omega
   rw[e];exact aV func170 (λ_=>[.ge 4 x 65536 false (by simp;omega),.ge 8 x 256 true (by simp[h2]),.quo 10 .u32 ((x:Int).fdiv ((2:Int)^8)) (z:Int) (by rw[shr,hz]),.wr 15 .u8 (z:Int) (z:Int) (w8 z Af),.Mp f170 16 .u8 Ga z c c1 k_,.wr 17 .i64 (c.toNat:Int) (c.toNat:Int) (by rw[dO];have:=c.toNat_lt;omega),.sum 18 8 c.toNat (8+c.toNat) rfl (by have:=c.toNat_lt;omega)])
  ·obtain⟨c,c1,c2⟩:=fin x o_;have e:bl x=0+c.toNat:=by rw[c2];omega
   rw[e];exact aV func170 (λ_=>[.ge 4 x 65536 false (by simp;omega),.ge 8 x 256 false (by simp;omega),.wr 15 .u8 (x:Int) (x:Int) (w8 x o_),.Mp f170 16 .u8 Ga x c c1 k_,.wr 17 .i64 (c.toNat:Int) (c.toNat:Int) (by rw[dO];have:=c.toNat_lt;omega),.sum 18 0 c.toNat (0+c.toNat) rfl (by have:=c.toNat_lt;omega)])
theorem aHG{x:Nat}(hx:x<base):aB prog 232 [aM x] (vI (32-bl x)):=
 aV func232 (λ_=>[(aHF hx).at 4,.eO 5 32 (bl x) (32-bl x) (by have:=YM (x:=x) (n:=32) hx;omega) o_])
def pw(x:Nat):Value:=.int .u64 (x:Int)
theorem ql{x:Nat}(h:x<18446744073709551616):IntKind.u64.wrap (x:Int)=(x:Int):=by rw[jz];omega
theorem Rz{x:Nat}(h:x<base):IntKind.u64.wrap ((x:Int)*2^32)=((x*base:Nat):Int):=by
 have e:(x:Int)*2^32=((x*base:Nat):Int):=by rw[nh];rfl
 rw[e];exact ql (by have:=Ab (k:=base) h d_;exact cy this d_)
theorem RA{x y:Nat}(hx:x<base)(hy:y<base):IntKind.u64.wrap (((BitVec.ofInt IntKind.u64.bits ((x*base:Nat):Int))||| (BitVec.ofInt IntKind.u64.bits (y:Int))).toNat:Int)=((x*base+y:Nat):Int):=by
 have h1:x*base<18446744073709551616:=by have:=Ab (k:=base) hx d_;exact cy this d_
 have h2:=L5 (i:=32) hy x;rw[Q2 h1 (lA hy d_),cH x base];exact b9 _ h2.symm
section
variable{Bs:ae}{j m L R V T v1 v2 u2:Nat}
def us(j m:Nat):Value:=.slice (some ⟨0,j,some 7⟩) (m+1) j
def kj(j m q r:Nat):aL:=[(7,pw q),(8,pw r),(5,vI m),(0,us j m),(1,sl 1 m)]
def gJ(L R m V:Nat):aC:=[(0,.row (ai (aa base L R)) 172 1),(1,.view (ai (aa base m V)))]
structure DG(j e L R V T v1 v2 u2:Nat):Prop where
 ds:lB base e (R/base^j) V T u2 v1 v2
 hL:j+(e+2)+1<=L
 hV:V<base^(e+2)
 h63:L<35184372088832
section
variable{e:Nat}(h:DG j e L R V T v1 v2 u2)
include h
theorem DG.hR:R/base^j<base^(e+3):=by have h1:=h.ds.hU;have h2:V*base<=base^(e+2)*base:=eR _ (jm h.hV);rw[<-dh]at h2;exact cy h1 h2
theorem DG.ud(hi:i<=e+2):(ai (aa base L R))[j+i]?=some (aM (R/base^j/base^i%base)):=by rw[<-F7];exact ki (dV (by have:=h.hL;omega))
omit h in
theorem DG.vd(hi:i<e+2):(ai (aa base (e+2) V))[i]?=some (aM (V/base^i%base)):=ki (dV hi)
theorem DG.RB:V/base^(e+1)%base=v1:=by rw[h.ds.j8];exact DO h.hV
theorem DG.YN:R/base^j/base^(e+2)%base*base+R/base^j/base^(e+1)%base=T:=by rw[DO (h.hR),h.ds.hT,<-vV]
theorem DG.u2d:R/base^j/base^e%base=u2:=h.ds.hu.symm
theorem DG.v2d:V/base^e%base=v2:=h.ds.gW.symm
end
noncomputable def RC(h:DG j e L R V T v1 v2 u2)(q r:Nat)(Gb:q<base)(hr:r<base)(tr:Bool)(hq:tr=decide (r*base+u2<q*v2))(more:bK prog Bs 159):bK prog Bs 159:=
 have gW:v2<base:=by rw[h.ds.gW];exact cC _ d_
 have ew:u2<base:=by rw[h.ds.hu];exact cC _ d_
 have hp:q*v2<18446744073709551616:=cy (pg Gb gW) d_;
  .ge 48 q 4294967296 false (by simp;exact Gb)::.eO 53 (e+2) 2 e rfl (by have:=h.hL;have:=h.h63;omega)::.ix f234 54 1 (e+2) e o_ k_::
  .ld f234 55 172 1 e (.view (ai (aa base (e+2) V))) (aM v2) rfl (by rw[ft,<-h.v2d];exact DG.vd o_) k_::.wr 56 .u64 (v2:Int) (v2:Int) (ql (lA gW d_))::
  .wr 57 .u64 ((q:Int)*(v2:Int)) ((q*v2:Nat):Int) (by rw[<-nh];exact ql hp)::.wr 59 .u64 ((r:Int)*2^32) ((r*base:Nat):Int) (Rz hr)::
  .eO 62 (e+2) 2 e rfl (by have:=h.hL;have:=h.h63;omega)::.vR f234 63 0 j (e+3) j e o_ k_::
  .ld f234 64 172 0 (j+e) (.row (ai (aa base L R)) 172 1) (aM u2) rfl (by rw[ft,<-h.u2d];exact h.ud o_) k_::.wr 65 .u64 (u2:Int) (u2:Int) (ql (lA ew d_))::
  .quo 66 .u64 _ ((r*base+u2:Nat):Int) (RA hr ew)::.gt 67 (q*v2) (r*base+u2) tr hq.symm::more
noncomputable def Mq(h:DG j e L R V T v1 v2 u2)(q r:Nat)(hq:0<q/\q<18446744073709551616)(hr:r<base)(tr:Bool)(ht:tr=decide (base<=r+v1)):bK prog Bs 159:=
 have j8:v1<base:=h.ds.B6;
 [.wr 70 .u64 ((q:Int)-1) ((q-1:Nat):Int) (by rw[jz];omega),.eO 74 (e+2) 1 (e+1) rfl (by have:=h.hL;have:=h.h63;omega),.ix f234 75 1 (e+2) (e+1) o_ k_,.ld f234 76 172 1 (e+1) (.view (ai (aa base (e+2) V))) (aM v1) rfl (by rw[ft,<-h.RB];exact DG.vd o_) k_,.wr 77 .u64 (v1:Int) (v1:Int) (ql (lA j8 d_)),.wr 78 .u64 ((r:Int)+(v1:Int)) ((r+v1:Nat):Int) (by rw[<-uP];exact ql (by unfold base at hr j8;omega)),.ge 80 (r+v1) 4294967296 tr ht.symm]
section
variable{e:Nat}(h:DG j e L R V T v1 v2 u2)
include h
theorem YO(Gb:q<base)(hr:r<base)(hq:q*v2<=r*base+u2):
  ag prog Bs 159 (aE (af f234 0)) (kj j (e+2) q r) (gJ L R (e+2) V) 2 ⟨.exit 0,kj j (e+2) q r,gJ L R (e+2) V,2⟩:=
 ay (RC h q r Gb hr false (by simp;omega) [])
theorem aHH(hq:0<q/\q<18446744073709551616)(hr:r<base)(hc:base<=q\/r*base+u2<q*v2)(ht:r+v1<base):
  ag prog Bs 159 (aE (af f234 0)) (kj j (e+2) q r) (gJ L R (e+2) V) 2 ⟨.normal,kj j (e+2) (q-1) (r+v1),gJ L R (e+2) V,2⟩:=by
 by_cases hb:base<=q
 ·exact ay (.ge 48 q 4294967296 true (by simp;exact hb)::Mq h q r hq hr false (by simp;omega))
 ·exact ay (RC h q r o_ hr true (by simp[hc.resolve_left hb]) (Mq h q r hq hr false (by simp;omega)))
theorem YP(hq:0<q/\q<18446744073709551616)(hr:r<base)(hc:base<=q\/r*base+u2<q*v2)(ht:base<=r+v1):
  ag prog Bs 159 (aE (af f234 0)) (kj j (e+2) q r) (gJ L R (e+2) V) 2 ⟨.exit 0,kj j (e+2) (q-1) (r+v1),gJ L R (e+2) V,2⟩:=by
 by_cases hb:base<=q
 ·exact ay (.ge 48 q 4294967296 true (by simp;exact hb)::Mq h q r hq hr true (by simp;omega))
 ·exact ay (RC h q r o_ hr true (by simp[hc.resolve_left hb]) (Mq h q r hq hr true (by simp;omega)))
theorem aHI:∃ q r,ag prog Bs 159 (.block 0 (af f234 0)) (kj j (e+2) (T/v1) (T%v1)) (gJ L R (e+2) V) 2 ⟨.normal,kj j (e+2) q r,gJ L R (e+2) V,2⟩/\q<base/\q*V<R/base^j+V/\R/base^j/V<=q:=by
 have j8:v1<base:=h.ds.B6;have wx:=h.ds.top;have D7:0<v1:=by unfold base at wx;omega
 have oL:T%v1<v1:=cC _ D7;have g0:=h.ds.start;have sm:∀{q r},Aa (R/base^j) V T v1 q r->q<18446744073709551616:=λg=>eP (h.ds.aHm g) d_;have one:∀{q r q' r':Nat},ag prog Bs 159 (.loop (aE (af f234 0))) (kj j (e+2) q r) (gJ L R (e+2) V) 2 ⟨.exit 0,kj j (e+2) q' r',gJ L R (e+2) V,2⟩->
   ag prog Bs 159 (.block 0 (af f234 0)) (kj j (e+2) q r) (gJ L R (e+2) V) 2 ⟨.normal,kj j (e+2) q' r',gJ L R (e+2) V,2⟩:=λg=>bO (id:=0) g
 have zero:∀{q r:Nat} {o:kR},o.ex≠.normal->ag prog Bs 159 (aE (af f234 0)) (kj j (e+2) q r) (gJ L R (e+2) V) 2 o->ag prog Bs 159 (.loop (aE (af f234 0))) (kj j (e+2) q r) (gJ L R (e+2) V) 2 o:=λ{q r o} ho g=>
  cg (P:=prog) (B:=Bs) (N:=159) (b:=aE (af f234 0)) (next:=2) 0 (λ_=>kj j (e+2) q r) (λ_=>gJ L R (e+2) V) (λ_ _ _=>Iff.rfl) (λi hi=>by omega) g ho
 generalize T/v1=q0 at *;generalize T%v1=r0 at *;by_cases c1:base<=q0\/r0*base+u2<q0*v2
 ·obtain⟨p1,g1⟩:=h.ds.less g0 c1;by_cases t1:base<=r0+v1
  ·obtain⟨a1,a2⟩:=h.ds.fin g1 (.inr t1);exact⟨_,_,one (zero n_ (YP h ⟨p1,sm g0⟩ o_ c1 t1)),a1,a2,g1.le⟩
  ·have t1:=Nat.not_le.1 t1;have two:∀{o:kR},o.ex≠.normal->ag prog Bs 159 (aE (af f234 0)) (kj j (e+2) (q0-1) (r0+v1)) (gJ L R (e+2) V) 2 o->ag prog Bs 159 (.loop (aE (af f234 0))) (kj j (e+2) q0 r0) (gJ L R (e+2) V) 2 o:=λ{o} ho g=>
    cg (P:=prog) (B:=Bs) (N:=159) (b:=aE (af f234 0)) (next:=2) 1 (λi=>if i=0 then kj j (e+2) q0 r0 else kj j (e+2) (q0-1) (r0+v1)) (λ_=>gJ L R (e+2) V) (λ_ _ _=>Iff.rfl) (λi hi=>by
     have:i=0:=by omega
     subst this;exact aHH h ⟨p1,sm g0⟩ o_ c1 t1) g ho
   by_cases c2:base<=q0-1\/(r0+v1)*base+u2<(q0-1)*v2
   ·obtain⟨p2,g2⟩:=h.ds.less g1 c2;have t2:=h.ds.aHl r0;obtain⟨a1,a2⟩:=h.ds.fin g2 (.inr t2);exact⟨_,_,one (two n_ (YP h ⟨p2,sm g1⟩ t1 c2 t2)),a1,a2,g2.le⟩
   ·have RD:q0-1<base/\(q0-1)*v2<=(r0+v1)*base+u2:=by
     constructor
     ·exact Nat.not_le.1 λhh=>c2 (.inl hh)
     ·exact IK.1 λhh=>c2 (.inr hh)
    obtain⟨a1,a2⟩:=h.ds.fin g1 (.inl RD);exact⟨_,_,one (two n_ (YO h RD.1 t1 RD.2)),a1,a2,g1.le⟩
 ·have RE:q0<base/\q0*v2<=r0*base+u2:=by
   constructor
   ·exact Nat.not_le.1 λhh=>c1 (.inl hh)
   ·exact IK.1 λhh=>c1 (.inr hh)
  obtain⟨a1,a2⟩:=h.ds.fin g0 (.inl RE);exact⟨_,_,one (zero n_ (YO h RE.1 o_ RE.2)),a1,a2,g0.le⟩
end
end
section
variable{Bs:ae}{j L R V T v1 v2 u2:Nat}
theorem Gc{L R S t:Nat}(ht:t<L)(h:i<=t):(ai (cQ base L i S R))[t]?=some (aM (R/base^t%base)):=ki (BH ht h)
theorem IP{L R S:Nat}(hi:i<L)(hd:d=S/base^i%base):eM prog 172 (ai (cQ base L i S R)) i (aM d)=some (ai (cQ base L (i+1) S R)):=by rw[xY _ i _ (by simp[ai,vU];omega),xZ,xX hi hd]
def fD(j m R V q:Nat):Nat:=fR base j R (fC base m (R/base^j) V q)
def Ca(j m R V q i:Nat):aL:=
 [(83,vI i),(82,vI m),(81,sl 1 m),(7,pw q),(9,pw (nt base q V i)),(10,aM (nV base (R/base^j) V q i)),(5,vI m),(0,us j m),(1,sl 1 m)]
def Ag(j m L R V q i:Nat):aC:=[(0,.row (ai (cQ base L (j+i) (fD j m R V q) R)) 172 1),(1,.view (ai (aa base m V)))]
section
variable{e q:Nat}(h:DG j e L R V T v1 v2 u2)(hq:q<base)(pd:q*V<R/base^j+V)
include h hq pd
omit hq in
theorem DG.qle:q*V<=R/base^j+base^(e+3):=by have h1:V<=base^(e+3):=c9 (jm h.hV) (cX d_ o_);omega
omit hq in
theorem DG.sub(hi:i<=e+2):aB prog 236 [aM (R/base^j/base^i%base),aM ((nt base q V i+q*(V/base^i%base))%base),aM (nV base (R/base^j) V q i)]
  (.tuple #[aM (fD j (e+2) R V q/base^(j+i)%base),aM (nV base (R/base^j) V q (i+1))]):=by
 have hb:nV base (R/base^j) V q i<=1:=LQ _ _ _;have:=XT (x:=R/base^j/base^i%base) (y:=(nt base q V i+q*(V/base^i%base))%base) (b:=nV base (R/base^j) V q i) (cC _ d_) (cC _ d_) hb;rw[aHt d_ (h.qle pd) hi,aHu d_]at this;unfold fD;rw[wm d_];exact this
theorem aHJ(hi:i<e+2):
  ag prog Bs 159 (aE (af f234 2)) (Ca j (e+2) R V q i) (Ag j (e+2) L R V q i) 2 ⟨.normal,Ca j (e+2) R V q (i+1),Ag j (e+2) L R V q (i+1),2⟩:=by
 have hL:=h.hL;have h63:=h.h63;have v7:=h.sub pd (show i<=e+2 by omega);have hc:=Yx (B:=base) d_ hq V i;have uG:=aHo (B:=base) d_ q V i;have hv:V/base^i%base<base:=cC _ d_;have bH:eM prog 172 (ai (cQ base L (j+i) (fD j (e+2) R V q) R)) (j+i) (aM (fD j (e+2) R V q/base^(j+i)%base))=some (ai (cQ base L (j+(i+1)) (fD j (e+2) R V q) R)):=IP o_ rfl;have RF:=DG.vd (V:=V) hi;have RG:(ai (cQ base L (j+i) (fD j (e+2) R V q) R))[j+i]?=some (aM (R/base^j/base^i%base)):=by rw[<-F7];exact Gc o_ (aZ _)
 generalize R/base^j/base^i%base=x at *;generalize V/base^i%base=y at *;generalize hC:nt base q V i=C at *;have hp:q*y<18446744069414584321:=by have h1:q*y<=(base-1)*(base-1):=BS o_ o_;exact eP h1 d_
 have hs:C+q*y<18446744073709551616:=by unfold base at hc;omega
 have e1:Ca j (e+2) R V q i=[(83,vI i),(82,vI (e+2)),(81,sl 1 (e+2)),(7,pw q),(9,pw C),(10,aM (nV base (R/base^j) V q i)),(5,vI (e+2)),(0,us j (e+2)),(1,sl 1 (e+2))]:=by unfold Ca;rw[hC]
 rw[e1];generalize hP:q*y=W at *;exact ay [.lt 84 i (e+2) true (by simp[hi]),.ix f234 86 1 (e+2) i hi k_,.ld f234 87 172 1 i (.view (ai (aa base (e+2) V))) (aM y) rfl (by rw[ft];exact RF) k_,.wr 91 .u64 (y:Int) (y:Int) (ql (lA hv d_)),.wr 92 .u64 ((q:Int)*(y:Int)) (W:Int) (by rw[<-nh,hP];exact ql o_),.wr 93 .u64 ((C:Int)+(W:Int)) ((C+W:Nat):Int) (by rw[<-uP];exact ql hs),.vR f234 99 0 j (e+3) j i o_ k_,.ld f234 100 172 0 (j+i) (.row (ai (cQ base L (j+i) (fD j (e+2) R V q) R)) 172 1) (aM x) rfl (by rw[ft];exact RG) k_,.wr 102 .u32 ((C+W:Nat):Int) (((C+W)%base:Nat):Int) (by rw[mI];unfold base;omega),v7.at 104,.vR f234 107 0 j (e+3) j i o_ k_,.st f234 100107 172 0 (j+i) (.row (ai (cQ base L (j+i) (fD j (e+2) R V q) R)) 172 1) (aM (fD j (e+2) R V q/base^(j+i)%base)) (.row (ai (cQ base L (j+(i+1)) (fD j (e+2) R V q) R)) 172 1) rfl bH rfl k_,.quo 109 .u64 (((C+W:Nat):Int).fdiv ((2:Int)^32)) ((nt base q V (i+1):Nat):Int) (by rw[rh _ d_,<-uG];unfold base;omega),.sum 110 i 1 (i+1) rfl o_]
omit h hq pd in
theorem aHK:Ag j (e+2) L R V q 0=gJ L R (e+2) V:=by unfold Ag gJ fD;rw[iJ,Ml d_]
theorem aHL:ag prog Bs 159 (.block 2 (af f234 2)) (Ca j (e+2) R V q 0) (gJ L R (e+2) V) 2 ⟨.normal,Ca j (e+2) R V q (e+2),Ag j (e+2) L R V q (e+2),2⟩:=by
 rw[<-aHK (q:=q)];exact bO (id:=2) (cg (b:=aE (af f234 2)) (r:=⟨.exit 2,Ca j (e+2) R V q (e+2),Ag j (e+2) L R V q (e+2),2⟩) (e+2) (Ca j (e+2) R V q) (Ag j (e+2) L R V q) (λi t _=>jx (l:=Ag j (e+2) L R V q i) (m:=Ag j (e+2) L R V q 0) rfl t)
  (λi hi=>aHJ h hq pd hi) (ay [.lt 84 (e+2) (e+2) false s_]) n_)
end
def mK(j m R V q:Nat):Nat:=fR base j R ((fC base m (R/base^j) V q+V)%base^(m+1))
def Gd(j m R V q i:Nat):aL:=
 [(131,vI i),(130,vI m),(129,sl 1 m),(13,aM (eC base (fC base m (R/base^j) V q) V i)),(7,pw (q-1)),(5,vI m),(0,us j m),(1,sl 1 m)]
def Ah(j m L R V q i:Nat):aC:=[(0,.row (ai (cQ base L (j+i) (mK j m R V q) (fD j m R V q))) 172 1),(1,.view (ai (aa base m V)))]
section
variable{e q:Nat}(h:DG j e L R V T v1 v2 u2)
include h
theorem aHM(hi:i<e+2):
  ag prog Bs 159 (aE (af f234 4)) (Gd j (e+2) R V q i) (Ah j (e+2) L R V q i) 2 ⟨.normal,Gd j (e+2) R V q (i+1),Ah j (e+2) L R V q (i+1),2⟩:=by
 have hL:=h.hL;have h63:=h.h63;have hc:=zM (B:=base) d_ (fC base (e+2) (R/base^j) V q) V i;have x7:=Ix (x:=fC base (e+2) (R/base^j) V q/base^i%base) (y:=V/base^i%base) (c:=eC base (fC base (e+2) (R/base^j) V q) V i) (cC _ d_) (cC _ d_) (eP hc d_);rw[Rr d_ (show i<=e+2 by omega),DP d_]at x7;have bH:eM prog 172 (ai (cQ base L (j+i) (mK j (e+2) R V q) (fD j (e+2) R V q))) (j+i) (aM ((fC base (e+2) (R/base^j) V q+V)%base^(e+2+1)/base^i%base))=some (ai (cQ base L (j+(i+1)) (mK j (e+2) R V q) (fD j (e+2) R V q))):=
  IP o_ (by unfold mK;rw[wm d_])
 have RF:=DG.vd (V:=V) hi;have RG:(ai (cQ base L (j+i) (mK j (e+2) R V q) (fD j (e+2) R V q)))[j+i]?=some (aM (fC base (e+2) (R/base^j) V q/base^i%base)):=by have:=Gc (L:=L) (i:=j+i) (R:=fD j (e+2) R V q) (S:=mK j (e+2) R V q) (t:=j+i) o_ (aZ _);rw[this];unfold fD;rw[wm d_]
 exact ay [.lt 132 i (e+2) true (by simp[hi]),.ix f234 134 1 (e+2) i hi k_,.ld f234 135 172 1 i (.view (ai (aa base (e+2) V))) (aM (V/base^i%base)) rfl (by rw[ft];exact RF) k_,.vR f234 141 0 j (e+3) j i o_ k_,.ld f234 142 172 0 (j+i) (.row (ai (cQ base L (j+i) (mK j (e+2) R V q) (fD j (e+2) R V q))) 172 1) (aM (fC base (e+2) (R/base^j) V q/base^i%base)) rfl (by rw[ft];exact RG) k_,x7.at 145,.vR f234 148 0 j (e+3) j i o_ k_,.st f234 100148 172 0 (j+i) (.row (ai (cQ base L (j+i) (mK j (e+2) R V q) (fD j (e+2) R V q))) 172 1) (aM ((fC base (e+2) (R/base^j) V q+V)%base^(e+2+1)/base^i%base)) (.row (ai (cQ base L (j+(i+1)) (mK j (e+2) R V q) (fD j (e+2) R V q))) 172 1) rfl bH rfl k_,.sum 149 i 1 (i+1) rfl o_]
omit h in
theorem aHN:Ah j (e+2) L R V q 0=gJ L (fD j (e+2) R V q) (e+2) V:=by unfold Ah gJ mK;rw[iJ,<-Yy (B:=base) d_ j R (fC base (e+2) (R/base^j) V q)];unfold fD;rw[Ml d_]
theorem aHO:ag prog Bs 159 (.block 4 (af f234 4)) (Gd j (e+2) R V q 0) (gJ L (fD j (e+2) R V q) (e+2) V) 2 ⟨.normal,Gd j (e+2) R V q (e+2),Ah j (e+2) L R V q (e+2),2⟩:=by
 rw[<-aHN (q:=q)];exact bO (id:=4) (cg (b:=aE (af f234 4)) (r:=⟨.exit 4,Gd j (e+2) R V q (e+2),Ah j (e+2) L R V q (e+2),2⟩) (e+2) (Gd j (e+2) R V q) (Ah j (e+2) L R V q) (λi t _=>jx (l:=Ah j (e+2) L R V q i) (m:=Ah j (e+2) L R V q 0) rfl t)
  (λi hi=>aHM h hi) (ay [.lt 132 (e+2) (e+2) false s_]) n_)
end
noncomputable def YQ(h:DG j e L R V T v1 v2 u2)(hq:q<base)(pd:q*V<R/base^j+V)
  (hg:ag prog Bs 159 (.block 0 (af f234 0)) (kj j (e+2) (T/v1) (T%v1)) (gJ L R (e+2) V) 2 ⟨.normal,kj j (e+2) q r,gJ L R (e+2) V,2⟩) (more:bK prog Bs 159):bK prog Bs 159:=
 have hL:=h.hL;have h63:=h.h63;have hx:R/base^j/base^(e+2)%base<base:=cC _ d_;have hy:R/base^j/base^(e+1)%base<base:=cC _ d_;have j8:v1<base:=h.ds.B6;have D7:(v1:Int)≠0:=by have:=h.ds.top;unfold base at this;omega
 have hT:T<18446744073709551616:=by
  rw[<-h.YN];have:R/base^j/base^(e+2)%base*base<=(base-1)*base:=eR _ o_;have e3:(base-1)*base=18446744069414584320:=by decide
  rw[e3]at this;clear e3;unfold base at *;omega
 have hc:=Yx (B:=base) d_ hq V (e+2);have h0:V/base^(e+2)%base=0:=qe h.hV (aZ _) d_;have v7:=h.sub pd (aZ (e+2))
 have aHP:aB prog 236 [aM (R/base^j/base^(e+2)%base),aM (nt base q V (e+2)),aM (nV base (R/base^j) V q (e+2))]
   (.tuple #[aM (fD j (e+2) R V q/base^(j+(e+2))%base),aM (nV base (R/base^j) V q (e+3))]):=by
  rw[h0,Nat.mul_zero,iJ (nt base q V (e+2)),dG hc]at v7;exact v7
 have iA:(ai (cQ base L (j+(e+2)) (fD j (e+2) R V q) R))[j+(e+2)]?=some (aM (R/base^j/base^(e+2)%base)):=by rw[<-F7];exact Gc o_ (aZ _)
 have bH:eM prog 172 (ai (cQ base L (j+(e+2)) (fD j (e+2) R V q) R)) (j+(e+2)) (aM (fD j (e+2) R V q/base^(j+(e+2))%base))=some (ai (aa base L (fD j (e+2) R V q))):=by
  rw[IP o_ rfl,show j+(e+2)+1=j+(e+3)by omega,D6 d_]
  ·have:=h.hR;have h2:=F6 (B:=base) d_ (j:=j) R this;rw[aHp]at h2;exact h2
  ·exact F6 d_ R (Rp d_);
 .vR f234 20 0 j (e+3) j (e+2) o_ k_::.ld f234 21 172 0 (j+(e+2)) (.row (ai (aa base L R)) 172 1) (aM (R/base^j/base^(e+2)%base)) rfl (by rw[ft];exact h.ud (aZ _)) k_::
 .wr 22 .u64 ((R/base^j/base^(e+2)%base:Nat):Int) ((R/base^j/base^(e+2)%base:Nat):Int) (ql (lA hx d_))::
 .wr 23 .u64 (((R/base^j/base^(e+2)%base:Nat):Int)*2^32) ((R/base^j/base^(e+2)%base*base:Nat):Int) (Rz hx)::.eO 26 (e+2) 1 (e+1) rfl o_::
 .vR f234 27 0 j (e+3) j (e+1) o_ k_::.ld f234 28 172 0 (j+(e+1)) (.row (ai (aa base L R)) 172 1) (aM (R/base^j/base^(e+1)%base)) rfl (by rw[ft];exact h.ud o_) k_::
 .wr 29 .u64 ((R/base^j/base^(e+1)%base:Nat):Int) ((R/base^j/base^(e+1)%base:Nat):Int) (ql (lA hy d_))::.quo 30 .u64 _ ((T:Nat):Int) ((RA hx hy).trans (by rw[h.YN]))::
 .eO 34 (e+2) 1 (e+1) rfl o_::.ix f234 35 1 (e+2) (e+1) o_ k_::.ld f234 36 172 1 (e+1) (.view (ai (aa base (e+2) V))) (aM v1) rfl (by rw[ft,<-h.RB];exact DG.vd o_) k_::
 .wr 37 .u64 (v1:Int) (v1:Int) (ql (lA j8 d_))::.uK f234 38 .u64 (T:Int) v1 ((T/v1:Nat):Int) D7 (by rw[zW o_,<-sA];exact ql (eP (sB _ _) hT)) k_::
 .eO 42 (e+2) 1 (e+1) rfl o_::.ix f234 43 1 (e+2) (e+1) o_ k_::.ld f234 44 172 1 (e+1) (.view (ai (aa base (e+2) V))) (aM v1) rfl (by rw[ft,<-h.RB];exact DG.vd o_) k_::
 .wr 45 .u64 (v1:Int) (v1:Int) (ql (lA j8 d_))::.zR f234 46 .u64 (T:Int) v1 ((T%v1:Nat):Int) D7 (by rw[ya o_];rfl) k_::
 .code 0 _ _ _ _ _ hg::.rw 9 (.int .u64 0) (pw (nt base q V 0)) (by rw[aHn];rfl)::.rw 10 (.int .u32 0) (aM (nV base (R/base^j) V q 0)) (by unfold nV;rw[QN];rfl)::
 .code 2 _ _ _ _ _ (aHL h hq pd)::.vR f234 116 0 j (e+3) j (e+2) o_ k_::.ld f234 117 172 0 (j+(e+2)) (.row (ai (cQ base L (j+(e+2)) (fD j (e+2) R V q) R)) 172 1) (aM (R/base^j/base^(e+2)%base)) rfl (by rw[ft];exact iA) k_::
 .wr 119 .u32 ((nt base q V (e+2):Nat):Int) ((nt base q V (e+2):Nat):Int) (by rw[mI];unfold base at hc ⊢;omega)::aHP.at 121::.vR f234 124 0 j (e+3) j (e+2) o_ k_::
 .st f234 100124 172 0 (j+(e+2)) (.row (ai (cQ base L (j+(e+2)) (fD j (e+2) R V q) R)) 172 1) (aM (fD j (e+2) R V q/base^(j+(e+2))%base)) (.row (ai (aa base L (fD j (e+2) R V q))) 172 1) rfl bH rfl k_::more
theorem aHQ{g c':Nat}{vv:i_}(h:DG j e L R V T v1 v2 u2)(hg:w.heap[g]?=some (.cells cur 172 (0,0)))(hn:e+3<=c')(lP:j+c'=cap)(jf:cap<=maxLen)(bE:cur.size=cap*1)
  (hc:cur.toList.take (ai (aa base L R)).length=ai (aa base L R)) (hv:cZ w vv (e+2) (ai (aa base (e+2) V))) (aY:∀ b o c,vv=.slice (some ⟨b,o,none⟩) (e+2) c->b≠g) :
  Calls prog 234 #[.slice (some ⟨g,j,none⟩) (e+3) c',vv] w λex w'=>ex=.returned (aM (R/base^j/V))/\zO g w w'/\∃ fv,w'.heap[g]?=some (.cells fv 172 (0,0))/\fv.size=cap*1/\
   fv.toList.take (ai (aa base L (fR base j R (R/base^j%V)))).length=ai (aa base L (fR base j R (R/base^j%V))):=by
 obtain⟨q,r,Ge,hq,pd,hle⟩:=aHI (Bs:=ae.v8 w g) h;have hU:=h.ds.hU;have kG:=aHw (B:=base) d_ hq h.hV hU;have hL:=h.hL;have h63:=h.h63;have aSt:q<18446744073709551616:=lA hq d_;have key:∀(qq:Nat) (S:Nat) (rs:bK prog (ae.v8 w g) 159),qq=R/base^j/V->S=fR base j R (R/base^j%V)->
   nO (gu (P:=prog) f234 100 (us j (e+2)::qZ 1 [cq.row vv (e+2) (ai (aa base (e+2) V))]) ((0,.row (ai (aa base L R)) 172 1)::tB 1 [cq.row vv (e+2) (ai (aa base (e+2) V))]) (sk 1 [cq.row vv (e+2) (ai (aa base (e+2) V))]) rs) [(0,.row (ai (aa base L S)) 172 1)] =
    nP (gu f234 100 (us j (e+2)::qZ 1 [cq.row vv (e+2) (ai (aa base (e+2) V))]) ((0,.row (ai (aa base L R)) 172 1)::tB 1 [cq.row vv (e+2) (ai (aa base (e+2) V))]) (sk 1 [cq.row vv (e+2) (ai (aa base (e+2) V))]) rs) (aM qq) [(0,.row (ai (aa base L S)) 172 1)]->
   Calls prog 234 #[.slice (some ⟨g,j,none⟩) (e+3) c',vv] w λex w'=>ex=.returned (aM (R/base^j/V))/\zO g w w'/\∃ fv,w'.heap[g]?=some (.cells fv 172 (0,0))/\fv.size=cap*1/\
    fv.toList.take (ai (aa base L (fR base j R (R/base^j%V)))).length=ai (aa base L (fR base j R (R/base^j%V))):=by
  rintro qq S rs rfl rfl DD
  exact aHd (ms:=[]) (cells':=ai (aa base L (fR base j R (R/base^j%V)))) (v:=aM (R/base^j/V)) mixed func234 hg jf bE hc (e9 _) (e9 _) hn lP [cq.row vv (e+2) (ai (aa base (e+2) V))]
   (λs hs=>by simp at hs;subst hs;exact⟨hv,e9 _⟩) (λs hs=>by simp at hs;subst hs;exact aY) 100 (N:=159) k_ DD λao Rm v' w' _ jH h1 h2 _ _=>⟨by rw[jH.eW rfl],h1,h2⟩
 by_cases hb:R/base^j<q*V
 ·rw[aq hb]at kG;obtain⟨e1,e2⟩:=YB (B:=base) (m:=e+2) d_ h.hV hU pd hb;have e3:mK j (e+2) R V q=fR base j R (R/base^j%V):=by unfold mK;rw[e2]
  have h0:V/base^(e+2)%base=0:=qe h.hV (aZ _) d_;have IQ:=Rr (B:=base) (m:=e+2) (V:=V) (D:=fC base (e+2) (R/base^j) V q) d_ (aZ (e+2));rw[h0,iJ (fC base (e+2) (R/base^j) V q/base^(e+2)%base)]at IQ;have iA:(ai (cQ base L (j+(e+2)) (mK j (e+2) R V q) (fD j (e+2) R V q)))[j+(e+2)]?=some (aM (fC base (e+2) (R/base^j) V q/base^(e+2)%base)):=by have:=Gc (L:=L) (i:=j+(e+2)) (R:=fD j (e+2) R V q) (S:=mK j (e+2) R V q) (t:=j+(e+2)) o_ (aZ _);rw[this];unfold fD;rw[wm d_]
  have bH:eM prog 172 (ai (cQ base L (j+(e+2)) (mK j (e+2) R V q) (fD j (e+2) R V q))) (j+(e+2)) (aM ((fC base (e+2) (R/base^j) V q+V)%base^(e+2+1)/base^(e+2)%base))=some (ai (aa base L (mK j (e+2) R V q))):=by
   rw[IP o_ (by unfold mK;rw[wm d_]),show j+(e+2)+1=j+(e+3)by omega,D6 d_]
   ·exact F6 d_ R (Rp d_)
   ·exact F6 d_ R (cC _ (cE d_))
  have hd:fC base (e+2) (R/base^j) V q/base^(e+2)%base<base:=cC _ d_;have fU:=zM (B:=base) d_ (fC base (e+2) (R/base^j) V q) V (e+2);have hbk:=aHO (Bs:=ae.v8 w g) (q:=q) h;have Ai:q-1=R/base^j/V:=by rw[e1,Mk]
  have oJ:0<q:=by rw[e1];exact RH _
  refine key (q-1) (mK j (e+2) R V q) (YQ h hq pd Ge [.rw 126 (.bool (((nV base (R/base^j) V q (e+3):Nat):Int)!=0)) b_ (by rw[show e+3=e+2+1 from rfl,kG];rfl),.wr 128 .u64 ((q:Int)-1) ((q-1:Nat):Int) (by rw[jz];omega),.rw 13 (.int .u32 0) (aM (eC base (fC base (e+2) (R/base^j) V q) V 0)) (by rw[LP];rfl),.code 4 _ _ _ _ _ hbk,.vR f234 152 0 j (e+3) j (e+2) o_ k_,.ld f234 153 172 0 (j+(e+2)) (.row (ai (cQ base L (j+(e+2)) (mK j (e+2) R V q) (fD j (e+2) R V q))) 172 1) (aM (fC base (e+2) (R/base^j) V q/base^(e+2)%base)) rfl (by rw[ft];exact iA) k_,.wr 155 .u32 (((fC base (e+2) (R/base^j) V q/base^(e+2)%base:Nat):Int)+((eC base (fC base (e+2) (R/base^j) V q) V (e+2):Nat):Int)) (((fC base (e+2) (R/base^j) V q+V)%base^(e+2+1)/base^(e+2)%base:Nat):Int)
    (by rw[<-IQ,<-uP,mI];unfold base;omega),.vR f234 156 0 j (e+3) j (e+2) o_ k_,
   .st f234 100156 172 0 (j+(e+2)) (.row (ai (cQ base L (j+(e+2)) (mK j (e+2) R V q) (fD j (e+2) R V q))) 172 1) (aM ((fC base (e+2) (R/base^j) V q+V)%base^(e+2+1)/base^(e+2)%base)) (.row (ai (aa base L (mK j (e+2) R V q))) 172 1) rfl bH rfl k_,
   .wr 158 .u32 ((q-1:Nat):Int) ((q-1:Nat):Int) (by rw[mI];unfold base at hq;omega)]) Ai e3 k_
 ·rw[al hb]at kG;obtain⟨e1,e2⟩:=YA (B:=base) (m:=e+2) d_ h.hV hU hle hb;have e3:fD j (e+2) R V q=fR base j R (R/base^j%V):=by unfold fD;rw[e2]
  exact key q (fD j (e+2) R V q) (YQ h hq pd Ge [.rw 126 (.bool (((nV base (R/base^j) V q (e+3):Nat):Int)!=0)) a_ (by rw[show e+3=e+2+1 from rfl,kG];rfl),.wr 158 .u32 (q:Int) (q:Int) (by rw[mI];unfold base at hq;omega)]) e1 e3 k_
end
section
variable{Bs:ae}{N:Nat}
theorem Mr{y:m_}(ho:da o.op=some y){n M:Nat}{x:Obj}(hx:x.reads=true)(hc:x.cells=ai (aa base M a))(hnM:n<=M)(ha:a<base^n)(h63:n<=9223372036854775807)(hd:nd base a=d):
  ct prog Bs o [.func (.func 203) #[] #[],sl k n] [(k,some x)] (sl k d) []:=by
 subst hd;refine jy (fi:=[]) (ca:=[]) ho k_ λι c w hm hn args' dw=>?_;obtain⟨v,rfl,h1⟩:=lO dw;have hk:c k=some x:=hn _ (aN ..);have hr:=nQ (len:=n) hm hk hx (by rw[hc];exact e9 _) (λh=>h) h1;have e:(ai (aa base M a)).take n=ai (aa base n a):=by unfold ai;rw[<-BE,Ir hnM]
 rw[hc,lv,e]at hr;refine(XM hr ha h63).mono ?_
 rintro e w' ⟨rfl,hb⟩
 refine⟨ι,_,rfl,Map.le.refl _,?_,hm.call hb⟩;have jA:=iN (B:=base) d_ ha;rcases h1.gK rfl with ⟨q1,q2,_,_,q5⟩|⟨b,oo,cap,c',q1,q2,q3,q5⟩
 ·rw[q5];have:nd base a=0:=by omega
  rw[this];exact .slcN q1
 ·rw[q5];exact .slc q1 o_ q3
theorem YR{y:m_}(ho:da o.op=some y){n:Nat}(hx:pv x1 a)(hk:k<=31)(h1:nd base a<35184372088832)(nL:nd base a=n)(kn:Nat):
  ct prog Bs o [.func (.func 233) #[] #[],sl k1 n,vI k] [(k1,some x1),(kn,none)] (sl kn (n+1)) [(kn,.row (ai (aa base (n+1) (a*2^k))) 172 1)]:=by
 subst nL;refine jy (fi:=[]) (ca:=[]) ho k_ λι cc w hm hn args' aU=>?_;rw[jg,gO]at aU;obtain⟨va,vb,rfl,hv,gW⟩:=iH aU;rw[gW.eW rfl];refine(aHB (Ac hm (hn _ (aN ..)) hx hv) hk h1).mono ?_
 rintro e w' ⟨v,rfl,h1,h2⟩
 obtain⟨ao,q1,q2,q3⟩:=DN hm h2 (k:=kn) (hn _ (bB _ (aN ..))) h1 (e9 _);exact⟨ao,v,rfl,q1,q3,q2⟩
def aO.part(fn:Func)(key k n l h s m off:Nat)(xK:l*s=off)(hh:h<=n)(hm:l+m=h)(h0:0<m)(ho:rf P (au fn key)=some (true,true,s)):aO P B N:=
 .step key (au fn key) [sl k n,vI l,vI h] [] (.slice (some ⟨k,off,some 7⟩) m l) [] (by
  subst xK;have:=FG (B:=B) ho (k:=k) (off:=0) (n:=n) (cc:=0) (l:=l) (h:=h) n_ n_ o_ hh (.inl o_);have e1:h-l=m:=by omega
  rw[e1,jv,jv]at this;exact this)
end
structure DV(e L A V:Nat):Prop where
 hV:V<base^(e+2)
 top:base<=2*(V/base^(e+1))
 hL:e+2+1<=L
 hA:A<V*base^(L-(e+2))
 h63:L<35184372088832
theorem DV.pos{L V:Nat}(h:DV e L A V):0<V:=by
 rcases nr V with e1|e1
 ·have:=h.hA;rw[e1,kT]at this;omega
 ·exact e1
theorem DV.dg{L V:Nat}(h:DV e L A V)(hj:j+(e+2)+1<=L):
  DG j e L (A%(V*base^(j+1))) V (A%(V*base^(j+1))/base^j/base^(e+1)) (V/base^(e+1)) (V/base^e%base) (A%(V*base^(j+1))/base^j/base^e%base) where
 ds:={ hB:=by decide,hU:=YE d_ h.pos A j,hT:=rfl,hu:=rfl,j8:=rfl,gW:=rfl,top:=h.top,B6:=by have:=h.hV;rw[gY (cE d_),cH,<-dh];exact this }
 hL:=hj
 hV:=h.hV
 h63:=h.h63
section
variable{Bs:ae}{e L A V M:Nat}
def Gf(e L p j:Nat):aL:=[(13,c8 j),(12,sl 4 p),(10,sl 3 L),(9,sl 2 (e+2)),(11,vI (e+2))]
def Aj(L A V M p j:Nat):aC:=[(3,.row (ai (aa base L (A%(V*base^j)))) 172 1),(4,.row (ai (gh base p j (A/V))) 172 1),(2,.row (ai (aa base M V)) 172 1)]
theorem aHR(h:DV e L A V)(hM:e+2<=M){p:Nat}(hp:p+(e+2)=L)(hj:j<p):
  ag prog Bs 110 (aE (af f215 0)) (Gf e L p (j+1)) (Aj L A V M p (j+1)) 5 ⟨.normal,Gf e L p j,Aj L A V M p j,5⟩:=by
 have h63:=h.h63;have hdg:=h.dg (j:=j) o_;have hr:=YC (B:=base) d_ A V j;have hq:=YD (B:=base) A V j;have bH:eM prog 172 (ai (gh base p (j+1) (A/V))) j (aM (A/V/base^j%base))=some (ai (gh base p j (A/V))):=by rw[xY _ _ _ (by simp[ai,LU];exact hj),xZ,LW hj rfl]
 have Cb:(ai (aa base M V)).take (e+2)=ai (aa base (e+2) V):=by unfold ai;rw[<-BE,Ir hM]
 have hw:ct prog Bs (au f215 76) [.func (.func 234) #[] #[],.slice (some ⟨3,j,some 7⟩) (e+3) j,sl 2 (e+2)] [(3,some (.row (ai (aa base L (A%(V*base^(j+1))))) 172 1)),(2,some (.row (ai (aa base M V)) 172 1))]
   (aM (A/V/base^j%base)) [(3,.row (ai (aa base L (A%(V*base^j)))) 172 1)]:=by
  refine aHf (x:=.func 234) (Rn:=e+2) k_ k_ d_ o_ (e9 _) (e9 _) rfl rfl (e9 _) o_ λw g cap cur c' v2 hg kQ lP jf bE hc hv aY=>?_;have hv:cZ w v2 (e+2) ((ai (aa base M V)).take (e+2)):=hv;rw[Cb]at hv;have:=aHQ hdg hg kQ lP jf bE hc hv aY;rw[hq,hr]at this;exact this
 exact ay [.rw 62 (c8 (j+1)) (vI j) (dP j),.ge 63 j 0 true s_,.rw 67 (c8 (j+1)) (vI j) (dP j),.rw 69 (c8 (j+1)) (vI j) (dP j),.rw 70 (c8 (j+1)) (vI j) (dP j),.sum 72 j (e+2) (j+(e+2)) rfl o_,.sum 73 (j+(e+2)) 1 (j+(e+3)) rfl o_,.part f215 74 3 L j (j+(e+3)) 1 (e+3) j (fY j) o_ rfl o_ k_,.step 76 _ _ _ _ _ hw,.ix f215 77 4 p j hj k_,.st f215 100077 172 4 j (.row (ai (gh base p (j+1) (A/V))) 172 1) (aM (A/V/base^j%base)) (.row (ai (gh base p j (A/V))) 172 1) rfl bH rfl k_,.rw 64 (c8 (j+1)) (vI j) (dP j),.wr 65 .i64 ((j:Int)-1) ((j:Int)-1) (nU o_)]
theorem aHS(h:DV e L A V)(hM:e+2<=M){p:Nat}(hp:p+(e+2)=L):
  ag prog Bs 110 (.block 0 (af f215 0)) (Gf e L p p) (Aj L A V M p p) 5 ⟨.normal,Gf e L p 0,Aj L A V M p 0,5⟩:=by
 have:=cg (P:=prog) (B:=Bs) (N:=110) (b:=aE (af f215 0)) (next:=5) (r:=⟨.exit 0,Gf e L p 0,Aj L A V M p 0,5⟩) p (λi=>Gf e L p (p-i)) (λi=>Aj L A V M p (p-i)) (λi t _=>jx (l:=Aj L A V M p (p-i)) (m:=Aj L A V M p (p-0)) rfl t)
  (λi hi=>by
   have e1:p-i=(p-(i+1))+1:=by omega
   simp only[e1];exact aHR h hM hp o_)
  (by simp only[uN];exact ay [.rw 63 (.bool (decide (((0:Nat):Int)-1>=0))) a_ rfl]) n_
 exact bO (id:=0) this
section
variable{m X k p:Nat}
def Gg(m L k i:Nat):aL:=[(83,vI i),(82,vI m),(14,sl 3 m),(10,sl 3 L),(8,vI k)]
def yf(L X k i:Nat):aC:=[(3,.row (ai (cQ base L i (X/2^k) X)) 172 1)]
theorem aHT(hi:i<m)(YS:m+1<=L)(hk:k<=31)(h63:L<35184372088832):
  ag prog Bs 110 (aE (af f215 2)) (Gg m L k i) (yf L X k i) 5 ⟨.normal,Gg m L k (i+1),yf L X k (i+1),5⟩:=by
 have uz:(ai (cQ base L i (X/2^k) X))[i+1]?=some (aM (X/base^(i+1)%base)):=Gc o_ o_;have r5:(ai (cQ base L i (X/2^k) X))[i]?=some (aM (X/base^i%base)):=Gc o_ o_;have hd:=YF (B:=base) (k:=k) (X:=X) (i:=i) d_ ⟨2^(32-k),by rw[<-dX,show k+(32-k)=32 by omega]⟩;have bH:eM prog 172 (ai (cQ base L i (X/2^k) X)) i (aM (X/2^k/base^i%base))=some (ai (cQ base L (i+1) (X/2^k) X)):=IP o_ rfl;have hx:X/base^(i+1)%base<base:=cC _ d_;have hy:X/base^i%base<base:=cC _ d_;generalize X/base^(i+1)%base=x at *;generalize X/base^i%base=y at *;have hb:(x*base+y)/2^k<18446744073709551616:=eP (sB _ _) (by unfold base at *;omega);have kD:=RA hx hy;have hs:((x*base+y:Nat):Int).fdiv (2^(min k IntKind.u64.bits))=(((x*base+y)/2^k:Nat):Int):=by rw[show min k IntKind.u64.bits=k from mE (by show k<=64;omega),rh _ (F3 d_),sA,F4];rfl
 generalize (x*base+y)/2^k=z at *;exact ay [.lt 84 i m true (by simp[hi]),.sum 90 i 1 (i+1) rfl o_,.ix f215 91 3 L (i+1) o_ k_,.ld f215 92 172 3 (i+1) (.row (ai (cQ base L i (X/2^k) X)) 172 1) (aM x) rfl (by rw[ft];exact uz) k_,.wr 93 .u64 (x:Int) (x:Int) (ql (lA hx d_)),.wr 94 .u64 ((x:Int)*2^32) ((x*base:Nat):Int) (Rz hx),.ix f215 97 3 L i o_ k_,.ld f215 98 172 3 i (.row (ai (cQ base L i (X/2^k) X)) 172 1) (aM y) rfl (by rw[ft];exact r5) k_,.wr 99 .u64 (y:Int) (y:Int) (ql (lA hy d_)),.quo 100 .u64 _ ((x*base+y:Nat):Int) kD,.shr f215 102 .u64 ((x*base+y:Nat):Int) (z:Int) k hs k_,.wr 103 .u32 (z:Int) ((X/2^k/base^i%base:Nat):Int) (by rw[mI,<-hd];unfold base;omega),.ix f215 104 3 m i hi k_,.st f215 100104 172 3 i (.row (ai (cQ base L i (X/2^k) X)) 172 1) (aM (X/2^k/base^i%base)) (.row (ai (cQ base L (i+1) (X/2^k) X)) 172 1) rfl bH rfl k_,.sum 105 i 1 (i+1) rfl o_]
theorem aHU(hX:X<base^m)(YS:m+1<=L)(hk:k<=31)(h63:L<35184372088832):
  ag prog Bs 110 (.block 2 (af f215 2)) (Gg m L k 0) [(3,.row (ai (aa base L X)) 172 1)] 5 ⟨.normal,Gg m L k m,[(3,.row (ai (aa base L (X/2^k))) 172 1)],5⟩:=by
 have e0:yf L X k 0=[(3,.row (ai (aa base L X)) 172 1)]:=by unfold yf cQ aa;simp
 have e1:yf L X k m=[(3,.row (ai (aa base L (X/2^k))) 172 1)]:=by unfold yf;rw[D6 d_ hX (eP (sB _ _) hX)]
 rw[<-e0,<-e1];exact bO (id:=2) (cg (b:=aE (af f215 2)) (r:=⟨.exit 2,Gg m L k m,yf L X k m,5⟩) m (Gg m L k) (yf L X k) (λi t _=>jx (l:=yf L X k i) (m:=yf L X k 0) rfl t)
  (λi hi=>aHT hi YS hk h63) (ay [.lt 84 m m false s_]) n_)
end
end
section
variable{Bs:ae}{N:Nat}
theorem aHV{y:m_}(ho:da o.op=some y){n:Nat}(hx:pv x1 a)(hd:0<d)(lY:d<base)(h1:nd base a<35184372088832)(nL:nd base a=n)(kn:Nat):
  ct prog Bs o [.func (.func 231) #[] #[],sl k1 n,aM d] [(k1,some x1),(kn,none)] (.tuple #[sl kn (nd base (a/d)),aM (a%d)]) [(kn,tG (a/d))]:=by
 subst nL;refine jy (fi:=[]) (ca:=[]) ho k_ λι cc w hm hn args' aU=>?_;rw[jg,gO]at aU;obtain⟨va,vb,rfl,hv,gW⟩:=iH aU;rw[gW.eW rfl];refine(aGL (Ac hm (hn _ (aN ..)) hx hv) hd lY h1).mono ?_
 rintro e w' ⟨v,rfl,h1,h2⟩
 obtain⟨ao,q1,q2,q3⟩:=DN hm h2 (k:=kn) (hn _ (bB _ (aN ..))) h1 (e9 _);exact⟨ao,_,rfl,q1,.tup (.cons q3 (.cons (.same rfl) .nil)),q2⟩
end
theorem YT(h:a<base):aa base 1 a=[a]:=by simp[aa,dG h]
theorem RJ{vb:i_}(fQ:gZ w va a)(kF:gZ w vb b)(bX:a<b)(h1:nd base a<35184372088832)(h2:nd base b<35184372088832):
  Calls prog 215 #[va,vb] w λe w'=>e=.returned (.tuple #[.slice none 0 0,va])/\Below w.heap.size w w':=by
 have hl:∀ s∈[cq.row va (nd base a) (ai (aa base (nd base a) a)),cq.row vb (nd base b) (ai (aa base (nd base b) b))],s.OK w:=by
  intro s hs;simp at hs;rcases hs with rfl|rfl
  ·exact⟨fQ,e9 _⟩
  ·exact⟨kF,e9 _⟩
 have hc:pk a b<0:=by have:=@L9 a b;omega
 refine kU (Q:=λe w'=>e=.returned (.tuple #[.slice none 0 0,va])/\Below w.heap.size w w') mixed func215 [cq.row va (nd base a) (ai (aa base (nd base a) a)),cq.row vb (nd base b) (ai (aa base (nd base b) b))] hl 100 (N:=110) k_
  (rs:=[(.step 18 (au f215 18) _ _ _ _ (Mn (y:=.func 220) (k1:=0) (k2:=1) k_ k_ (wo a) (wo b) rfl λw va vb ha hb=>Ma ha hb h1 h2):aO prog (ae.at w) 110),.rw 19 (.bool (decide (pk a b<0))) b_ (by rw[aD hc])])
  (v:=.tuple #[.slice none 0 0,sl 0 (nd base a)]) (ms:=[]) k_ λao bP v' w' jH bh _ dw=>⟨?_,bh.base⟩
 obtain⟨cU,rfl,aU⟩:=jH.tg;obtain⟨p,q,hp,h3,h4⟩:=iH aU;cases dw with
 |cons h5 _=>
 have:q=va:=Ik h4 h5;have e:cU=#[p,q]:=uE.1 (by rw[hp]);rw[e,h3.eW rfl,this]
theorem RK{vb:i_}(fQ:gZ w va a)(kF:gZ w vb b)(bX:b<=a)(kk:b≠0)(hb:b<base)(h1:nd base a<35184372088832):
  Calls prog 215 #[va,vb] w λe w'=>∃ vq vr,e=.returned (.tuple #[vq,vr])/\jk w w' vq (a/b)/\jk w w' vr (a%b)/\Below w.heap.size w w':=by
 have cP:nd base b=1:=by have h3:=iN (B:=base) (n:=1) d_ (by rw[BX];exact hb);have h4:=vS (B:=base) d_ kk;omega
 have D8:cZ w vb 1 (ai (aa base 1 b)):=by have:=kF;unfold gZ at this;rw[cP]at this;exact this
 have hl:∀ s∈[cq.row va (nd base a) (ai (aa base (nd base a) a)),cq.row vb 1 (ai (aa base 1 b))],s.OK w:=by
  intro s hs;simp at hs;rcases hs with rfl|rfl
  ·exact⟨fQ,e9 _⟩
  ·exact⟨D8,e9 _⟩
 have hc:¬pk a b<0:=by have:=@L9 a b;omega
 have tH:pv (.view (ai (aa base 1 b))) b:=by have:=wo b;rw[cP]at this;exact this
 have hr:a%b<base:=lA (cC _ (sn kk)) hb;have RL:ct prog (ae.at w) (au f215 18) [.func (.func 220) #[] #[],sl 0 (nd base a),sl 1 1] [(0,some (.view (ai (aa base (nd base a) a)))),(1,some (.view (ai (aa base 1 b))))] (.int .i64 (pk a b)) []:=by have:=Mn (Bs:=ae.at w) (o:=au f215 18) (f:=220) (y:=.func 220) (k1:=0) (k2:=1) (res:=.int .i64 (pk a b)) k_ k_ (wo a) tH rfl λw va vb ha hb=>Ma ha hb h1 o_;rw[cP]at this;exact this
 refine kU (Q:=λe w'=>∃ vq vr,e=.returned (.tuple #[vq,vr])/\jk w w' vq (a/b)/\jk w w' vr (a%b)/\Below w.heap.size w w') mixed func215 [cq.row va (nd base a) (ai (aa base (nd base a) a)),cq.row vb 1 (ai (aa base 1 b))] hl 100 (N:=110) k_
  (rs:=[(.step 18 (au f215 18) _ _ _ _ RL:aO prog (ae.at w) 110),.rw 19 (.bool (decide (pk a b<0))) a_ (by rw[aQ hc]),.ld f215 28 172 1 0 (.view (ai (aa base 1 b))) (aM b) rfl (by rw[ft,YT hb];rfl) k_,.step 29 (au f215 29) _ _ _ _ (aHV (y:=.func 231) (k1:=0) k_ (wo a) (sn kk) hb h1 rfl 2),.bs f215 34 3 1 172 1 [0] (aM 0) [aM (a%b)] #[aM (a%b)] (.row (ai (aa base 1 (a%b))) 172 1) (by rw[YT hr];rfl) (λv hv=>by simp at hv;subst hv;rfl) (λv hv=>by simp at hv;subst hv;rfl) k_ rfl o_ o_ k_,.step 35 (au f215 35) _ _ _ _ (Mr (y:=.func 203) (k:=3) (n:=1) (M:=1) (a:=a%b) (x:=.row (ai (aa base 1 (a%b))) 172 1) k_ rfl rfl (aZ 1) (by rw[BX];exact hr) o_ rfl)])
  (v:=.tuple #[sl 2 (nd base (a/b)),sl 3 (nd base (a%b))]) (ms:=[(2,tG (a/b)),(3,.row (ai (aa base 1 (a%b))) 172 1)]) k_ λao bP v' w' jH bh dD _=>?_
 obtain⟨cU,rfl,aU⟩:=jH.tg;obtain⟨p,q,hp,h3,h4⟩:=iH aU;have e:cU=#[p,q]:=uE.1 (by rw[hp]);subst e;exact⟨p,q,rfl,vX bh (dD _ (aN ..)) (dL d_ _) h3,vX bh (dD _ (bB _ (aN ..))) (by rw[BX];exact hr) h4,bh.base⟩
theorem norm(bX:b<=a)(hb:nd base b=e+2)(h1:nd base a<35184372088831):
  ∃ k,k<=31/\32-bl (b/base^(e+1)%base)=k/\DV e (nd base a+1) (a*2^k) (b*2^k)/\nd base (b*2^k)=e+2/\b*2^k<base^(e+3):=by
 have av:=dL (B:=base) d_ b;rw[hb]at av;have fJ:base^(e+1)<=b:=XD d_ o_;have hp:0<base^(e+1):=cE d_;have hd:b/base^(e+1)%base=b/base^(e+1):=DO av;obtain⟨d,kX⟩:∃ d,d=b/base^(e+1):=⟨_,rfl⟩;have lY:d<base:=by rw[kX,<-hd];exact cC _ d_
 have Cc:d≠0:=by have:=Mo fJ hp;omega
 obtain⟨t,t1,t2,t3⟩:=aHC Cc;have ht:t<=31:=by
  rcases eQ t 32 with h|h
  ·omega
  ·have:=cX (show 0<2 by decide) h;have e32:(2:Nat)^32=base:=by decide
   omega
 have fT:0<2^(31-t):=cE d_;have hV1:d*2^(31-t)<=b*2^(31-t)/base^(e+1):=by rw[B7 hp,Ae];refine eR _ ?_;rw[kX];exact B8 _ _
 have wx:base<=2*(b*2^(31-t)/base^(e+1)):=by
  have h3:2^t*2^(31-t)<=d*2^(31-t):=eR _ t2;rw[<-dX,show t+(31-t)=31 by omega]at h3;have e31:base=2*2^31:=by decide
  omega
 have wk:b*2^(31-t)<base^(e+2):=by
  have h3:b<(d+1)*base^(e+1):=by rw[kX];exact(gY hp).1 (F5 _)
  have h4:(d+1)*2^(31-t)<=base:=by have:(d+1)*2^(31-t)<=2^(t+1)*2^(31-t):=eR _ t3;rw[<-dX,show t+1+(31-t)=32 by omega]at this;exact this
  have h5:b*2^(31-t)<(d+1)*base^(e+1)*2^(31-t):=Ab h3 fT;rw[Ae]at h5;have h6:(d+1)*2^(31-t)*base^(e+1)<=base*base^(e+1):=eR _ h4;rw[cH base,<-dh]at h6;exact cy h5 h6
 have RM:e+2<=nd base a:=by rw[<-hb];exact iO d_ bX
 refine⟨31-t,by omega,by rw[hd,<-kX,t1];omega,{ hV:=wk,top:=wx,hL:=by omega,hA:=?_,h63:=by omega },?_,cy wk (cX d_ o_)⟩
 ·have ha:=dL (B:=base) d_ a;have h3:a*2^(31-t)<base^nd base a*2^(31-t):=Ab ha fT;have h4:2^(31-t)*base^(e+1)<=b*2^(31-t):=by rw[cH];exact eR _ fJ
  have h5:2^(31-t)*base^(e+1)*base^(nd base a+1-(e+2))<=b*2^(31-t)*base^(nd base a+1-(e+2)):=eR _ h4;rw[fq,<-dX,show e+1+(nd base a+1-(e+2))=nd base a by omega,cH]at h5;exact cy h3 h5
 ·refine Yl (iN d_ wk) ?_;rw[<-hb];exact iO d_ (DY _ fT)
theorem RO{vb:i_}(fQ:gZ w va a)(kF:gZ w vb b)(bX:b<=a)(hb:nd base b=e+2)(h1:nd base a<35184372088831):
  Calls prog 215 #[va,vb] w λe w'=>∃ vq vr,e=.returned (.tuple #[vq,vr])/\jk w w' vq (a/b)/\jk w w' vr (a%b)/\Below w.heap.size w w':=by
 obtain⟨k,hk,RQ,Gh,Mt,hV3⟩:=norm bX hb h1;have pc:nd base b<35184372088831:=eP (iO d_ bX) h1;have av:=dL (B:=base) d_ b;have aSu:=dL (B:=base) d_ a;rw[hb]at av;have Dt:0<2^k:=cE d_;have IU:0<b:=by
  rcases nr b with h|h
  ·rw[h,qd]at hb;omega
  ·exact h
 have D8:cZ w vb (e+2) (ai (aa base (e+2) b)):=by have:=kF;unfold gZ at this;rw[hb]at this;exact this
 have hl:∀ s∈[cq.row va (nd base a) (ai (aa base (nd base a) a)),cq.row vb (e+2) (ai (aa base (e+2) b))],s.OK w:=by
  intro s hs;simp at hs;rcases hs with rfl|rfl
  ·exact⟨fQ,e9 _⟩
  ·exact⟨D8,e9 _⟩
 have hc:¬pk a b<0:=by have:=@L9 a b;omega
 have tH:pv (.view (ai (aa base (e+2) b))) b:=by have:=wo b;rw[hb]at this;exact this
 have RL:ct prog (ae.at w) (au f215 18) [.func (.func 220) #[] #[],sl 0 (nd base a),sl 1 (e+2)] [(0,some (.view (ai (aa base (nd base a) a)))),(1,some (.view (ai (aa base (e+2) b))))] (.int .i64 (pk a b)) []:=by have:=Mn (Bs:=ae.at w) (o:=au f215 18) (f:=220) (y:=.func 220) (k1:=0) (k2:=1) (res:=.int .i64 (pk a b)) k_ k_ (wo a) tH rfl λw va vb ha hb=>Ma ha hb o_ o_;rw[hb]at this;exact this
 have RM:e+2<=nd base a:=by rw[<-hb];exact iO d_ bX
 have aSv:nd base a=nd base a:=rfl;have lz:=aHG (x:=b/base^(e+1)%base) (cC _ d_);rw[RQ]at lz;have gD:2<=e+2:=by omega
 obtain⟨p,hp⟩:∃ p,p+(e+2)=nd base a+1:=⟨nd base a+1-(e+2),by omega⟩;have Mu:=aHS (Bs:=ae.at w) (M:=e+3) Gh o_ hp;have hA:=Gh.hA;rw[show nd base a+1-(e+2)=p by omega]at hA;have RR:a*2^k%(b*2^k*base^p)=a*2^k:=dG hA;have RS:a*2^k%(b*2^k*base^0)=a%b*2^k:=by rw[ri,fY,YH]
 have hQ:a*2^k/(b*2^k)=a/b:=YI _ _ Dt;have aHW:a%b*2^k<base^(e+2):=by refine cy (Ab (cC _ IU) Dt) (jm Gh.hV)
 have xR:=aHU (Bs:=ae.at w) (L:=nd base a+1) (k:=k) aHW o_ hk o_;rw[QQ _ Dt]at xR;have IV:a/b<base^p:=by rw[<-hQ,gY Gh.pos,cH (base^p)];exact hA
 have Gi:a%b<base^(e+2):=lA (cC _ IU) av;unfold Aj at Mu;rw[RR,RS,hQ,LV,Iw]at Mu;generalize hn:nd base a=n at *
 refine kU (Q:=λe w'=>∃ vq vr,e=.returned (.tuple #[vq,vr])/\jk w w' vq (a/b)/\jk w w' vr (a%b)/\Below w.heap.size w w') mixed func215 [cq.row va n (ai (aa base n a)),cq.row vb (e+2) (ai (aa base (e+2) b))] hl 100 (N:=110) k_
  (rs:=[(.step 18 (au f215 18) _ _ _ _ RL:aO prog (ae.at w) 110),.rw 19 (.bool (decide (pk a b<0))) a_ (by rw[aQ hc]),.fX 23 (e+2) 1 false s_,.eO 39 (e+2) 1 (e+1) rfl o_,.ix f215 40 1 (e+2) (e+1) o_ k_,.ld f215 41 172 1 (e+1) (.view (ai (aa base (e+2) b))) (aM (b/base^(e+1)%base)) rfl (by rw[ft];exact DG.vd o_) k_,lz.at 42,.step 45 (au f215 45) _ _ _ _ (YR (y:=.func 233) (k1:=1) k_ tH hk o_ hb 2),.step 46 (au f215 46) _ _ _ _ (Mr (y:=.func 203) (k:=2) (n:=e+3) (M:=e+3) (a:=b*2^k) (x:=.row (ai (aa base (e+3) (b*2^k))) 172 1) k_ rfl rfl (aZ _) hV3 o_ Mt),.step 49 (au f215 49) _ _ _ _ (YR (y:=.func 233) (k1:=0) (x1:=.view (ai (aa base n a))) k_ (by have:=wo a;rw[hn]at this;exact this) hk o_ hn 3),.eO 55 (n+1) (e+2) p o_ o_,.pf f215 56 4 p 172 4 (aM 0) (ai (List.replicate p 0)) (DR _) rfl rfl o_ (by simp[maxLen];omega) k_,.eO 60 (n+1) (e+2) p o_ o_,.wr 61 .i64 ((p:Int)-1) ((p:Int)-1) (nU o_),.code 0 _ _ _ _ _ Mu,.upto f215 80 3 (n+1) (e+2) 1 o_ k_,.code 2 _ _ _ _ _ xR,.step 107 (au f215 107) _ _ _ _ (Mr (y:=.func 203) (k:=4) (n:=p) (M:=p) (a:=a/b) (x:=.row (ai (aa base p (a/b))) 172 1) k_ rfl rfl (aZ _) IV o_ rfl),.step 109 (au f215 109) _ _ _ _ (Mr (y:=.func 203) (k:=3) (n:=e+2) (M:=n+1) (a:=a%b) (x:=.row (ai (aa base (n+1) (a%b))) 172 1) k_ rfl rfl o_ Gi o_ rfl)])
  (v:=.tuple #[sl 4 (nd base (a/b)),sl 3 (nd base (a%b))]) (ms:=[(4,.row (ai (aa base p (a/b))) 172 1),(3,.row (ai (aa base (n+1) (a%b))) 172 1)]) k_ λao bP v' w' jH bh dD _=>?_
 obtain⟨cU,rfl,aU⟩:=jH.tg;obtain⟨p,q,hp,h3,h4⟩:=iH aU;have e:cU=#[p,q]:=uE.1 (by rw[hp]);subst e;exact⟨p,q,rfl,vX bh (dD _ (aN ..)) IV h3,vX bh (dD _ (bB _ (aN ..))) (cy Gi (cX d_ o_)) h4,bh.base⟩
def sv(neg:Bool)(m:Nat):Value:=.agg #[.bool neg,oK m]
def sg(neg:Bool)(m:Nat):Int:=if neg then -(m:Int)else m
def bC(z:Int):Value:=sv (decide (z<0)) z.natAbs
theorem uQ(neg:Bool)(m:Nat):Ad neg m=bC (sg neg m):=by
 cases neg
 ·have e:decide ((m:Int)<0)=false:=by simp
  show Value.agg #[.bool false,oK m]=Value.agg #[.bool (decide ((m:Int)<0)),oK (m:Int).natAbs];rw[e];rfl
 ·have e:(decide (-(m:Int)<0))=decide (m≠0):=by rw[pe];omega
  show Value.agg #[.bool (decide (m≠0)),oK m]=Value.agg #[.bool (decide (-(m:Int)<0)),oK (-(m:Int)).natAbs];rw[e,IW];rfl
theorem ry{C:Int->Value->Prop}(h0:∀ m:Nat,C m (sv false m))(h1:∀ m:Nat,m≠0->C (-(m:Int)) (sv true m))(z:Int):C z (bC z):=by
 by_cases hz:z<0
 ·obtain⟨m,rfl⟩:∃ m:Nat,z=-(m:Int):=⟨z.natAbs,by omega⟩;have:=h1 m o_;have e:bC (-(m:Int))=sv true m:=by unfold bC;rw[aD hz,IW];rfl
  rw[e];exact this
 ·obtain⟨m,rfl⟩:∃ m:Nat,z=(m:Int):=⟨z.natAbs,by omega⟩;have e:bC (m:Int)=sv false m:=by unfold bC;rw[aQ hz];rfl
  rw[e];exact h0 m
theorem wy{n:Nat}(h:m<2^n):nd base m<=n:=iN d_ (cy h (YU d_ n))
theorem uR{n:Nat}(h:m<2^n):nd 256 m<=n:=iN d_ (cy h (YU d_ n))
theorem YV{n:Nat}(h:m<2^n)(hn:n<=1099511627776):Calls prog 214 #[oK m] w λe w'=>∃ v,e=.returned v/\jk w w' v m/\Below w.heap.size w w':=by have e:jY (BA (cz m))=m:=D2 m;have:=aGD (w:=w) (s:=BA (cz m)) (by rw[nT,sE];have:=uR h;omega);rw[e]at this;exact this
section
variable{Bs:ae}{N:Nat}
def aO.of(fn:Func)(key k m n:Nat)(h:m<2^n)(hn:n<=1099511627776){y:m_}(ho:da (au fn key).op=some y):aO prog Bs N:=
 .step key (au fn key) [.func (.func 214) #[] #[],oK m] [(k,none)] (sl k (nd base m)) [(k,tG m)] (Mm ho k_ (λv hv=>by simp at hv;subst hv;rfl) (λ_=>YV h hn) k)
def aO.add(fn:Func)(key k k1 k2 a b:Nat)(h1:nd base a<35184372088832)(h2:nd base b<35184372088832){y:m_}(ho:da (au fn key).op=some y):aO prog Bs N:=
 .step key (au fn key) _ _ _ _ (Rt (f:=219) (k1:=k1) (k2:=k2) ho k_ (rp a) (rp b) (λ_ _ _ ha hb=>aGb ha hb h1 h2) k)
def aO.less(fn:Func)(key k k1 k2 a b:Nat)(bX:b<=a)(h1:nd base a<35184372088832){y:m_}(ho:da (au fn key).op=some y):aO prog Bs N:=
 .step key (au fn key) _ _ _ _ (Rt (f:=221) (k1:=k1) (k2:=k2) ho k_ (rp a) (rp b) (λ_ _ _ ha hb=>aGg ha hb bX h1) k)
def aO.mul(fn:Func)(key k k1 k2 a b:Nat)(h1:nd base a<1099511627777)(h2:nd base b<1099511627777){y:m_}(ho:da (au fn key).op=some y):aO prog Bs N:=
 .step key (au fn key) _ _ _ _ (Rt (f:=226) (k1:=k1) (k2:=k2) ho k_ (rp a) (rp b) (λ_ _ _ ha hb=>aGt ha hb o_) k)
def aO.cmp(fn:Func)(key k1 k2 a b:Nat)(h1:nd base a<35184372088832)(h2:nd base b<35184372088832){y:m_}(ho:da (au fn key).op=some y):aO prog Bs N:=
 .step key (au fn key) _ _ _ _ (Mn (f:=220) (k1:=k1) (k2:=k2) (res:=.int .i64 (pk a b)) ho k_ (rp a) (rp b) rfl λ_ _ _ ha hb=>Ma ha hb h1 h2)
def aO.Cd(fn:Func)(key k a:Nat)(x:Obj)(hx:pv x a)(neg:Bool)(h1:nd base a<35184372088832){y:m_}(ho:da (au fn key).op=some y):aO prog Bs N:=
 .step key (au fn key) _ _ _ _ (F8 (f:=156) (k1:=k) (post:=[.bool neg]) (res:=Ad neg a) ho k_ hx (λv hv=>by simp at hv;subst hv;rfl) rfl λ_ _ h=>YG h h1)
end
def wz(neg:Bool):List UInt8->Bool
 |[]=>!neg
 |c::_=>decide (c≠0)
theorem rz(neg:Bool)(l:List UInt8):aB prog 128 [.agg #[.bool neg,.string (BA l)]] (.bool (wz neg l)):=by
 cases l with
 |nil=>exact aV func128 (λ_=>[.rw 5 (.bool ((BA []).toList==(ByteArray.mk #[]).toList)) b_ (by rw[DU];rfl)])
 |cons c l=>
  have e:(((c.toNat:Nat):Int)!=0)=decide (c≠0):=by
   by_cases h:c=0
   ·subst h;rfl
   ·rw[aD h,qg];intro h2;exact h (L7.1 (by simpa using h2))
  exact aV func128 (λ_=>[.rw 5 (.bool ((BA (c::l)).toList==(ByteArray.mk #[]).toList)) a_ (by rw[DU];rfl),.sx f128 11 (BA (c::l)) 0 c (by rw[IE];rfl) k_,.rw 12 (.bool (((c.toNat:Nat):Int)!=0)) (.bool (decide (c≠0))) (by rw[e])])
theorem hJ(neg:Bool)(h:neg=true->m≠0):aB prog 128 [sv neg m] b_:=by
 have:=rz neg (cz m);have e:wz neg (cz m)=true:=by
  by_cases hm:m=0
  ·subst hm;rw[B4];cases neg
   ·rfl
   ·exact absurd rfl (h rfl)
  ·obtain⟨c,l,h1,h2⟩:=Mg hm;rw[h1];exact aD h2
 rw[e]at this;exact this
theorem kH(h:z.natAbs<9223372036854775808):aB prog 105 [.int .i64 z] (bC z):=by
 have jA:nd base z.natAbs<35184372088832:=by have:=wy (m:=z.natAbs) (n:=63) o_;omega
 by_cases hz:z<0
 ·have e:=uQ true z.natAbs;have e2:sg true z.natAbs=z:=by show -((z.natAbs:Nat):Int)=z;omega
  rw[e2]at e;rw[<-e];exact aV func105 (λ_=>[.rw 4 (.bool (decide (z<0))) b_ (by rw[aD hz]),.wr 6 .u64 z (z+18446744073709551616) (by rw[jz];omega),.wr 7 .u64 (0-(z+18446744073709551616)) (z.natAbs:Int) (by rw[jz];omega),.step 8 (au f105 8) _ _ _ _ (Mm (y:=.func 155) (args:=[.int .u64 (z.natAbs:Int)]) k_ k_ (λv hv=>by simp at hv;subst hv;rfl) (λ_=>Q5 (n:=z.natAbs) o_) 1),.Cd f105 9 1 z.natAbs (tG z.natAbs) (rp _) true jA (y:=.func 156) k_])
 ·have e:=uQ false z.natAbs;have e2:sg false z.natAbs=z:=by show((z.natAbs:Nat):Int)=z;omega
  rw[e2]at e;rw[<-e];exact aV func105 (λ_=>[.rw 4 (.bool (decide (z<0))) a_ (by rw[aQ hz]),.wr 11 .u64 z (z.natAbs:Int) (by rw[jz];omega),.step 12 (au f105 12) _ _ _ _ (Mm (y:=.func 155) (args:=[.int .u64 (z.natAbs:Int)]) k_ k_ (λv hv=>by simp at hv;subst hv;rfl) (λ_=>Q5 (n:=z.natAbs) o_) 1),.Cd f105 13 1 z.natAbs (tG z.natAbs) (rp _) false jA (y:=.func 156) k_])
theorem qm(z:Int):aB prog 129 [bC z] (.int .i64 z.sign):=by
 refine ry (C:=λz v=>aB prog 129 [v] (.int .i64 z.sign)) (λm=>?_) (λm hm=>?_) z
 ·by_cases h:m=0
  ·subst h;exact aV func129 (λ_=>[(hJ false (m:=0) n_).at 5,.rw 10 (.bool ((BA (cz 0)).toList==(ByteArray.mk #[]).toList)) b_ (by rw[qj];rfl)])
  ·have e:((m:Nat):Int).sign=1:=yg o_;rw[e];exact aV func129 (λ_=>[(hJ false (m:=m) n_).at 5,.rw 10 (.bool ((BA (cz m)).toList==(ByteArray.mk #[]).toList)) a_ (by rw[qj,aQ h])])
 ·have e:(-(m:Int)).sign=-1:=D9 o_;rw[e];exact aV func129 (λ_=>[(hJ true (m:=m) (λ_=>hm)).at 5,.rw 10 (.bool ((BA (cz m)).toList==(ByteArray.mk #[]).toList)) a_ (by rw[qj,aQ hm])])
theorem nu(z:Int):aB prog 218 [bC z] (bC (-z)):=by
 refine ry (C:=λz v=>aB prog 218 [v] (bC (-z))) (λm=>?_) (λm hm=>?_) z
 ·have e:=uQ true m;rw[<-show sg true m=-(m:Int)from rfl,<-e];have e:(!((BA (cz m)).toList==(ByteArray.mk #[]).toList))=decide (m≠0):=by rw[qj];simp
  exact aV func218 (λ_=>[(hJ false (m:=m) n_).at 4,.rw 13 (.bool (!((BA (cz m)).toList==(ByteArray.mk #[]).toList))) (.bool (decide (m≠0))) (by rw[e])])
 ·have e:=uQ false m;rw[IX,<-show sg false m=(m:Int)from rfl,<-e];exact aV func218 (λ_=>[(hJ true (m:=m) (λ_=>hm)).at 4])
theorem RT{n1 n2:Bool}{p:Nat}(v1:n1=true->m1≠0)(v2:n2=true->m2≠0)(h1:m1<2^p)(h2:m2<2^q)(hp:p<=1099511627776)(hq:q<=1099511627776):
  aB prog 186 [sv n1 m1,sv n2 m2] (bC (sg n1 m1+sg n2 m2)):=by
 have b1:=wy h1;have b2:=wy h2;have bp:nd base (m1+m2)<35184372088832:=by
  have:=wy (m:=m1+m2) (n:=p+q+1) (by have e1:=cX (show 0<2 by decide) (show p<=p+q by omega);have e2:=cX (show 0<2 by decide) (show q<=p+q by omega);rw[dh];omega)
  omega
 have k1:=iO (B:=base) d_ (Ea m1 m2);have k2:=iO (B:=base) d_ (Ea m2 m1);obtain⟨ge,a,b,fJ,bX,ha,e⟩:∃(ge:Bool) (a b:Nat),decide (m2<=m1)=ge/\b<=a/\(a=bif ge then m1 else m2)/\(b=bif ge then m2 else m1):=by
  by_cases h:m2<=m1
  ·exact⟨true,m1,m2,aD h,h,rfl,rfl⟩
  ·exact⟨false,m2,m1,aQ h,by omega,rfl,rfl⟩
 subst ha e;have bm:nd base ((bif ge then m1 else m2)-bif ge then m2 else m1)<35184372088832:=by cases ge<;>(dsimp only[cond];omega)
 have ba:nd base (bif ge then m1 else m2)<35184372088832:=by cases ge<;>(dsimp only[cond];omega)
 have hc:decide (pk m1 m2>=0)=ge:=by rw[<-fJ];exact pe.2 L9
 have e:bC (sg n1 m1+sg n2 m2)=bif n1==n2 then Ad n1 (m1+m2)else Ad (bif ge then n1 else n2) ((bif ge then m1 else m2)-bif ge then m2 else m1):=by rw[uQ,uQ];cases n1<;>cases n2<;>cases ge<;>simp[sg]at fJ bX ⊢<;>congr 1<;>omega
 rw[e];refine eX mixed func186 100 (λ_=>[(hJ _ v1).at 8,(hJ _ v2).at 12,.of f186 18 3 m1 p h1 hp (y:=.func 214) k_,.of f186 21 4 m2 q h2 hq (y:=.func 214) k_]++
   bif n1==n2 then[.add f186 30 5 3 4 m1 m2 o_ o_ (y:=.func 219) k_,.Cd f186 33 5 (m1+m2) (tG (m1+m2)) (rp _) n1 bp (y:=.func 156) k_]else
   [.cmp f186 37 3 4 m1 m2 o_ o_ (y:=.func 220) k_,.rw 38 (.bool (decide (pk m1 m2>=0))) (.bool ge) (by rw[hc])]++
   bif ge then[.less f186 41 5 3 4 _ _ bX ba (y:=.func 221) k_,.Cd f186 44 5 _ (tG _) (rp _) n1 bm (y:=.func 156) k_]else
   [.less f186 47 5 4 3 _ _ bX ba (y:=.func 221) k_,.Cd f186 50 5 _ (tG _) (rp _) n2 bm (y:=.func 156) k_]) (λ_=>?_) k_ ?_<;>cases n1<;>cases n2<;>cases ge<;>kernel_rfl
theorem Eb{C:Int->Int->Value->Value->Prop}(h:∀(n1 n2:Bool) (m1 m2:Nat),(n1=true->m1≠0)->(n2=true->m2≠0)->C (sg n1 m1) (sg n2 m2) (sv n1 m1) (sv n2 m2))(x y:Int):C x y (bC x) (bC y):=
 ry (C:=λx v=>C x y v (bC y)) (λm=>ry (C:=λy u=>C m y (sv false m) u) (λk=>h false false m k n_ n_) (λk hk=>h false true m k n_ (λ_=>hk)) y)
  (λm hm=>ry (C:=λy u=>C (-(m:Int)) y (sv true m) u) (λk=>h true false m k (λ_=>hm) n_) (λk hk=>h true true m k (λ_=>hm) (λ_=>hk)) y) x
theorem pz(n:Bool)(m:Nat):(sg n m).natAbs=m:=by cases n<;>simp[sg]
theorem yi{x:Int}{p:Nat}(h1:x.natAbs<2^p)(h2:y.natAbs<2^q)(hp:p<=1099511627776)(hq:q<=1099511627776):aB prog 186 [bC x,bC y] (bC (x+y)):=by revert h1 h2;refine Eb (C:=λx y v u=>x.natAbs<2^p->y.natAbs<2^q->aB prog 186 [v,u] (bC (x+y))) (λn1 n2 m1 m2 v1 v2 h1 h2=>?_) x y;rw[pz]at h1 h2;exact RT v1 v2 h1 h2 hp hq
theorem kY(z:Int):aB prog 128 [bC z] b_:=
 ry (C:=λ_ v=>aB prog 128 [v] b_) (λ_=>hJ false n_) (λ_ hm=>hJ true λ_=>hm) z
theorem Ec{x:Int}{p:Nat}(h1:x.natAbs<2^p)(h2:y.natAbs<2^q)(hp:p<=1099511627776)(hq:q<=1099511627776):aB prog 185 [bC x,bC y] (bC (x-y)):=
 aV func185 (λ_=>[(kY x).at 6,(kY y).at 10,(nu y).at 16,(yi h1 (by rw[IW];exact h2) hp hq).at 17])
theorem RU{x:Int}{p:Nat}(h1:x.natAbs<2^p)(h2:y.natAbs<2^q)(hp:p<=1099511627776)(hq:q<=1099511627776):aB prog 217 [bC x,bC y] (.int .i64 (x-y).sign):=
 aV func217 (λ_=>[(Ec h1 h2 hp hq).at 7,(qm (x-y)).at 8])
theorem lZ{x:Int}{p:Nat}(h1:x.natAbs<2^p)(h2:y.natAbs<2^q)(hp:p<=1099511627776)(hq:q<=1099511627776):aB prog 199 [bC x,bC y] (bC (x*y)):=by
 revert h1 h2;refine Eb (C:=λx y v u=>x.natAbs<2^p->y.natAbs<2^q->aB prog 199 [v,u] (bC (x*y))) (λn1 n2 m1 m2 v1 v2 h1 h2=>?_) x y;rw[pz]at h1 h2;have b1:=wy h1;have b2:=wy h2;have bs:nd base (m1*m2)<35184372088832:=by have:=wy (m:=m1*m2) (n:=p+q) (by rw[dX];exact pg h1 h2);omega
 have e:sg n1 m1*sg n2 m2=sg (n1 !=n2) (m1*m2):=by cases n1<;>cases n2<;>simp[sg,Gj,Gk]
 rw[e,<-uQ];refine eX mixed func199 100 (λ_=>[(hJ _ v1).at 6,(hJ _ v2).at 10,.of f199 16 3 m1 p h1 hp (y:=.func 214) k_,.of f199 19 4 m2 q h2 hq (y:=.func 214) k_,.mul f199 20 5 3 4 m1 m2 o_ o_ (y:=.func 226) k_,.Cd f199 26 5 (m1*m2) (tG (m1*m2)) (rp _) (n1 !=n2) bs (y:=.func 156) k_]) (λ_=>?_) k_ ?_<;>cases n1<;>cases n2<;>kernel_rfl
section
variable{Bs:ae}{N:Nat}
theorem Mv(hm:aI Bs ι c w){n:Nat}{v:i_}(hk:c k=none)(h:w.ownsRow n2 ty size v n xs)(cA:∀ u∈xs,flat u=true)
  (di:∀ j y b o cap,c j=some y->y.owns=true->ι j=some (.at b o cap)->b<n2) :
  ∃ ao,Map.le ι ao/\aI Bs ao (aT c k (.view xs)) w/\aG ao (.slice (some ⟨k,0,some 7⟩) n 0) v:=by
 refine xT hm hk (.Xz h) cA λb o c' e j y o' bf hj hy he=>?_;have h1:=di j y b o' bf hj hy he;rcases h.2 with ⟨h2,_⟩|⟨g,cap,cur,h2,h3,_⟩
 ·rw[h2]at e;cases e
 ·rw[h2]at e;injection e with e1 e2;injection e1 with e1;injection e1 with e1;omega
def jO(a:Nat):Obj:=.view (ai (aa base (nd base a) a))
theorem Mw(hm:aI Bs ι c w):∀ j y b o cap,c j=some y->y.owns=true->ι j=some (.at b o cap)->b<w.heap.size:=λj y b o cap h1 h2 h3=>(hm.own j y b o cap h1 h2 h3).1
theorem YW(hm:aI Bs ι c w)(hle:Map.le ι ao)(h:∀ j y b o cap,c j=some y->y.owns=true->ι j=some (.at b o cap)->b<n2):
  ∀ j y b o cap,aT c k (.view xs) j=some y->y.owns=true->ao j=some (.at b o cap)->b<n2:=by
 intro j y b o cap hj hy hb;unfold aT at hj;by_cases bL:j=k
 ·rw[aq bL]at hj;injection hj with hj;subst hj;cases hy
 ·rw[al bL]at hj;obtain⟨l,e1,_⟩:=hm.born j y hj;have:=hle j l e1;rw[hb]at this;injection this with this;subst this;exact h j y b o cap hj hy e1
theorem aHX{y:m_}{c:Nat}(ho:da o.op=some y)(eB:fN prog f=true)(dw:∀ v∈args,flat v=true)
  (h:∀ w,Calls prog f args.toArray w λe w'=>∃ v,e=.returned v/\jk w w' v c/\Below w.heap.size w w') (k:Nat) :
  ct prog Bs o (.func (.func f) #[] #[]::args) [(k,none)] (sl k (nd base c)) [(k,jO c)]:=by
 refine jy (fi:=[]) (ca:=[]) ho eB λι cc w hm hn args' aU=>?_;rw[jg,gO]at aU;rw[mD aU dw];refine(h w).mono ?_
 rintro e w' ⟨v,rfl,h1,h2⟩
 obtain⟨ao,q1,q2,q3⟩:=XA hm h2 (k:=k) (hn _ (aN ..)) h1 (e9 _);exact⟨ao,v,rfl,q1,q3,q2⟩
def aO.yj(fn:Func)(key k m n:Nat)(h:m<2^n)(hn:n<=1099511627776){y:m_}(ho:da (au fn key).op=some y):aO prog Bs N:=
 .step key (au fn key) [.func (.func 214) #[] #[],oK m] [(k,none)] (sl k (nd base m)) [(k,jO m)] (aHX ho k_ (λv hv=>by simp at hv;subst hv;rfl) (λ_=>YV h hn) k)
theorem tJ(a:Nat):pv (jO a) a:=wo a
theorem Mx{y:m_}(ho:da o.op=some y){kq kr:Nat}(hk:kr≠kq)(tH:pv x1 a)(j8:x1.jc=true)(gB:pv x2 b)(kk:b≠0)(h1:nd base a<35184372088831)(h2:nd base b<35184372088831):
  ct prog Bs o [.func (.func 215) #[] #[],sl k1 (nd base a),sl k2 (nd base b)] [(k1,some x1),(k2,some x2),(kq,none),(kr,none)] (.tuple #[sl kq (nd base (a/b)),sl kr (nd base (a%b))]) [(kr,jO (a%b)),(kq,jO (a/b))]:=by
 refine jy (fi:=[]) (ca:=[]) ho k_ λι c w hm hn args' aU=>?_;rw[jg,gO]at aU;obtain⟨va,vb,rfl,hv,gW⟩:=iH aU;have gE:c k1=some x1:=hn (k1,some x1) s_;have fT:c k2=some x2:=hn (k2,some x2) s_;have IY:c kq=none:=hn (kq,none) s_;have RW:c kr=none:=hn (kr,none) s_;have ha:=Ac hm gE tH hv;have hb:=Ac hm fT gB gW;have fin:∀(w':h_) (vq vr:i_),Below w.heap.size w w'->(∃ bF,Map.le ι bF/\aI Bs bF (aT c kq (jO (a/b))) w'/\aG bF (sl kq (nd base (a/b))) vq/\∃ df,Map.le bF df/\aI Bs df (aT (aT c kq (jO (a/b))) kr (jO (a%b))) w'/\aG df (sl kr (nd base (a%b))) vr)->
   ∃ ao v',Ending.returned (.tuple #[vq,vr])=.returned v'/\Map.le ι ao/\aG ao (.tuple #[sl kq (nd base (a/b)),sl kr (nd base (a%b))]) v'/\aI Bs ao (kP c [(kr,jO (a%b)),(kq,jO (a/b))]) w':=by
  rintro w' vq vr gy ⟨bF,q1,q2,q3,df,s1,s2,s3⟩
  exact⟨df,_,rfl,q1.trans s1,.tup (.cons (q3.mono s1) (.cons s3 .nil)),s2⟩
 have IZ:∀ x,aT c kq x kr=none:=λx=>by unfold aT;rw[al hk];exact RW
 have new:∀(w':h_) (vq vr:i_),Below w.heap.size w w'->jk w w' vq (a/b)->jk w w' vr (a%b)->(∃ bF,Map.le ι bF/\aI Bs bF (aT c kq (jO (a/b))) w'/\aG bF (sl kq (nd base (a/b))) vq/\∃ df,Map.le bF df/\aI Bs df (aT (aT c kq (jO (a/b))) kr (jO (a%b))) w'/\aG df (sl kr (nd base (a%b))) vr):=by intro w' vq vr gy h3 h4;have bh:=hm.call gy;obtain⟨bF,q1,q2,q3⟩:=Mv bh IY h3 (e9 _) (Mw hm);obtain⟨df,s1,s2,s3⟩:=Mv q2 (IZ _) h4 (e9 _) (YW bh q1 (Mw hm));exact⟨bF,q1,q2,q3,df,s1,s2,s3⟩
 by_cases bX:a<b
 ·have e1:a/b=0:=lq bX;have e2:a%b=a:=dG bX;refine(RJ ha hb bX o_ o_).mono ?_
  rintro e w' ⟨rfl,gy⟩
  refine fin w' _ _ gy ?_;have bh:=hm.call gy;obtain⟨bF,q1,q2,q3⟩:=xT (xs:=[]) (n:=0) (v:=.slice none 0 0) bh IY (.inl ⟨rfl,rfl,rfl⟩) n_ n_;have ez:jO (a/b)=.view []:=by unfold jO;rw[e1,qd];rfl
  have en:nd base (a/b)=0:=by rw[e1,qd]
  rw[ez,en,e2];have RX:cZ w' va (nd base a) (ai (aa base (nd base a) a)):=cZ.jd ha gy;obtain⟨df,s1,s2,s3⟩:=xT q2 (IZ _) RX (e9 _) (λb o c' e j y o' bf hj hy he=>by
   have z8:c j=some y:=by
    unfold aT at hj;by_cases bL:j=kq
    ·rw[aq bL]at hj;injection hj with hj;subst hj;cases hy
    ·rw[al bL]at hj;exact hj
   obtain⟨l,e1,_⟩:=hm.born j y z8;have e2:=q1 j l e1;rw[he]at e2;injection e2 with e2;subst e2;subst e;rcases hv.gK rfl with ⟨_,_,_,_,e⟩|⟨b',o2,o6,c2,gD,_,_,e⟩
   ·cases e
   ·injection e with e _ _;injection e with e;injection e with e _ _;subst e;exact(hm.seen k1 x1 _ _ _ gE j8 gD).2 j y _ _ z8 hy e1)
  exact⟨bF,q1,q2,q3,df,s1,s2,s3⟩
 ·have I0:b<=a:=IK.1 bX;have go:Calls prog 215 #[va,vb] w λe w'=>∃ vq vr,e=.returned (.tuple #[vq,vr])/\jk w w' vq (a/b)/\jk w w' vr (a%b)/\Below w.heap.size w w':=by
   by_cases av:b<base
   ·exact RK ha hb I0 kk av o_
   ·have h3:2<=nd base b:=by
     rcases eQ (nd base b) 2 with h|h
     ·have h4:=dL (B:=base) d_ b;have h5:base^nd base b<=base^1:=cX d_ o_;rw[BX]at h5;omega
     ·exact h
    exact RO (e:=nd base b-2) ha hb I0 o_ h1
  refine go.mono ?_
  rintro e w' ⟨vq,vr,rfl,h3,h4,gy⟩
  exact fin w' _ _ gy (new w' vq vr gy h3 h4)
end
def eu(x y:Nat):Nat->Nat×Nat
 |0=>(x,y)
 |i+1=>((eu x y i).2,(eu x y i).1%(eu x y i).2)
theorem I1(x y:Nat):∀ i,Nat.gcd (eu x y i).1 (eu x y i).2=Nat.gcd x y
 |0=>rfl
 |i+1=>by rw[<-I1 x y i];show Nat.gcd (eu x y i).2 ((eu x y i).1%(eu x y i).2)=_;rw[Gl,<-Nat.gcd_rec,Gl]
theorem RY(x y:Nat):∀ i,(eu x y i).1<=max x y/\(eu x y i).2<=max x y
 |0=>⟨Nat.le_max_left ..,Nat.le_max_right ..⟩
 |i+1=>by obtain⟨h1,h2⟩:=RY x y i;exact⟨h2,c9 (Iv _ _) h1⟩
theorem My(x y:Nat)(p:Nat->Nat->Bool)(hp:∀ u v,p u v=true->v≠0):∃ n,p (eu x y n).1 (eu x y n).2=false/\∀ i,i<n->p (eu x y i).1 (eu x y i).2=true:=by
 have key:∃ n,p (eu x y n).1 (eu x y n).2=false:=by
  apply jM;intro fP;have all:∀ i,p (eu x y i).1 (eu x y i).2=true:=λi=>by
   cases h:p (eu x y i).1 (eu x y i).2 with
   |true=>rfl
   |false=>exact absurd ⟨i,h⟩ fP
  have dec:∀ i,(eu x y i).2+i<=y:=by
   intro i;induction i with
   |zero=>exact aZ _
   |succ i ih=>
    have h0:=hp _ _ (all i);have h1:(eu x y (i+1)).2<(eu x y i).2:=cC _ (sn h0);omega
  have h1:=dec (y+1);omega
 obtain⟨n,hn⟩:=key;obtain⟨e,h1,h2,h3⟩:=xW (λi=>p (eu x y i).1 (eu x y i).2=false) n hn;exact⟨e,h2,λi hi=>by
  cases h:p (eu x y i).1 (eu x y i).2 with
  |true=>rfl
  |false=>exact absurd h (h3 i hi)⟩
def yk(u v:Nat):Bool:=decide (2<nd base v)||(decide (2<nd base u)&&decide (0<nd base v))
section
variable{Bs:ae}
def Ce(u v:Nat):aL:=[(5,sl 5 (nd base u)),(6,sl 6 (nd base v))]
def Ak(u v:Nat):List Obj:=[jO u,jO v]
theorem aHY{u v:Nat}(h:yk u v=true)(h0:v≠0)(h1:nd base u<35184372088831)(h2:nd base v<35184372088831):
  ag prog Bs 65 (aE (af f182 0)) (Ce u v) ([]++marks 5 (Ak u v)) 7 ⟨.normal,eY 5 [some 6,some 8] (Ce v (u%v)),[]++dc [some 6,some 8] (Ak v (u%v)),9⟩:=by
 have hd:=Mx (Bs:=Bs) (o:=au f182 42) (y:=.func 215) k_ (k1:=5) (k2:=6) (kq:=7) (kr:=8) d_ (tJ u) rfl (tJ v) h0 h1 h2;unfold yk at h;by_cases c1:2<nd base v
 ·exact ay [.gt 28 (nd base v) 2 true (by simp[c1]),.step 42 _ _ _ _ _ hd]
 ·simp[c1]at h;exact ay [.gt 28 (nd base v) 2 false (by simp;omega),.gt 32 (nd base u) 2 true (by simp[h.1]),.gt 36 (nd base v) 0 true (by simp[h.2]),.step 42 _ _ _ _ _ hd]
theorem aHZ{u v:Nat}(h:yk u v=false):
  ag prog Bs 65 (aE (af f182 0)) (Ce u v) ([]++marks 5 (Ak u v)) 7 ⟨.exit 0,Ce u v,marks 5 (Ak u v),7⟩:=by
 unfold yk at h;by_cases c1:2<nd base v
 ·simp[c1]at h
 ·by_cases c2:2<nd base u
  ·by_cases c3:0<nd base v
   ·simp[c2,c3]at h
   ·exact ay [.gt 28 (nd base v) 2 false (by simp;omega),.gt 32 (nd base u) 2 true (by simp[c2]),.gt 36 (nd base v) 0 false (by simp;omega)]
  ·exact ay [.gt 28 (nd base v) 2 false (by simp;omega),.gt 32 (nd base u) 2 false (by simp;omega)]
theorem aH0{x y n:Nat}(hn:yk (eu x y n).1 (eu x y n).2=false)(hi:∀ i,i<n->yk (eu x y i).1 (eu x y i).2=true)(h1:nd base (max x y)<35184372088831):
  ag prog Bs 65 (.block 0 (af f182 0)) (eY 5 [some 3,some 4] (Ce x y)) ([]++dc [some 3,some 4] (Ak x y)) 5 ⟨.normal,Ce (eu x y n).1 (eu x y n).2,marks 5 (Ak (eu x y n).1 (eu x y n).2),7⟩:=by
 have:=rm (P:=prog) (B:=Bs) (N:=65) (b:=aE (af f182 0)) (next:=5) (p:=2) (r:=⟨.exit 0,Ce (eu x y n).1 (eu x y n).2,marks 5 (Ak (eu x y n).1 (eu x y n).2),7⟩) n (λi=>Ce (eu x y i).1 (eu x y i).2) (λ_=>[]) (λi=>Ak (eu x y i).1 (eu x y i).2) [some 3,some 4] (λ_ _=>rfl)
  (λi _=>⟨λq hq=>(by cases hq),λz hz=>by simp[Ak]at hz;rcases hz with rfl|rfl<;>exact FZ (e9 _)⟩) k_ k_
  (λi av=>⟨[some 6,some 8],9,k_,by have hg:=hi i av;have hle:=RY x y i;refine aHY hg (λe=>?_) (eP (iO d_ hle.1) h1) (eP (iO d_ hle.2) h1);rw[e]at hg;unfold yk at hg;rw[qd]at hg;simp at hg⟩) (aHZ hn) n_
 exact bO (id:=0) this
def wA(u v:Nat):aL:=[(9,pw u),(10,pw v)]
theorem RZ{x y:Nat}:∃ g,g=Nat.gcd x y/\ag prog Bs 65 (.block 2 (af f182 2)) (wA x y) [] 7 ⟨.normal,[(9,pw g)],[],7⟩:=by
 obtain⟨n,hn,hi⟩:=My x y (λ_ v=>decide (v≠0)) (λu v h=>lC h);have hz:(eu x y n).2=0:=by have:=Cf hn;omega
 have hg:=I1 x y n;rw[hz,R0]at hg;refine⟨_,hg,bO (id:=2) (cg (P:=prog) (B:=Bs) (N:=65) (b:=aE (af f182 2)) (next:=7) (r:=⟨.exit 2,[(9,pw (eu x y n).1)],[],7⟩) n (λi=>wA (eu x y i).1 (eu x y i).2) (λ_=>[]) (λ_ _ _=>Iff.rfl) (λi av=>?_) ?_ n_)⟩
 ·have h0:(eu x y i).2≠0:=lC (hi i av);show ag _ _ _ _ (wA (eu x y i).1 (eu x y i).2) [] 7 ⟨.normal,wA (eu x y i).2 ((eu x y i).1%(eu x y i).2),[],7⟩;generalize (eu x y i).1=u at *;generalize (eu x y i).2=v at *;exact ay [.rw 57 (.bool ((v:Int)!=0)) b_ (by congr 1;rw[qg];omega),.zR f182 61 .u64 (u:Int) v ((u%v:Nat):Int) o_ (by rw[ya o_];rfl) k_]
 ·rw[hz];exact ay [.rw 57 (.bool (((0:Nat):Int)!=0)) a_ rfl]
end
theorem R1{n1 n2:Bool}{p:Nat}(v1:n1=true->m1≠0)(v2:n2=true->m2≠0)(h1:m1<2^p)(h2:m2<2^q)(hp:p<=1099511627776)(hq:q<=1099511627776):
  aB prog 182 [sv n1 m1,sv n2 m2] (bC (Nat.gcd m1 m2:Nat)):=by
 have b1:=wy h1;have b2:=wy h2;have bm:nd base (max m1 m2)<35184372088831:=by rcases Mz m1 m2 with h|h<;>simp[h]<;>omega
 obtain⟨n,hn,hi⟩:=My m1 m2 yk (λu v h e=>by rw[e]at h;unfold yk at h;rw[qd]at h;simp at h)
 have hg:=I1 m1 m2 n;have hle:=RY m1 m2 n;have hl:=λw=>aH0 (Bs:=ae.at w) hn hi bm;have bU:nd base (eu m1 m2 n).1<35184372088831:=eP (iO d_ hle.1) bm;have bV:nd base (eu m1 m2 n).2<35184372088831:=eP (iO d_ hle.2) bm;rw[<-hg];generalize (eu m1 m2 n).1=U at *;generalize (eu m1 m2 n).2=V at *;have e:=uQ false (Nat.gcd U V);rw[show sg false (Nat.gcd U V)=((Nat.gcd U V:Nat):Int)from rfl]at e;rw[<-e];by_cases hV:V=0
 ·subst hV;rw[R0];exact aV func182 (λw=>[(hJ n1 v1).at 12,(hJ n2 v2).at 16,.yj f182 22 3 m1 p h1 hp (y:=.func 214) k_,.yj f182 25 4 m2 q h2 hq (y:=.func 214) k_,.code 0 _ _ _ _ _ (hl w),.rw 49 (.bool (((nd base 0:Nat):Int)==0)) b_ (by rw[qd];rfl),.Cd f182 51 5 U (jO U) (tJ U) false o_ (y:=.func 156) k_])
 ·have qh:=vS (B:=base) d_ hV;unfold yk at hn;have c1:nd base V<=2/\nd base U<=2:=by simp at hn;exact⟨hn.1,IK.1 λh=>by have:=hn.2 h;omega⟩
  have YX:∀ t,nd base t<=2->t<18446744073709551616:=λt ht=>by have h1:=dL (B:=base) d_ t;have h2:base^nd base t<=base^2:=cX d_ ht;exact cy h1 (c9 h2 d_)
  have aH1:=YX U c1.2;have YY:=YX V c1.1;have MA:∀ w,∃ g,g=Nat.gcd U V/\ag prog (ae.at w) 65 (.block 2 (af f182 2)) (wA U V) [] 7 ⟨.normal,[(9,pw g)],[],7⟩:=λw=>RZ;have MA:∀ w,ag prog (ae.at w) 65 (.block 2 (af f182 2)) (wA U V) [] 7 ⟨.normal,[(9,pw (Nat.gcd U V))],[],7⟩:=λw=>by obtain⟨g,rfl,h⟩:=MA w;exact h
  have aH2:Nat.gcd U V<18446744073709551616:=eP (Nat.gcd_le_right U (sn hV)) YY;have bG:nd base (Nat.gcd U V)<35184372088832:=by have:=iO (B:=base) d_ (Nat.gcd_le_right U (sn hV));omega
  exact aV func182 (λw=>[(hJ n1 v1).at 12,(hJ n2 v2).at 16,.yj f182 22 3 m1 p h1 hp (y:=.func 214) k_,.yj f182 25 4 m2 q h2 hq (y:=.func 214) k_,.code 0 _ _ _ _ _ (hl w),.fX 49 (nd base V) 0 false (by simp;omega),.step 53 (au f182 53) _ _ _ _ (F8 (f:=216) (y:=.func 216) (k1:=5) (post:=[]) (res:=pw U) k_ k_ (tJ U) n_ rfl λ_ _ h=>X9 h aH1 o_),.step 55 (au f182 55) _ _ _ _ (F8 (f:=216) (y:=.func 216) (k1:=6) (post:=[]) (res:=pw V) k_ k_ (tJ V) n_ rfl λ_ _ h=>X9 h YY o_),.code 2 _ _ _ _ _ (MA w),.step 63 (au f182 63) _ _ _ _ (Mm (y:=.func 155) (args:=[pw (Nat.gcd U V)]) k_ k_ (λv hv=>by simp at hv;subst hv;rfl) (λ_=>Q5 aH2) 7),.Cd f182 64 7 (Nat.gcd U V) (tG (Nat.gcd U V)) (rp _) false bG (y:=.func 156) k_])
theorem I2{x:Int}{p:Nat}(h1:x.natAbs<2^p)(h2:y.natAbs<2^q)(hp:p<=1099511627776)(hq:q<=1099511627776):aB prog 182 [bC x,bC y] (bC (Nat.gcd x.natAbs y.natAbs:Nat)):=by revert h1 h2;refine Eb (C:=λx y v u=>x.natAbs<2^p->y.natAbs<2^q->aB prog 182 [v,u] (bC (Nat.gcd x.natAbs y.natAbs:Nat))) (λn1 n2 m1 m2 v1 v2 h1 h2=>?_) x y;rw[pz]at h1 h2;rw[pz,pz];exact R1 v1 v2 h1 h2 hp hq
theorem MB{a b q r:Int}(h:a=q*b+r)(hr:(0<b/\0<=r/\r<b)\/(b<0/\b<r/\r<=0)):a.fdiv b=q/\a.fmod b=r:=by
 have key:a.fdiv b=q:=by
  rcases hr with ⟨h1,h2,h3⟩|⟨h1,h2,h3⟩
  ·rw[rh _ o_,h,Int.add_comm,YZ _ _ o_,Int.ediv_eq_zero_of_lt h2 h3];omega
  ·have e:a.fdiv b=(-a).fdiv (-b):=(Int.neg_fdiv_neg a b).symm;have e2:-a=-r+q*-b:=by rw[h,Gk];omega
   rw[e,rh _ o_,e2,YZ _ _ o_,Int.ediv_eq_zero_of_lt o_ o_];omega
 refine⟨key,?_⟩;have:=Int.mul_fdiv_add_fmod a b;rw[key,R2]at this;omega
section
variable{Bs:ae}{N:Nat}
def aO.Gm(fn:Func)(key k a:Nat)(x:Obj)(hx:pv x a)(neg:Bool)(h1:nd base a<35184372088832){y:m_}(ho:da (au fn key).op=some y):aO prog Bs N:=
 .step key (au fn key) _ _ _ _ (F8 (f:=156) (k1:=k) (post:=[.bool neg]) (res:=bC (sg neg a)) ho k_ hx (λv hv=>by simp at hv;subst hv;rfl) rfl λ_ _ h=>by rw[<-uQ];exact YG h h1)
end
theorem R3{x:Int}{p:Nat}(hy:y≠0)(h1:x.natAbs<2^p)(h2:y.natAbs<2^q)(hp:p<=1099511627774)(hq:q<=1099511627774):
  aB prog 237 [bC x,bC y] (.tuple #[bC (x.fdiv y),bC (x.fmod y),.int .i64 0]):=by
 obtain⟨m1,cP⟩:∃ m,m=x.natAbs:=⟨_,rfl⟩;obtain⟨m2,dz⟩:∃ m,m=y.natAbs:=⟨_,rfl⟩;rw[<-cP]at h1;rw[<-dz]at h2;have Gn:m2≠0:=by omega
 have b1:=wy h1;have b2:=wy h2;obtain⟨s,hs⟩:∃ s,s=(decide (x<0)!=decide (y<0)):=⟨_,rfl⟩;obtain⟨n1,Bz⟩:∃ n,n=decide (x<0):=⟨_,rfl⟩;obtain⟨Q,hQ⟩:∃ Q,Q=m1/m2:=⟨_,rfl⟩;obtain⟨R,hR⟩:∃ R,R=m1%m2:=⟨_,rfl⟩;have I3:m1=Q*m2+R:=by rw[hQ,hR,cH];exact(iP _ _).symm
 have Ed:R<m2:=by rw[hR];exact cC _ (sn Gn)
 have R4:Q<=m1:=by rw[hQ];exact sB _ _
 have bQ:nd base (m1/m2)<35184372088832:=by have:=iO (B:=base) d_ R4;rw[<-hQ];omega
 have bR:nd base (m1%m2)<35184372088832:=by have:=iO (B:=base) d_ (jm Ed);rw[<-hR];omega
 have ex:x=sg n1 m1:=by rw[Bz,cP];unfold sg;by_cases h:x<0<;>simp[h]<;>omega
 have ey:y=sg (n1 !=s) m2:=by rw[Bz,hs,dz];unfold sg;by_cases h:x<0<;>by_cases h':y<0<;>simp[h,h']<;>omega
 have I4:(decide (x<0)!=decide (y<0))=s:=hs.symm;have v1:=kY x;have v2:=kY y;have R5:((BA (cz y.natAbs)).toList==(ByteArray.mk #[]).toList)=false:=by rw[qj,<-dz,aQ Gn]
 have R6:(!((BA (cz (sg n1 R).natAbs)).toList==(ByteArray.mk #[]).toList))=decide (R≠0):=by rw[qj,pz];simp
 have nK:x.natAbs<2^p:=by rw[<-cP];exact h1
 have yn:y.natAbs<2^q:=by rw[<-dz];exact h2
 rw[show m1/m2=Q from hQ.symm]at bQ;rw[show m1%m2=R from hR.symm]at bR;have hd:∀ w,ct prog (ae.at w) (au f237 33) [.func (.func 215) #[] #[],sl 4 (nd base x.natAbs),sl 5 (nd base y.natAbs)] [(4,some (jO x.natAbs)),(5,some (jO y.natAbs)),(6,none),(7,none)] (.tuple #[sl 6 (nd base Q),sl 7 (nd base R)]) [(7,jO R),(6,jO Q)]:=λw=>by have:=Mx (Bs:=ae.at w) (o:=au f237 33) (y:=.func 215) k_ (k1:=4) (k2:=5) (kq:=6) (kr:=7) d_ (tJ x.natAbs) rfl (tJ y.natAbs) o_ (by rw[<-cP];omega) (by rw[<-dz];omega);rw[<-cP,<-dz,<-hQ,<-hR]at this;rw[<-cP,<-dz];exact this
 have R7:(Value.bool (decide (x<0)))=.bool n1:=by rw[Bz]
 by_cases MC:R≠0/\s=true
 ·obtain⟨tK,bH⟩:=MC;have fin:=MB (a:=x) (b:=y) (q:=sg s Q-1) (r:=sg n1 R+y) (by
    rw[ex,ey,bH,I3];have e:sg true Q=-(Q:Int):=rfl;rw[e];have jB:((Q*m2:Nat):Int)=(Q:Int)*m2:=nh ..;cases n1<;>simp only[sg,MD,ME,IA,pV,tF,tE,uP,jB,Int.sub_mul,Gj,Gk,IX,MF]<;>omega)
   (by
    rw[ey,bH];cases n1
    ·right;simp only[sg,MD,pV,tF,tE];omega
    ·left;simp only[sg,ME,IA,pV,tF,tE];omega)
  rw[fin.1,fin.2];have s1:(sg s Q).natAbs<2^p:=by rw[pz];omega
  have s2:(1:Int).natAbs<2^1:=by decide
  have s3:(sg n1 R).natAbs<2^q:=by rw[pz];omega
  have sb:=Ec (x:=sg s Q) (y:=1) s1 s2 o_ o_;have ad:=yi (x:=sg n1 R) (y:=y) s3 yn o_ o_;exact aV func237 (λw=>[v1.at 11,v2.at 15,.rw 23 (.bool ((BA (cz y.natAbs)).toList==(ByteArray.mk #[]).toList)) a_ (by rw[R5]),.yj f237 29 4 x.natAbs p nK o_ (y:=.func 214) k_,.yj f237 32 5 y.natAbs q yn o_ (y:=.func 214) k_,.step 33 _ _ _ _ _ (hd w),.rw 41 (.bool (decide (x<0)!=decide (y<0))) (.bool s) (by rw[I4]),.Gm f237 42 6 Q (jO Q) (tJ Q) s bQ (y:=.func 156) k_,.rw 45 (.bool (decide (x<0))) (.bool n1) R7,.Gm f237 46 7 R (jO R) (tJ R) n1 bR (y:=.func 156) k_,.rw 49 (.bool (!((BA (cz (sg n1 R).natAbs)).toList==(ByteArray.mk #[]).toList))) b_ (by rw[R6,aD tK]),.rw 55 (.bool (decide (x<0)!=decide (y<0))) b_ (by rw[I4,bH]),(kH (z:=1) d_).at 58,sb.at 59,ad.at 62])
 ·have fin:=MB (a:=x) (b:=y) (q:=sg s Q) (r:=sg n1 R) (by
    rw[ex,ey,I3];have jB:((Q*m2:Nat):Int)=(Q:Int)*m2:=nh ..;cases n1<;>cases s<;>simp only[sg,MD,ME,IA,L0,pV,tF,tE,uP,jB,Gj,Gk,IX]<;>omega)
   (by
    rw[ey];cases n1<;>cases s
    ·left;simp only[sg,MD,tF,tE];omega
    ·right;have tK:R=0:=jM λh=>MC ⟨h,rfl⟩;simp only[sg,MD,pV,tF,tE];omega
    ·right;simp only[sg,ME,L0,pV];omega
    ·left;have tK:R=0:=jM λh=>MC ⟨h,rfl⟩;simp only[sg,ME,IA,pV,tF,tE];omega)
  rw[fin.1,fin.2];by_cases tK:R=0
  ·exact aV func237 (λw=>[v1.at 11,v2.at 15,.rw 23 (.bool ((BA (cz y.natAbs)).toList==(ByteArray.mk #[]).toList)) a_ (by rw[R5]),.yj f237 29 4 x.natAbs p nK o_ (y:=.func 214) k_,.yj f237 32 5 y.natAbs q yn o_ (y:=.func 214) k_,.step 33 _ _ _ _ _ (hd w),.rw 41 (.bool (decide (x<0)!=decide (y<0))) (.bool s) (by rw[I4]),.Gm f237 42 6 Q (jO Q) (tJ Q) s bQ (y:=.func 156) k_,.rw 45 (.bool (decide (x<0))) (.bool n1) R7,.Gm f237 46 7 R (jO R) (tJ R) n1 bR (y:=.func 156) k_,.rw 49 (.bool (!((BA (cz (sg n1 R).natAbs)).toList==(ByteArray.mk #[]).toList))) a_ (by rw[R6,aQ (λh=>h tK)])])
  ·have bH:s=false:=by
    cases s
    ·rfl
    ·exact absurd ⟨tK,rfl⟩ MC
   exact aV func237 (λw=>[v1.at 11,v2.at 15,.rw 23 (.bool ((BA (cz y.natAbs)).toList==(ByteArray.mk #[]).toList)) a_ (by rw[R5]),.yj f237 29 4 x.natAbs p nK o_ (y:=.func 214) k_,.yj f237 32 5 y.natAbs q yn o_ (y:=.func 214) k_,.step 33 _ _ _ _ _ (hd w),.rw 41 (.bool (decide (x<0)!=decide (y<0))) (.bool s) (by rw[I4]),.Gm f237 42 6 Q (jO Q) (tJ Q) s bQ (y:=.func 156) k_,.rw 45 (.bool (decide (x<0))) (.bool n1) R7,.Gm f237 46 7 R (jO R) (tJ R) n1 bR (y:=.func 156) k_,.rw 49 (.bool (!((BA (cz (sg n1 R).natAbs)).toList==(ByteArray.mk #[]).toList))) b_ (by rw[R6,aD tK]),.rw 55 (.bool (decide (x<0)!=decide (y<0))) a_ (by rw[I4,bH])])
section
variable{P:j_}{B:ae}{N:Nat}
def Gp(o:Oper):Option (Bool×TypeId):=match o.op with|.binOp .eql t _ _ _=>some (true,t)|.binOp .neq t _ _ _=>some (false,t)|_=>none
theorem Y0{op:BinOp}{t:TypeId}{y:m_}{xs ys:p_}(hg:P.eqGuardType P.depth t=false)(w:h_):(eqGuard op t x y (.agg xs) (.agg ys)).run P w=.ok () w:=by unfold eqGuard;cases op<;>simp[hg]
theorem MG{t:TypeId}{neg:Bool}{xs ys:p_}{lx ly:List Lit}{r:Bool}(ho:Gp o=some (neg,t))(hm:m<=10000)(hk:P.keyTypeAt m t=true)(hg:P.eqGuardType P.depth t=false)
  (hfx:(Value.agg xs).formed P t=true) (hfy:(Value.agg ys).formed P t=true) (hx:P.keyLits D t xs.toList=some lx) (hy:P.keyLits D t ys.toList=some ly) (Wm:flat (.agg xs)=true) (H0:flat (.agg ys)=true)
  (hr:(if neg then r else !r)=true↔lx=ly):ct P B o [.agg xs,.agg ys] [] (.bool r) []:=by
 refine(Bl (λu hu=>by simp at hu;rcases hu with rfl|rfl<;>assumption) rfl λρ fA w _=>?_).step;obtain⟨r',e1,e2⟩:=run_equalIn_deep (10000-m) m t hk w D D (.agg xs) (.agg ys) lx ly hfx hfy hx hy;rw[show 10000-m+m=10000 by omega]at e1;have e1:(Op.equal t (.agg xs) (.agg ys)).run P w=.ok r' w:=e1;unfold Gp at ho;split at ho
 ·rename_i t' p q t2 bM;injection ho with ho;injection ho with h1 h2;subst h1;subst h2;rw[bM]at fA;simp[Op.operands]at fA;have e3:r'=r:=by rw[<-e2]at hr;cases r<;>cases r'<;>simp at hr ⊢
  have nj:=Y0 (op:=.eql) (x:=p) (y:=q) (xs:=xs) (ys:=ys) hg w;simp only[execOp,bM,fA.1,fA.2];simp[nj,binOp,e1,e3]
 ·rename_i t' p q t2 bM;injection ho with ho;injection ho with h1 h2;subst h1;subst h2;rw[bM]at fA;simp[Op.operands]at fA;have e3:(!r')=r:=by rw[<-e2]at hr;cases r<;>cases r'<;>simp at hr ⊢
  have nj:=Y0 (op:=.neq) (x:=p) (y:=q) (xs:=xs) (ys:=ys) hg w;simp only[execOp,bM,fA.1,fA.2];simp[nj,binOp,e1,e3]
 ·cases ho
theorem Y1{β:Type}(f:TypeId->Nat->Option β):∀(l:List Field) {m:List (TypeId×Nat)},l.map (λg=>(g.type,g.offset))=m->(l.mapM λg=>f g.type g.offset)=m.mapM λp=>f p.1 p.2
 |[],m,h=>by subst h;rfl
 |g::l,m,h=>by subst h;simp only[qc,Io];rw[Y1 f l rfl]
theorem MH{t: TypeId}{fs: Array Field}{l: List (TypeId × Nat)}{cs: ak}(hu : P.underlying t = some (.struct fs))(hf : fs.toList.map (fun g => (g.type, g.offset)) = l)(hn : fs.all (fun g => g.name != "_") = true)(hl : cs.length = P.cellsOf t)(d : Nat) :
  P.keyLits (d+1) t cs=(l.mapM λp=>P.keyLits d p.1 ((cs.drop p.2).take (P.cellsOf p.1))).map List.flatten:=by
 conv=>lhs;unfold Program.keyLits
 rw[hu];dsimp only;rw[aq ⟨hl,hn⟩,Y1 (λa b=>P.keyLits d a ((cs.drop b).take (P.cellsOf a))) fs.toList hf]
theorem aH3{t e:TypeId}{n:Nat}{cs:ak}(hu:P.underlying t=some (.array n e))(hl:cs.length=P.cellsOf t)(d:Nat):
  P.keyLits (d+1) t cs=((List.range n).mapM λi=>P.keyLits d e ((cs.drop (i*P.cellsOf e)).take (P.cellsOf e))).map List.flatten:=by
 conv=>lhs;unfold Program.keyLits
 rw[hu];dsimp only;rw[aq hl]
theorem aH4{t:TypeId}(hu:P.underlying t=some .bool)(b:Bool)(d:Nat):P.keyLits (d+1) t [.bool b]=some [.bool b]:=by unfold Program.keyLits;rw[hu]
theorem aH5{t:TypeId}(hu:P.underlying t=some .string)(s:ByteArray)(hs:s.size<=maxLen)(d:Nat):P.keyLits (d+1) t [.string s]=some [.string s.data.toList]:=by unfold Program.keyLits;rw[hu];dsimp only;rw[aq hs]
end
section
class CR (F:Type) extends Add F,Mul F,Neg F,Sub F,Zero F,One F where
 add_assoc:∀ a b c:F,a+b+c=a+(b+c)
 add_comm:∀ a b:F,a+b=b+a
 zero_add:∀ a:F,0+a=a
 neg_add:∀ a:F,-a+a=0
 mul_assoc:∀ a b c:F,a*b*c=a*(b*c)
 mul_comm:∀ a b:F,a*b=b*a
 one_mul:∀ a:F,1*a=a
 mul_add:∀ a b c:F,a*(b+c)=a*b+a*c
 sub_def:∀ a b:F,a-b=a+-b
namespace CR
variable{F:Type}[CR F]
theorem add_zero(a:F):a+0=a:=by rw[add_comm,zero_add]
theorem add_neg(a:F):a+-a=0:=by rw[add_comm,neg_add]
theorem mul_one(a:F):a*1=a:=by rw[mul_comm,one_mul]
theorem add_mul(a b c:F):(a+b)*c=a*c+b*c:=by rw[mul_comm,mul_add,mul_comm c a,mul_comm c b]
theorem add_left_comm(a b c:F):a+(b+c)=b+(a+c):=by rw[<-add_assoc,add_comm a b,add_assoc]
theorem mul_left_comm(a b c:F):a*(b*c)=b*(a*c):=by rw[<-mul_assoc,mul_comm a b,mul_assoc]
theorem add_left_cancel{a b c:F}(h:a+b=a+c):b=c:=by have:=b9 (λx=>-a+x) h;simpa only[<-add_assoc,neg_add,zero_add]using this
theorem mul_zero(a:F):a*0=0:=by apply add_left_cancel (a:=a*0);rw[<-mul_add,zero_add,add_zero]
theorem zero_mul(a:F):0*a=0:=by rw[mul_comm,mul_zero]
theorem Gq{a b:F}(h:a+b=0):b=-a:=add_left_cancel (a:=a) (by rw[h,add_neg])
theorem neg_mul(a b:F):-a*b=-(a*b):=Gq (by rw[<-add_mul,add_neg,zero_mul])
theorem mul_neg(a b:F):a*-b=-(a*b):=by rw[mul_comm,neg_mul,mul_comm]
theorem neg_neg(a:F):- -a=a:=(Gq (neg_add a)).symm
theorem Cg(a b:F):-(a+b)=-a+-b:=
 (Gq (by rw[add_assoc,add_left_comm b,<-add_assoc,add_neg,zero_add,add_neg])).symm
theorem neg_zero:-(0:F)=0:=(Gq (zero_add 0)).symm
def ofNat:Nat->F
 |0=>0
 |n+1=>ofNat n+1
def ofInt:Int->F
 |.ofNat n=>ofNat n
 |.negSucc n=>-ofNat (n+1)
theorem ofNat_add(a b:Nat):(ofNat (a+b):F)=ofNat a+ofNat b:=by
 induction b with
 |zero=>simp[ofNat,add_zero]
 |succ b ih=>rw[<-tt];simp only[ofNat];rw[ih,add_assoc]
theorem ofNat_mul(a b:Nat):(ofNat (a*b):F)=ofNat a*ofNat b:=by
 induction b with
 |zero=>simp[ofNat,mul_zero]
 |succ b ih=>rw[LR,ofNat_add,ih];simp only[ofNat];rw[mul_add,mul_one]
theorem ofInt_sub(a b:Nat):(ofInt ((a:Int)-b):F)=ofNat a+-ofNat b:=by
 rcases Mz b a with h|h
 ·obtain⟨c,rfl⟩:=Nat.le.dest h;rw[show((b+c:Nat):Int)-b=Int.ofNat c by simp[uP];omega];simp only[ofInt];rw[ofNat_add,add_comm (ofNat b),add_assoc,add_neg,add_zero]
 ·obtain⟨c,rfl⟩:=Nat.le.dest h;cases c with
  |zero=>rw[show(a:Int)-((a+0:Nat):Int)=Int.ofNat 0 by simp];simp[ofInt,ofNat,add_neg]
  |succ c=>
   rw[show(a:Int)-((a+(c+1):Nat):Int)=Int.negSucc c by omega];simp only[ofInt];rw[ofNat_add a (c+1),Cg,<-add_assoc,add_neg,zero_add]
theorem ofInt_neg(a:Int):(ofInt (-a):F)=-ofInt a:=by
 cases a with
 |ofNat n=>
  cases n with
  |zero=>simp[ofInt,ofNat,neg_zero]
  |succ n=>rfl
 |negSucc n=>rw[show -(Int.negSucc n)=Int.ofNat (n+1)from rfl];simp only[ofInt];rw[neg_neg]
theorem ry(a:Int):∃ m n:Nat,a=(m:Int)-n:=by
 cases a with
 |ofNat m=>exact⟨m,0,by simp⟩
 |negSucc n=>exact⟨0,n+1,by omega⟩
theorem ofInt_add(a b:Int):(ofInt (a+b):F)=ofInt a+ofInt b:=by obtain⟨m,n,rfl⟩:=ry a;obtain⟨p,q,rfl⟩:=ry b;rw[show(m:Int)-n+(p-q)=((m+p:Nat):Int)-(n+q:Nat)by omega];rw[ofInt_sub,ofInt_sub,ofInt_sub,ofNat_add,ofNat_add,Cg];simp only[add_assoc,add_left_comm]
theorem ofInt_mul(a b:Int):(ofInt (a*b):F)=ofInt a*ofInt b:=by
 obtain⟨m,n,rfl⟩:=ry a;obtain⟨p,q,rfl⟩:=ry b;rw[show((m:Int)-n)*(p-q)=((m*p+n*q:Nat):Int)-(m*q+n*p:Nat)by simp only[uP,nh,Int.sub_mul,Int.mul_sub];omega]
 rw[ofInt_sub,ofInt_sub,ofInt_sub];simp only[ofNat_add,ofNat_mul,add_mul,mul_add,neg_mul,mul_neg,Cg,neg_neg];simp only[add_assoc,add_left_comm,add_comm]
end CR
open CR
inductive E where
 |var (i:Nat)
 |num (n:Int)
 |add (a b:E)
 |mul (a b:E)
 |neg (a:E)
 |sub (a b:E)
 |one
namespace E
instance:Add E:=⟨E.add⟩
instance:Mul E:=⟨E.mul⟩
instance:Neg E:=⟨E.neg⟩
instance:Sub E:=⟨E.sub⟩
instance:Zero E:=⟨E.num 0⟩
instance:One E:=⟨E.one⟩
def den{F:Type}[CR F](ρ:Nat->F):E->F
 |.var i=>ρ i
 |.num n=>ofInt n
 |.add a b=>den ρ a+den ρ b
 |.mul a b=>den ρ a*den ρ b
 |.neg a=>-den ρ a
 |.sub a b=>den ρ a-den ρ b
 |.one=>1
abbrev Mon:=List Nat
abbrev Poly:=List (Mon×Int)
def MI(v:Nat):Mon->Mon
 |[]=>[v]
 |u::m=>if Nat.ble v u then v::u::m else u::MI v m
def I5(m n:Mon):Mon:=m.foldr MI n
def Ee:Mon->Mon->Bool
 |[],[]=>true
 |a::m,b::n=>Nat.beq a b&&Ee m n
 |_,_=>false
def mlt:Mon->Mon->Bool
 |[],[]=>false
 |[],_::_=>true
 |_::_,[]=>false
 |a::m,b::n=>if Nat.beq a b then mlt m n else Nat.blt a b
def pins(m:Mon)(a:Int):Poly->Poly
 |[]=>[(m,a)]
 |(n,b)::p=>if Ee m n then(if a+b=0 then p else(n,a+b)::p)else if mlt m n then(m,a)::(n,b)::p else(n,b)::pins m a p
def Gr(p q:Poly):Poly:=p.foldr (λx acc=>pins x.1 x.2 acc) q
def I6(m:Mon)(a:Int)(q:Poly)(acc:Poly):Poly:=q.foldr (λx acc=>pins (I5 m x.1) (a*x.2) acc) acc
def I7(p q:Poly):Poly:=p.foldr (λx acc=>I6 x.1 x.2 q acc) []
def norm:E->Poly
 |.var i=>[([i],1)]
 |.num n=>if n=0 then[]else[([],n)]
 |.add a b=>Gr (norm a) (norm b)
 |.mul a b=>I7 (norm a) (norm b)
 |.neg a=>(norm a).map λx=>(x.1,-x.2)
 |.sub a b=>Gr (norm a) ((norm b).map λx=>(x.1,-x.2))
 |.one=>[([],1)]
def peq:Poly->Poly->Bool
 |[],[]=>true
 |(m,a)::p,(n,b)::q=>Ee m n&&(a==b)&&peq p q
 |_,_=>false
section
variable{F:Type}[CR F](ρ:Nat->F)
def rC:Mon->F
 |[]=>1
 |v::m=>ρ v*rC m
def jC:Poly->F
 |[]=>0
 |(m,a)::p=>ofInt a*rC ρ m+jC p
theorem aH6(v:Nat)(m:Mon):rC ρ (MI v m)=ρ v*rC ρ m:=by
 induction m with
 |nil=>rfl
 |cons u m ih=>
  simp only[MI];split
  ·rfl
  ·simp only[rC];rw[ih,mul_left_comm]
theorem aH7(m n:Mon):rC ρ (I5 m n)=rC ρ m*rC ρ n:=by
 induction m with
 |nil=>simp only[I5,R8,rC,one_mul]
 |cons v m ih=>simp only[I5,R9,aH6];simp only[I5]at ih;rw[ih];simp only[rC];rw[mul_assoc]
theorem Y2{m n:Mon}(h:Ee m n=true):m=n:=by
 induction m generalizing n with
 |nil=>cases n<;>simp_all [Ee]
 |cons a m ih=>
  cases n with
  |nil=>simp[Ee]at h
  |cons b n=>
   simp only[Ee,cY]at h;rw[PT h.1,ih h.2]
theorem Y3(m:Mon)(a:Int)(p:Poly):jC ρ (pins m a p)=ofInt a*rC ρ m+jC ρ p:=by
 induction p with
 |nil=>rfl
 |cons x p ih=>
  obtain⟨n,b⟩:=x;simp only[pins];split
  ·rename_i h;have:=Y2 h;subst this;split
   ·rename_i h0;simp only[jC];rw[<-add_assoc,<-add_mul,<-ofInt_add,h0];rw[show(ofInt 0:F)=0 from rfl,zero_mul,zero_add]
   ·simp only[jC];rw[ofInt_add,add_mul,add_assoc]
  ·split
   ·rfl
   ·simp only[jC];rw[ih,add_left_comm]
theorem Y4(p q:Poly):jC ρ (Gr p q)=jC ρ p+jC ρ q:=by
 induction p with
 |nil=>simp only[Gr,R8,jC,zero_add]
 |cons x p ih=>simp only[Gr,R9,Y3];simp only[Gr]at ih;rw[ih];simp only[jC];rw[add_assoc]
theorem aH8(m:Mon)(a:Int)(q acc:Poly):jC ρ (I6 m a q acc)=ofInt a*rC ρ m*jC ρ q+jC ρ acc:=by
 induction q with
 |nil=>simp only[I6,R8,jC,mul_zero,zero_add]
 |cons x q ih=>
  simp only[I6,R9,Y3];simp only[I6]at ih;rw[ih];simp only[jC];rw[aH7,ofInt_mul,mul_add,<-add_assoc]
  congr 2
  simp only[mul_assoc,mul_left_comm]
theorem aH9(p q:Poly):jC ρ (I7 p q)=jC ρ p*jC ρ q:=by
 induction p with
 |nil=>simp only[I7,R8,jC,zero_mul]
 |cons x p ih=>simp only[I7,R9,aH8];simp only[I7]at ih;rw[ih];simp only[jC];rw[add_mul]
theorem Y5(p:Poly):jC ρ (p.map λx=>(x.1,-x.2))=-jC ρ p:=by
 induction p with
 |nil=>simp only[Mi,jC,neg_zero]
 |cons x p ih=>simp only[qc,jC];rw[ih,ofInt_neg,neg_mul,Cg]
theorem Y6(e:E):jC ρ (norm e)=den ρ e:=by
 induction e with
 |var i=>
  simp only[norm,jC,rC,den,mul_one,add_zero];rw[show(ofInt 1:F)=0+1 from rfl,zero_add,one_mul]
 |num n=>
  simp only[norm];split
  ·rename_i h;subst h;rfl
  ·simp only[jC,rC,den,mul_one,add_zero]
 |add a b I8 I9=>simp only[norm,den,Y4,I8,I9]
 |mul a b I8 I9=>simp only[norm,den,aH9,I8,I9]
 |neg a ih=>simp only[norm,den,Y5,ih]
 |sub a b I8 I9=>simp only[norm,den,Y4,Y5,I8,I9,sub_def]
 |one=>simp only[norm,jC,rC,den,mul_one,add_zero];rw[show(ofInt 1:F)=0+1 from rfl,zero_add]
theorem aIa{p q:Poly}(h:peq p q=true):p=q:=by
 induction p generalizing q with
 |nil=>cases q<;>simp_all [peq]
 |cons x p ih=>
  obtain⟨m,a⟩:=x;cases q with
  |nil=>simp[peq]at h
  |cons y q=>
   obtain⟨n,b⟩:=y;simp only[peq,cY,beq_iff_eq]at h;rw[Y2 h.1.1,h.1.2,ih h.2]
theorem prove(l r:E)(h:peq l.norm r.norm=true):l.den ρ=r.den ρ:=by rw[<-Y6,<-Y6,aIa h]
end
end E
def rD{F:Type}[CR F](l:List F):Nat->F:=λi=>l.getD i 0
end
section
open CR
class OF (F:Type) extends CR F,Inv F where
 pA:∀ x:F,x≠0->x*x⁻¹=1
 inv_zero:(0:F)⁻¹=0
 aA:F->Int
 eZ:∀ x:F,aA x=0↔x=0
 iB:∀ x:F,aA x=-1\/aA x=0\/aA x=1
 pB:∀ x:F,aA (-x)=- aA x
 lD:∀ x y:F,aA (x*y)=aA x*aA y
 Ch:∀ x y:F,aA x=1->aA y=1->aA (x+y)=1
 Gs:aA (1:F)=1
namespace OF
variable{F:Type}[OF F]
instance:LT F:=⟨λa b=>aA (b-a)=1⟩
instance:LE F:=⟨λa b=>aA (b-a)≠-1⟩
theorem lt_def(a b:F):(a<b)=(aA (b-a)=1):=rfl
theorem le_def(a b:F):(a<=b)=(aA (b-a)≠-1):=rfl
instance(a b:F):Decidable (a<b):=inferInstanceAs (Decidable (aA (b-a)=1))
instance(a b:F):Decidable (a<=b):=inferInstanceAs (Decidable (aA (b-a)≠-1))
theorem Gt(a:F)(l r:E->E)(h:E.peq (l (.var 0)).norm (r (.var 0)).norm=true):(l (.var 0)).den (rD [a])=(r (.var 0)).den (rD [a]):=E.prove _ _ _ h
theorem kZ(a b:F)(l r:E->E->E)(h:E.peq (l (.var 0) (.var 1)).norm (r (.var 0) (.var 1)).norm=true):
  (l (.var 0) (.var 1)).den (rD [a,b])=(r (.var 0) (.var 1)).den (rD [a,b]):=E.prove _ _ _ h
theorem mL(a b c:F)(l r:E->E->E->E)(h:E.peq (l (.var 0) (.var 1) (.var 2)).norm (r (.var 0) (.var 1) (.var 2)).norm=true):
  (l (.var 0) (.var 1) (.var 2)).den (rD [a,b,c])=(r (.var 0) (.var 1) (.var 2)).den (rD [a,b,c]):=E.prove _ _ _ h
theorem Gu(a b c d:F)(l r:E->E->E->E->E)(h:E.peq (l (.var 0) (.var 1) (.var 2) (.var 3)).norm (r (.var 0) (.var 1) (.var 2) (.var 3)).norm=true):
  (l (.var 0) (.var 1) (.var 2) (.var 3)).den (rD [a,b,c,d])=(r (.var 0) (.var 1) (.var 2) (.var 3)).den (rD [a,b,c,d]):=E.prove _ _ _ h
theorem Ja(a b c d e:F)(l r:E->E->E->E->E->E)
  (h:E.peq (l (.var 0) (.var 1) (.var 2) (.var 3) (.var 4)).norm (r (.var 0) (.var 1) (.var 2) (.var 3) (.var 4)).norm=true) :
  (l (.var 0) (.var 1) (.var 2) (.var 3) (.var 4)).den (rD [a,b,c,d,e])=(r (.var 0) (.var 1) (.var 2) (.var 3) (.var 4)).den (rD [a,b,c,d,e]):=E.prove _ _ _ h
theorem aIb(a b c d e f:F)(l r:E->E->E->E->E->E->E)
  (h:E.peq (l (.var 0) (.var 1) (.var 2) (.var 3) (.var 4) (.var 5)).norm (r (.var 0) (.var 1) (.var 2) (.var 3) (.var 4) (.var 5)).norm=true) :
  (l (.var 0) (.var 1) (.var 2) (.var 3) (.var 4) (.var 5)).den (rD [a,b,c,d,e,f])=(r (.var 0) (.var 1) (.var 2) (.var 3) (.var 4) (.var 5)).den (rD [a,b,c,d,e,f]):=E.prove _ _ _ h
theorem sub_zero(a:F):a-0=a:=Gt a (λa=>a-0) (λa=>a) d_
theorem sub_self(a:F):a-a=0:=Gt a (λa=>a-a) (λ_=>0) d_
theorem sub_eq_zero{a b:F}:a-b=0↔a=b:=by
 constructor
 ·intro h;have:a=(a-b)+b:=kZ a b (λa _=>a) (λa b=>(a-b)+b) d_;rw[this,h,CR.zero_add]
 ·rintro rfl;exact sub_self a
theorem iC{a:F}:0<a↔aA a=1:=by rw[lt_def,sub_zero]
theorem Gv{a:F}:a<0↔aA a=-1:=by rw[lt_def,show(0:F)-a=-a from Gt a (λa=>0-a) (λa=>-a) d_,pB];omega
theorem MJ{a:F}:a=0↔aA a=0:=(eZ a).symm
theorem Jb{a:F}:0<=a↔aA a≠-1:=by rw[le_def,sub_zero]
theorem Sa{a:F}:a<=0↔aA a≠1:=by rw[le_def,show(0:F)-a=-a from Gt a (λa=>0-a) (λa=>-a) d_,pB];omega
theorem neg_sub(a b:F):-(a-b)=b-a:=kZ a b (λa b=>-(a-b)) (λa b=>b-a) d_
theorem Ef(a b:F):aA (a-b)=- aA (b-a):=by rw[<-neg_sub,pB]
theorem lt_irrefl(a:F):¬a<a:=by rw[lt_def,sub_self,(eZ (0:F)).2 rfl];decide
theorem not_lt{a b:F}:¬a<b↔b<=a:=by rw[lt_def,le_def,Ef a b];omega
theorem not_le{a b:F}:¬a<=b↔b<a:=by rw[lt_def,le_def,Ef a b];rcases iB (b-a)with h|h|h<;>rw[h]<;>decide
theorem lt_trans{a b c:F}(h:a<b)(k:b<c):a<c:=by rw[lt_def]at *;rw[show c-a=(c-b)+(b-a)from mL a b c (λa _ c=>c-a) (λa b c=>(c-b)+(b-a)) d_];exact Ch _ _ k h
theorem le_of_lt{a b:F}(h:a<b):a<=b:=by rw[lt_def]at h;rw[le_def,h];decide
theorem le_refl(a:F):a<=a:=by rw[le_def,sub_self,(eZ (0:F)).2 rfl];decide
theorem le_of_eq{a b:F}(h:a=b):a<=b:=h▸le_refl a
theorem oM{a b:F}(h:a<=b):a<b\/a=b:=by
 rw[le_def]at h;rw[lt_def];rcases iB (b-a)with k|k|k
 ·exact absurd k h
 ·exact .inr (sub_eq_zero.1 ((eZ _).1 k)).symm
 ·exact .inl k
theorem lt_of_lt_of_le{a b c:F}(h:a<b)(k:b<=c):a<c:=by
 rcases oM k with k|rfl
 ·exact lt_trans h k
 ·exact h
theorem lt_of_le_of_lt{a b c:F}(h:a<=b)(k:b<c):a<c:=by
 rcases oM h with h|rfl
 ·exact lt_trans h k
 ·exact k
theorem le_trans{a b c:F}(h:a<=b)(k:b<=c):a<=c:=by
 rcases oM h with h|rfl
 ·exact le_of_lt (lt_of_lt_of_le h k)
 ·exact k
theorem le_antisymm{a b:F}(h:a<=b)(k:b<=a):a=b:=by
 rcases oM h with h|h
 ·exact absurd (lt_of_lt_of_le h k) (lt_irrefl a)
 ·exact h
theorem lt_trichotomy(a b:F):a<b\/a=b\/b<a:=by
 by_cases h:a<b
 ·exact .inl h
 ·rcases oM (not_lt.1 h)with h|h
  ·exact .inr (.inr h)
  ·exact .inr (.inl h.symm)
theorem le_total(a b:F):a<=b\/b<=a:=by
 by_cases h:a<b
 ·exact .inl (le_of_lt h)
 ·exact .inr (not_lt.1 h)
theorem ne_of_lt{a b:F}(h:a<b):a≠b:=λe=>lt_irrefl b (e▸h)
theorem ne_of_gt{a b:F}(h:a<b):b≠a:=λe=>lt_irrefl b (e▸h)
theorem sub_pos{a b:F}:0<b-a↔a<b:=by rw[iC,lt_def]
theorem sub_nonneg{a b:F}:0<=b-a↔a<=b:=by rw[Jb,le_def]
theorem add_pos{a b:F}(h:0<a)(k:0<b):0<a+b:=by rw[iC]at *;exact Ch _ _ h k
theorem add_nonneg{a b:F}(h:0<=a)(k:0<=b):0<=a+b:=by
 rcases oM h with h|h
 ·rcases oM k with k|k
  ·exact le_of_lt (add_pos h k)
  ·rw[<-k,CR.add_zero];exact le_of_lt h
 ·rw[<-h,CR.zero_add];exact k
theorem Jc{a b:F}(h:0<a)(k:0<=b):0<a+b:=by
 rcases oM k with k|k
 ·exact add_pos h k
 ·rw[<-k,CR.add_zero];exact h
theorem Y7{a b:F}(h:0<=a)(k:0<b):0<a+b:=by rw[CR.add_comm];exact Jc k h
theorem mul_pos{a b:F}(h:0<a)(k:0<b):0<a*b:=by rw[iC]at *;rw[lD,h,k];rfl
theorem mul_nonneg{a b:F}(h:0<=a)(k:0<=b):0<=a*b:=by
 rcases oM h with h|h
 ·rcases oM k with k|k
  ·exact le_of_lt (mul_pos h k)
  ·rw[<-k,CR.mul_zero];exact le_refl _
 ·rw[<-h,CR.zero_mul];exact le_refl _
theorem neg_pos{a:F}:0 < -a↔a<0:=by rw[iC,Gv,pB];omega
theorem neg_nonneg{a:F}:0<=-a↔a<=0:=by rw[Jb,Sa,pB];omega
theorem Jd{a:F}:-a<0↔0<a:=by rw[iC,Gv,pB];omega
theorem aIc{a:F}:-a<=0↔0<=a:=by rw[Jb,Sa,pB];omega
theorem zero_lt_one:(0:F)<1:=by rw[iC];exact Gs
theorem l4(a:F):0<=a*a:=by rw[Jb,lD];rcases iB a with h|h|h<;>rw[h]<;>decide
theorem Sb{a:F}(h:a≠0):0<a*a:=by
 rw[iC,lD];rcases iB a with k|k|k
 ·rw[k];decide
 ·exact absurd ((eZ a).1 k) h
 ·rw[k];decide
theorem mul_eq_zero{a b:F}:a*b=0↔a=0\/b=0:=by rw[<-eZ,lD,<-eZ,<-eZ,Int.mul_eq_zero]
theorem mul_ne_zero{a b:F}(h:a≠0)(k:b≠0):a*b≠0:=λe=>by
 rcases mul_eq_zero.1 e with e|e
 ·exact h e
 ·exact k e
theorem mul_lt_mul_left{a b c:F}(hc:0<c):c*a<c*b↔a<b:=by rw[lt_def,lt_def,show c*b-c*a=c*(b-a)from mL a b c (λa b c=>c*b-c*a) (λa b c=>c*(b-a)) d_,lD,iC.1 hc,MF]
theorem mul_le_mul_left{a b c:F}(hc:0<c):c*a<=c*b↔a<=b:=by rw[le_def,le_def,show c*b-c*a=c*(b-a)from mL a b c (λa b c=>c*b-c*a) (λa b c=>c*(b-a)) d_,lD,iC.1 hc,MF]
theorem add_lt_add_left{a b:F}(c:F):c+a<c+b↔a<b:=by rw[lt_def,lt_def,show c+b-(c+a)=b-a from mL a b c (λa b c=>c+b-(c+a)) (λa b _=>b-a) d_]
theorem add_le_add_left{a b:F}(c:F):c+a<=c+b↔a<=b:=by rw[le_def,le_def,show c+b-(c+a)=b-a from mL a b c (λa b c=>c+b-(c+a)) (λa b _=>b-a) d_]
theorem add_lt_add_right{a b:F}(c:F):a+c<b+c↔a<b:=by rw[CR.add_comm a,CR.add_comm b];exact add_lt_add_left c
theorem add_le_add_right{a b:F}(c:F):a+c<=b+c↔a<=b:=by rw[CR.add_comm a,CR.add_comm b];exact add_le_add_left c
theorem add_le_add{a b c d:F}(h:a<=b)(k:c<=d):a+c<=b+d:=le_trans ((add_le_add_right c).2 h) ((add_le_add_left b).2 k)
theorem add_lt_add_of_lt_of_le{a b c d:F}(h:a<b)(k:c<=d):a+c<b+d:=lt_of_lt_of_le ((add_lt_add_right c).2 h) ((add_le_add_left b).2 k)
theorem add_lt_add_of_le_of_lt{a b c d:F}(h:a<=b)(k:c<d):a+c<b+d:=lt_of_le_of_lt ((add_le_add_right c).2 h) ((add_lt_add_left b).2 k)
theorem aId(a:F):aA a⁻¹=aA a:=by
 by_cases h:a=0
 ·rw[h,inv_zero]
 ·have:=lD a a⁻¹;rw[pA a h,Gs]at this;rcases iB a with k|k|k<;>rcases iB a⁻¹ with l|l|l<;>rw[k,l]at this ⊢<;>omega
theorem inv_pos{a:F}(h:0<a):0<a⁻¹:=by rw[iC]at *;rw[aId,h]
theorem Je{u v:F}(h:v*v<u*u):aA (u+v)=aA u:=by
 have e:(u+v)*(u-v)=u*u-v*v:=kZ u v (λu v=>(u+v)*(u-v)) (λu v=>u*u-v*v) d_;have s:aA (u+v)*aA (u-v)=1:=by rw[<-lD,e];exact h
 have t:(u+v)+(u-v)=u+u:=kZ u v (λu v=>(u+v)+(u-v)) (λu _=>u+u) d_;have two:∀ x y:F,aA x=1->aA y=1->x+y=u+u->aA u=1:=by
  intro x y hx hy jX;have:=Ch x y hx hy;rw[jX]at this;rcases iB u with k|k|k
  ·have h2:=Ch (-u) (-u) (by rw[pB,k];rfl) (by rw[pB,k];rfl);rw[<-CR.Cg,pB,this]at h2;exact absurd h2 d_
  ·rw[(eZ u).1 k,CR.add_zero,(eZ (0:F)).2 rfl]at this;exact absurd this d_
  ·exact k
 rcases iB (u+v)with k|k|k<;>rcases iB (u-v)with l|l|l<;>rw[k,l]at s<;>first|exact absurd s d_|skip
 ·have h1:=Ch (-(u+v)) (-(u-v)) (by rw[pB,k];rfl) (by rw[pB,l];rfl);rw[<-CR.Cg,t,CR.Cg]at h1;rw[k];rcases iB u with m|m|m
  ·exact m.symm
  ·rw[(eZ u).1 m,CR.neg_zero,CR.add_zero,(eZ (0:F)).2 rfl]at h1;exact absurd h1 d_
  ·have h2:=Ch u u m m;rw[<-CR.Cg,pB,h2]at h1;exact absurd h1 d_
 ·rw[k,two _ _ k l t]
theorem aIe{a b:F}(h:0<a):aA (a*b)=aA b:=by rw[lD,iC.1 h,MF]
theorem mul_lt_mul''{a b c d:F}(ha:0<=a)(h:a<b)(hc:0<=c)(k:c<d):a*c<b*d:=by have hb:=lt_of_le_of_lt ha h;have hd:=lt_of_le_of_lt hc k;have e:b*d-a*c=(b-a)*d+a*(d-c):=Gu a b c d (λa b c d=>b*d-a*c) (λa b c d=>(b-a)*d+a*(d-c)) d_;rw[<-sub_pos,e];exact Jc (mul_pos (sub_pos.2 h) hd) (mul_nonneg ha (sub_nonneg.2 (le_of_lt k)))
end OF
end
section
open CR OF
class wB (F:Type) [OF F] (s:F):Prop where
 pos:0<s
 Sc:∀ x y:F,x*x=s*(y*y)->y=0
@[ext] structure bo (F:Type) (s:F) where
 re:F
 im:F
namespace bo
variable{F:Type}[OF F]{s:F}
instance:Add (bo F s):=⟨λx y=>⟨x.re+y.re,x.im+y.im⟩⟩
instance:Mul (bo F s):=⟨λx y=>⟨x.re*y.re+s*(x.im*y.im),x.re*y.im+x.im*y.re⟩⟩
instance:Neg (bo F s):=⟨λx=>⟨-x.re,-x.im⟩⟩
instance:Sub (bo F s):=⟨λx y=>⟨x.re-y.re,x.im-y.im⟩⟩
instance:Zero (bo F s):=⟨⟨0,0⟩⟩
instance:One (bo F s):=⟨⟨1,0⟩⟩
def nm(x:bo F s):F:=x.re*x.re-s*(x.im*x.im)
instance:Inv (bo F s):=⟨λx=>⟨x.re*(nm x)⁻¹,-(x.im*(nm x)⁻¹)⟩⟩
def sg(x:bo F s):Int:=if aA (nm x)=1 then aA x.re else aA x.im
theorem Sd(x y:bo F s):(x+y).re=x.re+y.re:=rfl
theorem Se(x y:bo F s):(x+y).im=x.im+y.im:=rfl
theorem Gw(x y:bo F s):(x*y).re=x.re*y.re+s*(x.im*y.im):=rfl
theorem Gx(x y:bo F s):(x*y).im=x.re*y.im+x.im*y.re:=rfl
theorem MK(x:bo F s):(-x).re=-x.re:=rfl
theorem ML(x:bo F s):(-x).im=-x.im:=rfl
theorem Gy:(0:bo F s).re=0:=rfl
theorem Gz:(0:bo F s).im=0:=rfl
theorem Sf:(1:bo F s).re=1:=rfl
theorem Y8:(1:bo F s).im=0:=rfl
theorem Sg(x:bo F s):(x⁻¹).re=x.re*(nm x)⁻¹:=rfl
theorem Sh(x:bo F s):(x⁻¹).im=-(x.im*(nm x)⁻¹):=rfl
theorem MM(x y:bo F s):nm (x*y)=nm x*nm y:=by
 unfold nm;rw[Gw,Gx]
 exact Ja x.re x.im y.re y.im s (λa b c d s=>(a*c+s*(b*d))*(a*c+s*(b*d))-s*((a*d+b*c)*(a*d+b*c)))
  (λa b c d s=>(a*a-s*(b*b))*(c*c-s*(d*d))) d_
theorem Y9(x:bo F s):nm (-x)=nm x:=by unfold nm;rw[MK,ML];exact mL x.re x.im s (λa b s=>-a*-a-s*(-b*-b)) (λa b s=>a*a-s*(b*b)) d_
theorem rE{x:bo F s}(h:aA (nm x)=1):sg x=aA x.re:=by unfold sg;rw[aq h]
theorem sF{x:bo F s}(h:aA (nm x)=-1):sg x=aA x.im:=by unfold sg;rw[al (by rw[h];decide)]
theorem GA:sg (0:bo F s)=0:=by unfold sg;split<;>exact(eZ _).2 rfl
theorem Si(x:bo F s):sg (-x)=- sg x:=by unfold sg;rw[Y9,MK,ML,OF.pB,OF.pB];split<;>rfl
theorem aIf(x:bo F s):sg x=-1\/sg x=0\/sg x=1:=by unfold sg;split<;>exact iB _
theorem MN(x:bo F s):(-x).re*(-x).re=x.re*x.re/\(-x).im*(-x).im=x.im*x.im:=by rw[MK,ML];exact⟨Gt x.re (λa=>-a*-a) (λa=>a*a) d_,Gt x.im (λa=>-a*-a) (λa=>a*a) d_⟩
theorem aIg(x y:bo F s):x+y=y+x:=bo.ext (CR.add_comm _ _) (CR.add_comm _ _)
theorem aIh:sg (1:bo F s)=1:=by
 have:nm (1:bo F s)=1:=by unfold nm;rw[Sf,Y8,CR.mul_zero,CR.mul_zero,OF.sub_zero,CR.one_mul]
 rw[rE (by rw[this];exact Gs),Sf];exact Gs
variable[hs:wB F s]
theorem MO{x:bo F s}(h:nm x=0):x=0:=by
 have h1:=OF.sub_eq_zero.1 h;have h2:=wB.Sc _ _ h1;have h3:x.re=0:=by rw[h2,CR.mul_zero,CR.mul_zero]at h1;rcases mul_eq_zero.1 h1 with h|h<;>exact h
 exact bo.ext h3 h2
theorem ways(x:bo F s):x=0\/(aA (nm x)=1/\s*(x.im*x.im)<x.re*x.re)\/(aA (nm x)=-1/\x.re*x.re<s*(x.im*x.im)):=by
 rcases OF.lt_trichotomy (x.re*x.re) (s*(x.im*x.im))with h|h|h
 ·refine .inr (.inr ⟨?_,h⟩);unfold nm;rw[Ef,show aA (s*(x.im*x.im)-x.re*x.re)=1 from h]
 ·exact .inl (MO (OF.sub_eq_zero.2 h))
 ·exact .inr (.inl ⟨h,h⟩)
theorem aIi:aA s=1:=iC.1 (wB.pos (F:=F) (s:=s))
theorem aIj(x y:bo F s):sg (x*y)=sg x*sg y:=by
 have hz:∀ z:bo F s,(0:bo F s)*z=0:=λz=>by
  apply bo.ext
  ·rw[Gw,Gy,Gz,CR.zero_mul,CR.zero_mul,CR.mul_zero,CR.add_zero]
  ·rw[Gx,Gy,Gz,CR.zero_mul,CR.zero_mul,CR.add_zero]
 have lj:∀ z:bo F s,z*(0:bo F s)=0:=λz=>by
  apply bo.ext
  ·rw[Gw,Gy,Gz,CR.mul_zero,CR.mul_zero,CR.mul_zero,CR.add_zero]
  ·rw[Gx,Gy,Gz,CR.mul_zero,CR.mul_zero,CR.add_zero]
 have hp:=wB.pos (F:=F) (s:=s);rcases ways x with rfl|⟨hx,lx⟩|⟨hx,lx⟩
 ·rw[hz,GA,Int.zero_mul]
 ·rcases ways y with rfl|⟨hy,ly⟩|⟨hy,ly⟩
  ·rw[lj,GA,Int.mul_zero]
  ·have hn:aA (nm (x*y))=1:=by rw[MM,lD,hx,hy];rfl
   rw[rE hx,rE hy,rE hn,<-lD,Gw];apply Je;have:=mul_lt_mul'' (mul_nonneg (le_of_lt hp) (l4 _)) lx (mul_nonneg (le_of_lt hp) (l4 _)) ly;rw[show s*(x.im*y.im)*(s*(x.im*y.im))=s*(x.im*x.im)*(s*(y.im*y.im))from mL x.im y.im s (λb d s=>s*(b*d)*(s*(b*d))) (λb d s=>s*(b*b)*(s*(d*d))) d_];rw[show x.re*y.re*(x.re*y.re)=x.re*x.re*(y.re*y.re)from kZ x.re y.re (λa c=>a*c*(a*c)) (λa c=>a*a*(c*c)) d_];exact this
  ·have hn:aA (nm (x*y))=-1:=by rw[MM,lD,hx,hy];rfl
   rw[rE hx,sF hy,sF hn,<-lD,Gx];apply Je;have:=mul_lt_mul'' (mul_nonneg (le_of_lt hp) (l4 _)) lx (l4 _) ly;rw[<-mul_lt_mul_left hp];rw[show s*(x.im*y.re*(x.im*y.re))=s*(x.im*x.im)*(y.re*y.re)from mL x.im y.re s (λb c s=>s*(b*c*(b*c))) (λb c s=>s*(b*b)*(c*c)) d_];rw[show s*(x.re*y.im*(x.re*y.im))=x.re*x.re*(s*(y.im*y.im))from mL x.re y.im s (λa d s=>s*(a*d*(a*d))) (λa d s=>a*a*(s*(d*d))) d_];exact this
 ·rcases ways y with rfl|⟨hy,ly⟩|⟨hy,ly⟩
  ·rw[lj,GA,Int.mul_zero]
  ·have hn:aA (nm (x*y))=-1:=by rw[MM,lD,hx,hy];rfl
   rw[sF hx,rE hy,sF hn,<-lD,Gx,CR.add_comm];apply Je;have:=mul_lt_mul'' (l4 _) lx (mul_nonneg (le_of_lt hp) (l4 _)) ly;rw[<-mul_lt_mul_left hp];rw[show s*(x.im*y.re*(x.im*y.re))=s*(x.im*x.im)*(y.re*y.re)from mL x.im y.re s (λb c s=>s*(b*c*(b*c))) (λb c s=>s*(b*b)*(c*c)) d_];rw[show s*(x.re*y.im*(x.re*y.im))=x.re*x.re*(s*(y.im*y.im))from mL x.re y.im s (λa d s=>s*(a*d*(a*d))) (λa d s=>a*a*(s*(d*d))) d_];exact this
  ·have hn:aA (nm (x*y))=1:=by rw[MM,lD,hx,hy];rfl
   rw[sF hx,sF hy,rE hn,<-lD,Gw,CR.add_comm];rw[show aA (x.im*y.im)=aA (s*(x.im*y.im))by rw[aIe hp]];apply Je;have:=mul_lt_mul'' (l4 _) lx (l4 _) ly;rw[show s*(x.im*y.im)*(s*(x.im*y.im))=s*(x.im*x.im)*(s*(y.im*y.im))from mL x.im y.im s (λb d s=>s*(b*d)*(s*(b*d))) (λb d s=>s*(b*b)*(s*(d*d))) d_];rw[show x.re*y.re*(x.re*y.re)=x.re*x.re*(y.re*y.re)from kZ x.re y.re (λa c=>a*c*(a*c)) (λa c=>a*a*(c*c)) d_];exact this
theorem aIk(x:bo F s):sg x=0↔x=0:=by
 constructor
 ·intro h;rcases ways x with rfl|⟨hx,lx⟩|⟨hx,lx⟩
  ·rfl
  ·rw[rE hx]at h;rw[(eZ _).1 h,CR.mul_zero]at lx;exact absurd (lt_of_le_of_lt (mul_nonneg (le_of_lt (wB.pos (F:=F) (s:=s))) (l4 _)) lx) (OF.lt_irrefl _)
  ·rw[sF hx]at h;rw[(eZ _).1 h,CR.mul_zero,CR.mul_zero]at lx;exact absurd (lt_of_le_of_lt (l4 _) lx) (OF.lt_irrefl _)
 ·rintro rfl;exact GA
theorem Za{u v:F}(hu:0<u)(h:v*v<u*u):0<u+v:=by rw[iC,Je h];exact iC.1 hu
theorem add_one{x y:bo F s}(hx:s*(x.im*x.im)<x.re*x.re)(hy:s*(y.im*y.im)<y.re*y.re)(px:0<x.re)(py:0<y.re):sg (x+y)=1:=by
 have hp:=wB.pos (F:=F) (s:=s);have:=mul_lt_mul'' (mul_nonneg (le_of_lt hp) (l4 _)) hx (mul_nonneg (le_of_lt hp) (l4 _)) hy;have h1:0<x.re*y.re+-(s*(x.im*y.im)):=by apply Za (mul_pos px py);rw[show -(s*(x.im*y.im))*-(s*(x.im*y.im))=s*(x.im*x.im)*(s*(y.im*y.im))from mL x.im y.im s (λb d s=>-(s*(b*d))*-(s*(b*d))) (λb d s=>s*(b*b)*(s*(d*d))) d_];rw[show x.re*y.re*(x.re*y.re)=x.re*x.re*(y.re*y.re)from kZ x.re y.re (λa c=>a*c*(a*c)) (λa c=>a*a*(c*c)) d_];exact this
 have hn:aA (nm (x+y))=1:=by
  rw[<-iC];unfold nm;rw[Sd,Se];rw[show(x.re+y.re)*(x.re+y.re)-s*((x.im+y.im)*(x.im+y.im))=(x.re*x.re-s*(x.im*x.im))+(y.re*y.re-s*(y.im*y.im))+((x.re*y.re+-(s*(x.im*y.im)))+(x.re*y.re+-(s*(x.im*y.im))))from
   Ja x.re x.im y.re y.im s (λa b c d s=>(a+c)*(a+c)-s*((b+d)*(b+d))) (λa b c d s=>(a*a-s*(b*b))+(c*c-s*(d*d))+((a*c+-(s*(b*d)))+(a*c+-(s*(b*d))))) d_]
  exact add_pos (add_pos (sub_pos.2 hx) (sub_pos.2 hy)) (add_pos h1 h1)
 rw[rE hn,Sd];exact iC.1 (add_pos px py)
theorem Zb{x y:bo F s}(hx:x.re*x.re<s*(x.im*x.im))(hy:y.re*y.re<s*(y.im*y.im))(px:0<x.im)(py:0<y.im):sg (x+y)=1:=by
 have hp:=wB.pos (F:=F) (s:=s);have:=mul_lt_mul'' (l4 _) hx (l4 _) hy;have h1:0<s*(x.im*y.im)+-(x.re*y.re):=by apply Za (mul_pos hp (mul_pos px py));rw[show s*(x.im*y.im)*(s*(x.im*y.im))=s*(x.im*x.im)*(s*(y.im*y.im))from mL x.im y.im s (λb d s=>s*(b*d)*(s*(b*d))) (λb d s=>s*(b*b)*(s*(d*d))) d_];rw[show -(x.re*y.re)*-(x.re*y.re)=x.re*x.re*(y.re*y.re)from kZ x.re y.re (λa c=>-(a*c)*-(a*c)) (λa c=>a*a*(c*c)) d_];exact this
 have hn:aA (nm (x+y))=-1:=by
  rw[<-Gv,<-neg_pos];unfold nm;rw[Sd,Se];rw[show -((x.re+y.re)*(x.re+y.re)-s*((x.im+y.im)*(x.im+y.im)))=(s*(x.im*x.im)-x.re*x.re)+(s*(y.im*y.im)-y.re*y.re)+((s*(x.im*y.im)+-(x.re*y.re))+(s*(x.im*y.im)+-(x.re*y.re)))from
   Ja x.re x.im y.re y.im s (λa b c d s=>-((a+c)*(a+c)-s*((b+d)*(b+d)))) (λa b c d s=>(s*(b*b)-a*a)+(s*(d*d)-c*c)+((s*(b*d)+-(a*c))+(s*(b*d)+-(a*c)))) d_]
  exact add_pos (add_pos (sub_pos.2 hx) (sub_pos.2 hy)) (add_pos h1 h1)
 rw[sF hn,Se];exact iC.1 (add_pos px py)
theorem aIl(x y:bo F s)(hx:sg x=1)(hy:sg y=1):sg (x+y)=1:=by
 have ne:∀ z:bo F s,sg z=1->z≠0:=λz h e=>by rw[e,GA]at h;exact absurd h d_
 -- the first part of x aSw,the second one of y
 have mixed:∀ x y:bo F s,sg x=1->sg y=1->aA (nm x)=1->s*(x.im*x.im)<x.re*x.re->aA (nm y)=-1->y.re*y.re<s*(y.im*y.im)->sg (x+y)=1:=by
  intro x y hx hy nx lx ny ly;rw[rE nx]at hx;rw[sF ny]at hy;rcases ways (x+y)with h|⟨hn,ln⟩|⟨hn,ln⟩
  ·have:y=-x:=by have h1:x.re+y.re=0:=b9 bo.re h;have h2:x.im+y.im=0:=b9 bo.im h;exact bo.ext (CR.Gq h1) (CR.Gq h2)
   rw[this,Y9,nx]at ny;exact absurd ny d_
  ·rw[rE hn];rcases iB (x+y).re with k|k|k
   ·-- then -(x+y) and x add up to -y
    have h3:=add_one (x:=-(x+y)) (y:=x) (by rw[(MN _).1,(MN _).2];exact ln) lx (by rw[MK];exact neg_pos.2 (Gv.2 k)) (iC.2 hx);have h4:-(x+y)+x=-y:=bo.ext (kZ x.re y.re (λa c=>-(a+c)+a) (λ_ c=>-c) d_) (kZ x.im y.im (λa c=>-(a+c)+a) (λ_ c=>-c) d_);rw[h4,Si,sF ny,hy]at h3;exact absurd h3 d_
   ·have k0:=(eZ _).1 k;rw[k0,CR.mul_zero]at ln;exact absurd (lt_of_le_of_lt (mul_nonneg (le_of_lt (wB.pos (F:=F) (s:=s))) (l4 _)) ln) (OF.lt_irrefl _)
   ·exact k
  ·rw[sF hn];rcases iB (x+y).im with k|k|k
   ·have h3:=Zb (x:=-(x+y)) (y:=y) (by rw[(MN _).1,(MN _).2];exact ln) ly (by rw[ML];exact neg_pos.2 (Gv.2 k)) (iC.2 hy);have h4:-(x+y)+y=-x:=bo.ext (kZ x.re y.re (λa c=>-(a+c)+c) (λa _=>-a) d_) (kZ x.im y.im (λa c=>-(a+c)+c) (λa _=>-a) d_);rw[h4,Si,rE nx,hx]at h3;exact absurd h3 d_
   ·have k0:=(eZ _).1 k;rw[k0,CR.mul_zero,CR.mul_zero]at ln;exact absurd (lt_of_le_of_lt (l4 _) ln) (OF.lt_irrefl _)
   ·exact k
 rcases ways x with h|⟨nx,lx⟩|⟨nx,lx⟩
 ·exact absurd h (ne x hx)
 ·rcases ways y with h|⟨ny,ly⟩|⟨ny,ly⟩
  ·exact absurd h (ne y hy)
  ·rw[rE nx]at hx;rw[rE ny]at hy;exact add_one lx ly (iC.2 hx) (iC.2 hy)
  ·exact mixed x y hx hy nx lx ny ly
 ·rcases ways y with h|⟨ny,ly⟩|⟨ny,ly⟩
  ·exact absurd h (ne y hy)
  ·rw[aIg];exact mixed y x hy hx ny ly nx lx
  ·rw[sF nx]at hx;rw[sF ny]at hy;exact Zb lx ly (iC.2 hx) (iC.2 hy)
instance:OF (bo F s) where
 add_assoc a b c:=bo.ext (CR.add_assoc _ _ _) (CR.add_assoc _ _ _)
 add_comm a b:=bo.ext (CR.add_comm _ _) (CR.add_comm _ _)
 zero_add a:=bo.ext (CR.zero_add _) (CR.zero_add _)
 neg_add a:=bo.ext (CR.neg_add _) (CR.neg_add _)
 mul_assoc x y z:=bo.ext
  (E.prove (rD [x.re,x.im,y.re,y.im,z.re,z.im,s]) ((E.var 0*E.var 2+E.var 6*(E.var 1*E.var 3))*E.var 4+E.var 6*((E.var 0*E.var 3+E.var 1*E.var 2)*E.var 5))
   (E.var 0*(E.var 2*E.var 4+E.var 6*(E.var 3*E.var 5))+E.var 6*(E.var 1*(E.var 2*E.var 5+E.var 3*E.var 4))) d_)
  (E.prove (rD [x.re,x.im,y.re,y.im,z.re,z.im,s]) ((E.var 0*E.var 2+E.var 6*(E.var 1*E.var 3))*E.var 5+(E.var 0*E.var 3+E.var 1*E.var 2)*E.var 4)
   (E.var 0*(E.var 2*E.var 5+E.var 3*E.var 4)+E.var 1*(E.var 2*E.var 4+E.var 6*(E.var 3*E.var 5))) d_)
 mul_comm x y:=bo.ext
  (Ja x.re x.im y.re y.im s (λa b c d s=>a*c+s*(b*d)) (λa b c d s=>c*a+s*(d*b)) d_)
  (Gu x.re x.im y.re y.im (λa b c d=>a*d+b*c) (λa b c d=>c*b+d*a) d_)
 one_mul x:=bo.ext
  (mL x.re x.im s (λa b s=>1*a+s*(0*b)) (λa _ _=>a) d_)
  (kZ x.re x.im (λa b=>1*b+0*a) (λ_ b=>b) d_)
 mul_add x y z:=bo.ext
  (E.prove (rD [x.re,x.im,y.re,y.im,z.re,z.im,s]) (E.var 0*(E.var 2+E.var 4)+E.var 6*(E.var 1*(E.var 3+E.var 5)))
   ((E.var 0*E.var 2+E.var 6*(E.var 1*E.var 3))+(E.var 0*E.var 4+E.var 6*(E.var 1*E.var 5))) d_)
  (aIb x.re x.im y.re y.im z.re z.im (λa b c d e f=>a*(d+f)+b*(c+e)) (λa b c d e f=>(a*d+b*c)+(a*f+b*e)) d_)
 sub_def a b:=bo.ext (CR.sub_def _ _) (CR.sub_def _ _)
 pA x h:=by
  have hn:nm x≠0:=λe=>h (MO e);have h1:=pA (nm x) hn;apply bo.ext
  ·rw[Gw,Sg,Sh,Sf,<-h1];exact Gu x.re x.im s (nm x)⁻¹ (λa b s n=>a*(a*n)+s*(b*-(b*n))) (λa b s n=>(a*a-s*(b*b))*n) d_
  ·rw[Gx,Sg,Sh,Y8];exact mL x.re x.im (nm x)⁻¹ (λa b n=>a*-(b*n)+b*(a*n)) (λ_ _ _=>0) d_
 inv_zero:=by
  apply bo.ext
  ·rw[Sg,Gy,CR.zero_mul]
  ·rw[Sh,Gz,CR.zero_mul,CR.neg_zero]
 aA:=sg
 eZ:=aIk
 iB:=aIf
 pB:=Si
 lD:=aIj
 Ch:=aIl
 Gs:=aIh
end bo
theorem Al(q:Rat):q.num.sign=1↔0<q:=by rw[Zc,Rat.lt_iff];simp
theorem GB(q:Rat):q.num.sign=-1↔q<0:=by rw[aIm,Rat.lt_iff];simp
theorem GC(q:Rat):q.num.sign=0↔q=0:=by rw[aIn];exact Rat.num_eq_zero
theorem Sj(q:Rat):q.num.sign=-1\/q.num.sign=0\/q.num.sign=1:=by
 rcases MP q.num 0 with h|h|h
 ·exact .inl (aIm.2 h)
 ·exact .inr (.inl (aIn.2 h))
 ·exact .inr (.inr (Zc.2 h))
instance:OF Rat where
 add_assoc:=Rat.add_assoc
 add_comm:=Rat.add_comm
 zero_add:=Rat.zero_add
 neg_add:=Rat.neg_add_cancel
 mul_assoc:=Rat.mul_assoc
 mul_comm:=Rat.mul_comm
 one_mul:=Rat.one_mul
 mul_add:=Rat.mul_add
 sub_def:=Rat.sub_eq_add_neg
 pA:=λx h=>GD x h
 inv_zero:=Rat.inv_zero
 aA q:=q.num.sign
 eZ:=GC
 iB:=Sj
 pB q:=by rw[Rat.neg_num,Int.sign_neg]
 lD x y:=by
  rcases Sj x with h|h|h<;>rcases Sj y with k|k|k<;>rw[h,k]
  ·exact(Al _).2 (by have:=(GB _).1 h;have:=(GB _).1 k;have h2:=Sk (a:=-x) (b:=-y) (by grind) (by grind);grind)
  ·rw[(GC y).1 k,Rat.mul_zero];rfl
  ·exact(GB _).2 (by have:=(GB _).1 h;have:=(Al _).1 k;have h2:=Sk (a:=-x) (b:=y) (by grind) (by grind);grind)
  ·rw[(GC x).1 h,Rat.zero_mul];rfl
  ·rw[(GC x).1 h,Rat.zero_mul];rfl
  ·rw[(GC x).1 h,Rat.zero_mul];rfl
  ·exact(GB _).2 (by have:=(Al _).1 h;have:=(GB _).1 k;have h2:=Sk (a:=x) (b:=-y) (by grind) (by grind);grind)
  ·rw[(GC y).1 k,Rat.mul_zero];rfl
  ·exact(Al _).2 (Sk ((Al _).1 h) ((Al _).1 k))
 Ch x y h k:=(Al _).2 (by have:=(Al _).1 h;have:=(Al _).1 k;grind)
 Gs:=rfl
theorem aIo(n:Nat)(hn:n=2\/n=3\/n=6)(p q:Nat)(h:p*p=n*(q*q))(hc:Nat.gcd p q=1):False:=by
 rcases hn with rfl|rfl|rfl
 ·have h1:p%2=0:=by
   have:(p*p)%2=0:=by rw[h];omega
   rcases Sl p with k|k
   ·exact k
   ·rw[Jf,k]at this;exact absurd this d_
  obtain⟨r,rfl⟩:∃ r,p=2*r:=⟨p/2,by omega⟩;have h2:q*q=2*(r*r):=by
   have:2*r*(2*r)=2*(2*(r*r)):=by simp only[fq,lX]
   omega
  have h3:q%2=0:=by
   have:(q*q)%2=0:=by rw[h2];omega
   rcases Sl q with k|k
   ·exact k
   ·rw[Jf,k]at this;exact absurd this d_
  have:=GF (Jg h1) (Jg h3);rw[hc]at this;exact absurd this d_
 ·have m3:∀ k:Nat,(k*k)%3=0->k%3=0:=by
   intro k hk;have:k%3=0\/k%3=1\/k%3=2:=by omega
   rcases this with e|e|e
   ·exact e
   ·rw[Jf,e]at hk;exact absurd hk d_
   ·rw[Jf,e]at hk;exact absurd hk d_
  have h1:p%3=0:=m3 p (by rw[h];omega);obtain⟨r,rfl⟩:∃ r,p=3*r:=⟨p/3,by omega⟩;have h2:q*q=3*(r*r):=by
   have:3*r*(3*r)=3*(3*(r*r)):=by simp only[fq,lX]
   omega
  have h3:q%3=0:=m3 q (by rw[h2];omega);have:=GF (Jg h1) (Jg h3);rw[hc]at this;exact absurd this d_
 ·have h1:p%2=0:=by
   have:(p*p)%2=0:=by rw[h];omega
   rcases Sl p with k|k
   ·exact k
   ·rw[Jf,k]at this;exact absurd this d_
  obtain⟨r,rfl⟩:∃ r,p=2*r:=⟨p/2,by omega⟩;have h2:3*(q*q)=2*(r*r):=by
   have:2*r*(2*r)=2*(2*(r*r)):=by simp only[fq,lX]
   omega
  have h3:q%2=0:=by
   have:(q*q)%2=0:=by omega
   rcases Sl q with k|k
   ·exact k
   ·rw[Jf,k]at this;exact absurd this d_
  have:=GF (Jg h1) (Jg h3);rw[hc]at this;exact absurd this d_
theorem Sn(n:Nat)(hn:n=2\/n=3\/n=6)(x:Rat)(h:x*x=(n:Rat)):False:=by
 have hd:(x.den:Rat)≠0:=by have:=x.den_nz;simpa[Rat.natCast_eq_zero_iff]using this
 have e:(x.num:Rat)*x.num=n*(x.den*x.den):=by
  have h3:x*(x.den:Rat)=x.num:=by have h4:(x.num:Rat)/x.den*x.den=x.num:=Zd hd;rw[<-Rat.mkRat_eq_div,Rat.mkRat_self]at h4;exact h4
  rw[<-h3,<-h];grind
 have e':x.num*x.num=n*(x.den*x.den):=by
  have:((x.num*x.num:Int):Rat)=((n*(x.den*x.den):Int):Rat):=by simp only[Ci,Rat.intCast_natCast];exact e
  exact Rat.intCast_inj.1 this
 have e'':x.num.natAbs*x.num.natAbs=n*(x.den*x.den):=by have:=b9 Int.natAbs e';rw[wC]at this;rw[this];simp[wC]
 exact aIo n hn _ _ e'' x.reduced
theorem aIp{x y c:Rat}(h:x*x=c*(y*y))(hy:y≠0):(x*y⁻¹)*(x*y⁻¹)=c:=by
 have:=GD y hy;have e:(x*y⁻¹)*(x*y⁻¹)=(x*x)*(y⁻¹*y⁻¹):=by grind
 rw[e,h];grind
instance aSx:wB Rat 2 where
 pos:=by rw[iC];rfl
 Sc x y h:=by
  by_cases hy:y=0
  ·exact hy
  ·exact(Sn 2 (.inl rfl) _ (aIp h hy)).elim
abbrev K2:=bo Rat 2
def yo:K2:=⟨3,0⟩
theorem aIq(x:K2)(h:x*x=yo):False:=by
 have h1:x.re*x.re+2*(x.im*x.im)=3:=b9 bo.re h;have h2:x.re*x.im+x.im*x.re=0:=b9 bo.im h;have h3:x.re=0\/x.im=0:=by
  have:x.re*x.im=0:=by grind
  exact Rat.mul_eq_zero.1 this
 rcases h3 with h3|h3
 ·have:(2*x.im)*(2*x.im)=((6:Nat):Rat):=by rw[h3]at h1;have:((6:Nat):Rat)=6:=rfl;grind
  exact Sn 6 (.inr (.inr rfl)) _ this
 ·have:x.re*x.re=((3:Nat):Rat):=by rw[h3]at h1;have:((3:Nat):Rat)=3:=rfl;grind
  exact Sn 3 (.inr (.inl rfl)) _ this
instance aSy:wB K2 yo where
 pos:=by rw[iC];decide +kernel
 Sc x y h:=by
  by_cases hy:y=0
  ·exact hy
  ·refine(aIq (x*y⁻¹) ?_).elim;have h1:=OF.pA y hy;rw[show x*y⁻¹*(x*y⁻¹)=x*x*(y⁻¹*y⁻¹)from kZ x y⁻¹ (λx i=>x*i*(x*i)) (λx i=>x*x*(i*i)) d_,h];rw[show yo*(y*y)*(y⁻¹*y⁻¹)=yo*((y*y⁻¹)*(y*y⁻¹))from mL y y⁻¹ yo (λy i t=>t*(y*y)*(i*i)) (λy i t=>t*((y*i)*(y*i))) d_,h1,CR.mul_one,CR.mul_one]
abbrev K:=bo K2 yo
instance:OF K:=inferInstance
instance:DecidableEq K2:=λx y=>decidable_of_iff (x.re=y.re/\x.im=y.im) ⟨λh=>bo.ext h.1 h.2,λh=>by subst h;exact⟨rfl,rfl⟩⟩
instance:DecidableEq K:=λx y=>decidable_of_iff (x.re=y.re/\x.im=y.im) ⟨λh=>bo.ext h.1 h.2,λh=>by subst h;exact⟨rfl,rfl⟩⟩
structure Fr where
 a:Int
 b:Int
 c:Int
 e:Int
 d:Int
theorem Fr.ext'{x y:Fr}(h1:x.a=y.a)(h2:x.b=y.b)(h3:x.c=y.c)(h4:x.e=y.e)(h5:x.d=y.d):x=y:=by cases x;cases y;simp at *;exact⟨h1,h2,h3,h4,h5⟩
def Fr.val(x:Fr):K:=⟨⟨Rat.divInt x.a x.d,Rat.divInt x.b x.d⟩,⟨Rat.divInt x.c x.d,Rat.divInt x.e x.d⟩⟩
def Fr.g(x:Fr):Nat:=Nat.gcd (Nat.gcd (Nat.gcd (Nat.gcd x.d.natAbs x.a.natAbs) x.b.natAbs) x.c.natAbs) x.e.natAbs
structure Fr.oN(x:Fr):Prop where
 pos:0<x.d
 one:x.g=1
theorem aIr{x:Fr}(hd:k ∣ x.d.natAbs)(ha:k ∣ x.a.natAbs)(hb:k ∣ x.b.natAbs)(hc:k ∣ x.c.natAbs)(he:k ∣ x.e.natAbs):k ∣ x.g:=
 GF (GF (GF (GF hd ha) hb) hc) he
theorem Eg(x:Fr):x.g ∣ x.d.natAbs:=Cj (Cj (Cj (Am _ _) (Am _ _)) (Am _ _)) (Am _ _)
theorem MQ(x:Fr):x.g ∣ x.a.natAbs:=Cj (Cj (Cj (Am _ _) (Am _ _)) (Am _ _)) (Sp _ _)
theorem MR(x:Fr):x.g ∣ x.b.natAbs:=Cj (Cj (Am _ _) (Am _ _)) (Sp _ _)
theorem MS(x:Fr):x.g ∣ x.c.natAbs:=Cj (Am _ _) (Sp _ _)
theorem MT(x:Fr):x.g ∣ x.e.natAbs:=Sp _ _
theorem Ze(x:Fr)(k:Nat):(Fr.mk (x.a*k) (x.b*k) (x.c*k) (x.e*k) (x.d*k)).g=x.g*k:=by unfold Fr.g;simp only[wC,An,Nat.gcd_mul_right]
theorem Zf{x y:Fr}(hx:x.oN)(hy:y.oN)(h:x.val=y.val):x.d.natAbs ∣ y.d.natAbs:=by
 have wD:x.d≠0:=by have:=hx.pos;omega
 have uT:y.d≠0:=by have:=hy.pos;omega
 have hr:=b9 bo.re h;have hi:=b9 bo.im h;have h1:Rat.divInt x.a x.d=Rat.divInt y.a y.d:=b9 bo.re hr;have h2:Rat.divInt x.b x.d=Rat.divInt y.b y.d:=b9 bo.im hr;have h3:Rat.divInt x.c x.d=Rat.divInt y.c y.d:=b9 bo.re hi;have h4:Rat.divInt x.e x.d=Rat.divInt y.e y.d:=b9 bo.im hi;rw[Rat.divInt_eq_divInt_iff wD uT]at h1 h2 h3 h4;have key:∀ u v:Int,u*y.d=v*x.d->x.d.natAbs ∣ (u*(y.d.natAbs:Int)).natAbs:=by
  intro u v e;have e2:(u*(y.d.natAbs:Int)).natAbs=(u*y.d).natAbs:=by simp[wC]
  rw[e2,e,wC];exact Nat.dvd_mul_left _ _
 have:=aIr (x:=Fr.mk (x.a*(y.d.natAbs:Int)) (x.b*(y.d.natAbs:Int)) (x.c*(y.d.natAbs:Int)) (x.e*(y.d.natAbs:Int)) (x.d*(y.d.natAbs:Int))) (k:=x.d.natAbs)
  (by rw[wC];exact Nat.dvd_mul_right _ _) (key _ _ h1) (key _ _ h2) (key _ _ h3) (key _ _ h4)
 rw[Ze,hx.one,ph]at this;exact this
theorem Zg{x y:Fr}(hx:x.oN)(hy:y.oN)(h:x.val=y.val):x=y:=by
 have jn:=hx.pos;have hyp:=hy.pos;have hd:x.d=y.d:=by have:=Nat.dvd_antisymm (Zf hx hy h) (Zf hy hx h.symm);omega
 have wD:x.d≠0:=by omega
 have uT:y.d≠0:=by omega
 have hr:=b9 bo.re h;have hi:=b9 bo.im h;have h1:Rat.divInt x.a x.d=Rat.divInt y.a y.d:=b9 bo.re hr;have h2:Rat.divInt x.b x.d=Rat.divInt y.b y.d:=b9 bo.im hr;have h3:Rat.divInt x.c x.d=Rat.divInt y.c y.d:=b9 bo.re hi;have h4:Rat.divInt x.e x.d=Rat.divInt y.e y.d:=b9 bo.im hi;rw[Rat.divInt_eq_divInt_iff wD uT,hd]at h1 h2 h3 h4;exact Fr.ext' (Sq uT h1) (Sq uT h2) (Sq uT h3) (Sq uT h4) hd
def Fr.s(x:Fr):Int:=if x.d<0 then -(x.g:Int)else x.g
def Fr.low(x:Fr):Fr:=⟨x.a/x.s,x.b/x.s,x.c/x.s,x.e/x.s,x.d/x.s⟩
theorem Sr{x:Fr}(hd:x.d≠0):0<x.g:=Nat.pos_of_dvd_of_pos (Eg x) o_
theorem Ss{x:Fr}(hd:x.d≠0):x.s≠0:=by have:=Sr hd;unfold Fr.s;split<;>omega
theorem MU(x:Fr):x.s.natAbs=x.g:=by unfold Fr.s;split<;>simp
theorem Ck{x:Fr}{u:Int}(h:x.g ∣ u.natAbs):x.s ∣ u:=by rw[<-Int.natAbs_dvd_natAbs,MU];exact h
theorem Zh{x:Fr}:x.a=x.low.a*x.s/\x.b=x.low.b*x.s/\x.c=x.low.c*x.s/\x.e=x.low.e*x.s/\x.d=x.low.d*x.s:=
 ⟨(MV (Ck (MQ x))).symm,(MV (Ck (MR x))).symm,(MV (Ck (MS x))).symm,(MV (Ck (MT x))).symm,(MV (Ck (Eg x))).symm⟩
theorem Zi{x:Fr}(hd:x.d≠0):x.low.val=x.val:=by obtain⟨h1,h2,h3,h4,h5⟩:=Zh (x:=x);have hs:=Ss hd;have key:∀ u v:Int,Rat.divInt u x.low.d=Rat.divInt (u*x.s) (x.low.d*x.s):=λu _=>(Rat.divInt_mul_right hs).symm;unfold Fr.val;rw[key _ 0,key _ 0,key _ 0,key _ 0,<-h1,<-h2,<-h3,<-h4,<-h5]
theorem Zj{x:Fr}(hd:x.d≠0):x.low.oN:=by
 obtain⟨h1,h2,h3,h4,h5⟩:=Zh (x:=x);have hg:=Sr hd;constructor
 ·have:x.d=x.low.d*x.s:=h5;rcases Int.lt_or_gt_of_ne hd with h|h
  ·have hs:x.s<0:=by unfold Fr.s;rw[aq h];omega
   rcases MP x.low.d 0 with k|k|k
   ·have:=Int.mul_pos_of_neg_of_neg k hs;omega
   ·rw[k,Int.zero_mul]at this;omega
   ·exact k
  ·have hs:0<x.s:=by unfold Fr.s;rw[al o_];omega
   rcases MP x.low.d 0 with k|k|k
   ·have:=Int.mul_neg_of_neg_of_pos k hs;omega
   ·rw[k,Int.zero_mul]at this;omega
   ·exact k
 ·have e:x.g=x.low.g*x.g:=by
   obtain⟨G,hG⟩:∃ G,G=x.g:=⟨_,rfl⟩;have ab:∀ u v:Int,u=v*x.s->u.natAbs=(v*(G:Int)).natAbs:=λu v h=>by rw[h,wC,wC,MU,An,hG]
   have h:=Ze x.low G;have e2:x.g=(Fr.mk (x.low.a*G) (x.low.b*G) (x.low.c*G) (x.low.e*G) (x.low.d*G)).g:=by unfold Fr.g;dsimp only;rw[<-ab _ _ h1,<-ab _ _ h2,<-ab _ _ h3,<-ab _ _ h4,<-ab _ _ h5]
   have:=e2.trans h;rw[hG]at this;exact this
  have:=aIs hg (show 1*x.g=x.low.g*x.g by rw[ph];exact e);exact this.symm
theorem Jh{x:Fr}{u:Int}(hd:x.d≠0):(u/x.s).natAbs<=u.natAbs:=aIt u x.s
def bI(k:K):Fr:=(Fr.mk (k.re.re.num*(k.re.im.den*(k.im.re.den*k.im.im.den):Nat)) (k.re.im.num*(k.re.re.den*(k.im.re.den*k.im.im.den):Nat))
 (k.im.re.num*(k.re.re.den*(k.re.im.den*k.im.im.den):Nat)) (k.im.im.num*(k.re.re.den*(k.re.im.den*k.im.re.den):Nat)) ((k.re.re.den*(k.re.im.den*(k.im.re.den*k.im.im.den)):Nat):Int)).low
theorem j0(k:K):(bI k).oN:=Zj (by have h1:=k.re.re.den_pos;have h2:=k.re.im.den_pos;have h3:=k.im.re.den_pos;have h4:=k.im.im.den_pos;have:=qi h1 (qi h2 (qi h3 h4));show((k.re.re.den*(k.re.im.den*(k.im.re.den*k.im.im.den)):Nat):Int)≠0;omega)
theorem MW(q:Rat){n:Nat}(hm:0<m)(e:n=q.den*m):Rat.divInt (q.num*(m:Nat)) ((n:Nat):Int)=q:=by have h:Rat.divInt (q.num*(m:Int)) ((q.den:Int)*(m:Int))=Rat.divInt q.num q.den:=Rat.divInt_mul_right o_;rw[e,nh,h];exact Zk q
theorem nX(k:K):(bI k).val=k:=by have h1:=k.re.re.den_pos;have h2:=k.re.im.den_pos;have h3:=k.im.re.den_pos;have h4:=k.im.im.den_pos;have hp:=qi h1 (qi h2 (qi h3 h4));unfold bI;rw[Zi (by show((k.re.re.den*(k.re.im.den*(k.im.re.den*k.im.im.den)):Nat):Int)≠0;omega)];unfold Fr.val;dsimp only;rw[MW k.re.re (qi h2 (qi h3 h4)) rfl,MW k.re.im (qi h1 (qi h3 h4)) (by simp only[lX]),MW k.im.re (qi h1 (qi h2 h4)) (by simp only[lX]),MW k.im.im (qi h1 (qi h2 h3)) (by simp only[cH,lX])]
theorem Eh{x:Fr}(h:x.oN):bI x.val=x:=Zg (j0 _) h (nX _)
theorem Ei{x:Fr}(hd:x.d≠0):bI x.val=x.low:=Zg (j0 _) (Zj hd) ((nX _).trans (Zi hd).symm)
theorem aIu{x y:K}(h:bI x=bI y):x=y:=by rw[<-nX x,<-nX y,h]
def pC(x y:Fr):Fr:=⟨x.a*y.d+y.a*x.d,x.b*y.d+y.b*x.d,x.c*y.d+y.c*x.d,x.e*y.d+y.e*x.d,x.d*y.d⟩
def dI(x y:Fr):Fr:=
 ⟨x.a*y.a+2*(x.b*y.b)+3*(x.c*y.c)+6*(x.e*y.e),x.a*y.b+x.b*y.a+3*(x.c*y.e)+3*(x.e*y.c),x.a*y.c+2*(x.b*y.e)+x.c*y.a+2*(x.e*y.b),x.a*y.e+x.b*y.c+x.c*y.b+x.e*y.a,x.d*y.d⟩
def yp(x:Fr):Fr:=⟨-x.a,-x.b,-x.c,-x.e,x.d⟩
theorem aIv{x y:Fr}(hx:x.d≠0)(hy:y.d≠0):(pC x y).val=x.val+y.val:=by
 apply bo.ext
 ·exact bo.ext (Su _ _ hx hy).symm (Su _ _ hx hy).symm
 ·exact bo.ext (Su _ _ hx hy).symm (Su _ _ hx hy).symm
theorem aIw(x:Fr):(yp x).val=-x.val:=by have h:∀ u:Int,Rat.divInt (-u) x.d=-Rat.divInt u x.d:=λu=>(Rat.neg_divInt u x.d).symm;exact bo.ext (bo.ext (h _) (h _)) (bo.ext (h _) (h _))
theorem Ej{p:Int}{x y:Fr}(hx:x.d≠0)(hy:y.d≠0){r:Rat}(h:r*((x.d:Rat)*(y.d:Rat))=(p:Rat)):Rat.divInt p (x.d*y.d)=r:=by
 have sD:(x.d:Rat)≠0:=by simpa using hx
 have MX:(y.d:Rat)≠0:=by simpa using hy
 rw[Ao,Ci,<-h,Ek,Rat.mul_assoc,GD _ (by
  intro e;rcases Rat.mul_eq_zero.1 e with e|e
  ·exact sD e
  ·exact MX e),Rat.mul_one]
theorem nY{u d:Int}(hd:d≠0):Rat.divInt u d*(d:Rat)=(u:Rat):=by
 have MY:(d:Rat)≠0:=by simpa using hd
 rw[Ao,Zd MY]
theorem Ji{x y:Fr}(hx:x.d≠0)(hy:y.d≠0):(dI x y).val=x.val*y.val:=by
 have a1:=nY (u:=x.a) hx;have b1:=nY (u:=x.b) hx;have c1:=nY (u:=x.c) hx;have e1:=nY (u:=x.e) hx;have a2:=nY (u:=y.a) hy;have b2:=nY (u:=y.b) hy;have c2:=nY (u:=y.c) hy;have e2:=nY (u:=y.e) hy;apply bo.ext
 ·apply bo.ext
  ·refine Ej hx hy ?_;show((Rat.divInt x.a x.d*Rat.divInt y.a y.d+2*(Rat.divInt x.b x.d*Rat.divInt y.b y.d))+(3*(Rat.divInt x.c x.d*Rat.divInt y.c y.d+2*(Rat.divInt x.e x.d*Rat.divInt y.e y.d))+2*(0*(Rat.divInt x.c x.d*Rat.divInt y.e y.d+Rat.divInt x.e x.d*Rat.divInt y.c y.d))))*((x.d:Rat)*(y.d:Rat))=_;unfold dI;simp only[MZ,Ci,<-a1,<-b1,<-c1,<-e1,<-a2,<-b2,<-c2,<-e2];have t2:((2:Int):Rat)=2:=rfl;have t3:((3:Int):Rat)=3:=rfl;have t6:((6:Int):Rat)=6:=rfl;rw[t2,t3,t6];grind
  ·refine Ej hx hy ?_;show((Rat.divInt x.a x.d*Rat.divInt y.b y.d+Rat.divInt x.b x.d*Rat.divInt y.a y.d)+(3*(Rat.divInt x.c x.d*Rat.divInt y.e y.d+Rat.divInt x.e x.d*Rat.divInt y.c y.d)+0*(Rat.divInt x.c x.d*Rat.divInt y.c y.d+2*(Rat.divInt x.e x.d*Rat.divInt y.e y.d))))*((x.d:Rat)*(y.d:Rat))=_;unfold dI;simp only[MZ,Ci,<-a1,<-b1,<-c1,<-e1,<-a2,<-b2,<-c2,<-e2];have t3:((3:Int):Rat)=3:=rfl;rw[t3];grind
 ·apply bo.ext
  ·refine Ej hx hy ?_;show((Rat.divInt x.a x.d*Rat.divInt y.c y.d+2*(Rat.divInt x.b x.d*Rat.divInt y.e y.d))+(Rat.divInt x.c x.d*Rat.divInt y.a y.d+2*(Rat.divInt x.e x.d*Rat.divInt y.b y.d)))*((x.d:Rat)*(y.d:Rat))=_;unfold dI;simp only[MZ,Ci,<-a1,<-b1,<-c1,<-e1,<-a2,<-b2,<-c2,<-e2];have t2:((2:Int):Rat)=2:=rfl;rw[t2];grind
  ·refine Ej hx hy ?_;show((Rat.divInt x.a x.d*Rat.divInt y.e y.d+Rat.divInt x.b x.d*Rat.divInt y.c y.d)+(Rat.divInt x.c x.d*Rat.divInt y.b y.d+Rat.divInt x.e x.d*Rat.divInt y.a y.d))*((x.d:Rat)*(y.d:Rat))=_;unfold dI;simp only[MZ,Ci,<-a1,<-b1,<-c1,<-e1,<-a2,<-b2,<-c2,<-e2]
   grind
theorem Sv(x y:K):bI (x+y)=(pC (bI x) (bI y)).low:=by have hx:=(j0 x).pos;have hy:=(j0 y).pos;have:=Ei (x:=pC (bI x) (bI y)) (Cm o_ o_);rw[aIv o_ o_,nX,nX]at this;exact this
theorem Sw(x y:K):bI (x*y)=(dI (bI x) (bI y)).low:=by have hx:=(j0 x).pos;have hy:=(j0 y).pos;have:=Ei (x:=dI (bI x) (bI y)) (Cm o_ o_);rw[Ji o_ o_,nX,nX]at this;exact this
theorem aIx{x:Fr}(h:x.oN):(yp x).oN:=⟨h.pos,by have:=h.one;unfold Fr.g at this ⊢;simpa[yp]using this⟩
theorem Sx(x:K):bI (-x)=yp (bI x):=by have:=Eh (aIx (j0 x));rw[aIw,nX]at this;exact this
def dE(n:Nat)(x:Fr):Prop:=x.a.natAbs<2^n/\x.b.natAbs<2^n/\x.c.natAbs<2^n/\x.e.natAbs<2^n/\x.d.natAbs<2^n
def Sz(n:Nat)(x:K):Prop:=dE n (bI x)
theorem dE.mono{n:Nat}(h:m<=n){x:Fr}(hx:dE m x):dE n x:=by have:=cX (show 0<2 by decide) h;obtain⟨h1,h2,h3,h4,h5⟩:=hx;exact⟨by omega,by omega,by omega,by omega,by omega⟩
theorem Sz.mono{n:Nat}(h:m<=n){x:K}(hx:Sz m x):Sz n x:=dE.mono h hx
theorem dE.low{n:Nat}{x:Fr}(h:dE n x)(hd:x.d≠0):dE n x.low:=by obtain⟨h1,h2,h3,h4,h5⟩:=h;exact⟨eP (Jh hd) h1,eP (Jh hd) h2,eP (Jh hd) h3,eP (Jh hd) h4,eP (Jh hd) h5⟩
theorem dY{n:Nat}{u v:Int}(hu:u.natAbs<2^m)(hv:v.natAbs<2^n):(u*v).natAbs<2^(m+n):=by
 rw[wC,dX];rcases nr v.natAbs with h|h
 ·rw[h,Nat.mul_zero];exact qi (cE d_) (cE d_)
 ·exact cy (Ab hu h) (iX _ (jm hv))
theorem dE.add{n:Nat}{x y:Fr}(hx:dE m x)(hy:dE n y):dE (m+n+1) (pC x y):=by
 obtain⟨x1,x2,x3,x4,x5⟩:=hx;obtain⟨y1,y2,y3,y4,y5⟩:=hy;have e:2^(m+n+1)=2^(m+n)*2:=dh ..;have e':2^(n+m)=2^(m+n):=by rw[lW]
 have key:∀{u v:Int},u.natAbs<2^m->v.natAbs<2^n->(u*y.d+v*x.d).natAbs<2^(m+n+1):=λ{u v} hu hv=>by have h1:=dY hu y5;have h2:=dY hv x5;rw[e']at h2;have:=Zl (u*y.d) (v*x.d);omega
 refine⟨key x1 y1,key x2 y2,key x3 y3,key x4 y4,?_⟩;have:=dY x5 y5;show(x.d*y.d).natAbs<_;omega
theorem dE.mul{n:Nat}{x y:Fr}(hx:dE m x)(hy:dE n y):dE (m+n+4) (dI x y):=by
 obtain⟨x1,x2,x3,x4,x5⟩:=hx;obtain⟨y1,y2,y3,y4,y5⟩:=hy;have e:2^(m+n+4)=2^(m+n)*16:=by rw[dX]
 have t:∀{u v:Int} (k:Nat),u.natAbs<2^m->v.natAbs<2^n->((k:Int)*(u*v)).natAbs<=k*2^(m+n):=λ{u v} k hu hv=>by have h1:=dY hu hv;rw[wC,An];exact iX _ (jm h1)
 have four:∀ p q r s:Int,(p+q+r+s).natAbs<=p.natAbs+q.natAbs+r.natAbs+s.natAbs:=λp q r s=>by omega
 have hp:0<2^(m+n):=cE d_;refine⟨?_,?_,?_,?_,?_⟩
 ·have:=four (x.a*y.a) (2*(x.b*y.b)) (3*(x.c*y.c)) (6*(x.e*y.e));have h1:=dY x1 y1;have h2:=t 2 x2 y2;have h3:=t 3 x3 y3;have h4:=t 6 x4 y4;show(x.a*y.a+2*(x.b*y.b)+3*(x.c*y.c)+6*(x.e*y.e)).natAbs<_;omega
 ·have:=four (x.a*y.b) (x.b*y.a) (3*(x.c*y.e)) (3*(x.e*y.c));have h1:=dY x1 y2;have h2:=dY x2 y1;have h3:=t 3 x3 y4;have h4:=t 3 x4 y3;show(x.a*y.b+x.b*y.a+3*(x.c*y.e)+3*(x.e*y.c)).natAbs<_;omega
 ·have:=four (x.a*y.c) (2*(x.b*y.e)) (x.c*y.a) (2*(x.e*y.b));have h1:=dY x1 y3;have h2:=t 2 x2 y4;have h3:=dY x3 y1;have h4:=t 2 x4 y2;show(x.a*y.c+2*(x.b*y.e)+x.c*y.a+2*(x.e*y.b)).natAbs<_;omega
 ·have:=four (x.a*y.e) (x.b*y.c) (x.c*y.b) (x.e*y.a);have h1:=dY x1 y4;have h2:=dY x2 y3;have h3:=dY x3 y2;have h4:=dY x4 y1;show(x.a*y.e+x.b*y.c+x.c*y.b+x.e*y.a).natAbs<_;omega
 ·have:=dY x5 y5;show(x.d*y.d).natAbs<_;omega
theorem Sz.add{n:Nat}{x y:K}(hx:Sz m x)(hy:Sz n y):Sz (m+n+1) (x+y):=by unfold Sz;rw[Sv];exact(dE.add hx hy).low (Cm (by have:=(j0 x).pos;omega) (by have:=(j0 y).pos;omega))
theorem Sz.mul{n:Nat}{x y:K}(hx:Sz m x)(hy:Sz n y):Sz (m+n+4) (x*y):=by unfold Sz;rw[Sw];exact(dE.mul hx hy).low (Cm (by have:=(j0 x).pos;omega) (by have:=(j0 y).pos;omega))
theorem Sz.neg{n:Nat}{x:K}(hx:Sz n x):Sz n (-x):=by unfold Sz at *;rw[Sx];obtain⟨h1,h2,h3,h4,h5⟩:=hx;exact⟨by simpa[yp]using h1,by simpa[yp]using h2,by simpa[yp]using h3,by simpa[yp]using h4,h5⟩
theorem Sz.sub{n:Nat}{x y:K}(hx:Sz m x)(hy:Sz n y):Sz (m+n+1) (x-y):=by rw[CR.sub_def];exact hx.add hy.neg
def sG(a b s:Int):Int:=if a=b\/b=0 then a else if a=0 then b else a*s
namespace bo
variable{F:Type}[OF F]{s:F}[hs:wB F s]
theorem Zm(x:bo F s):sg x=sG (aA x.re) (aA x.im) (aA (nm x)):=by
 unfold sG;rcases ways x with h|⟨h,h2⟩|⟨h,h2⟩
 ·subst h;have e:aA (0:F)=0:=(eZ (0:F)).2 rfl;rw[GA,Gy,Gz,e,aq (.inl rfl)]
 ·rw[rE h,h,Int.mul_one];by_cases h3:aA x.re=aA x.im\/aA x.im=0
  ·rw[aq h3]
  ·rw[al h3];by_cases h4:aA x.re=0
   ·exfalso;rw[(eZ _).1 h4,CR.zero_mul]at h2;have h5:aA (s*(x.im*x.im))=1:=by
     have h6:aA x.im≠0:=λe=>h3 (.inr e);rw[lD,lD,aIi];rcases iB x.im with e|e|e
     ·rw[e];rfl
     ·exact absurd e h6
     ·rw[e];rfl
    have h7:(0:F)<s*(x.im*x.im):=iC.2 h5;exact OF.lt_irrefl _ (OF.lt_trans h7 h2)
   ·rw[al h4]
 ·rw[sF h,h];by_cases h3:aA x.re=aA x.im\/aA x.im=0
  ·rw[aq h3];rcases h3 with h3|h3
   ·exact h3.symm
   ·exfalso;rw[(eZ _).1 h3,CR.zero_mul,CR.mul_zero]at h2;have h5:aA (x.re*x.re)≠-1:=by rw[lD];rcases iB x.re with e|e|e<;>rw[e]<;>decide
    exact h5 (Gv.1 h2)
  ·rw[al h3];by_cases h4:aA x.re=0
   ·rw[aq h4]
   ·rw[al h4];have h5:aA x.im≠0:=λe=>h3 (.inr e);have h6:aA x.re≠aA x.im:=λe=>h3 (.inl e);rcases iB x.re with e|e|e<;>rcases iB x.im with k|k|k<;>first|exact absurd e h4|exact absurd k h5|exact absurd (e.trans k.symm) h6|(rw[e,k];rfl)
end bo
theorem Zn(u:Int):aA (u:Rat)=u.sign:=by show(u:Rat).num.sign=u.sign;rw[Rat.num_intCast]
theorem Sy{u d:Int}(hd:0<d):aA (Rat.divInt u d)=u.sign:=by have h1:=nY (u:=u) (d:=d) o_;have h2:=b9 aA h1;rw[lD,Zn,Zn,yg hd,Int.mul_one]at h2;exact h2
def oO(a b:Int):Int:=sG a.sign b.sign (a*a-2*(b*b)).sign
theorem SA{a b d:Int}(hd:0<d):aA (⟨Rat.divInt a d,Rat.divInt b d⟩:K2)=oO a b:=by
 have h:=bo.Zm (⟨Rat.divInt a d,Rat.divInt b d⟩:K2);have a1:=nY (u:=a) (d:=d) o_;have b1:=nY (u:=b) (d:=d) o_;have hn:bo.nm (⟨Rat.divInt a d,Rat.divInt b d⟩:K2)=Rat.divInt (a*a-2*(b*b)) (d*d):=by refine(Ej (x:=⟨0,0,0,0,d⟩) (y:=⟨0,0,0,0,d⟩) (by show d≠0;omega) (by show d≠0;omega) ?_).symm;show(Rat.divInt a d*Rat.divInt a d-2*(Rat.divInt b d*Rat.divInt b d))*((d:Rat)*(d:Rat))=_;simp only[Zo,Ci,<-a1,<-b1];have t2:((2:Int):Rat)=2:=rfl;rw[t2];grind
 rw[hn]at h;show bo.sg _=_;rw[h];show sG (aA (Rat.divInt a d)) (aA (Rat.divInt b d)) _=_;rw[Sy hd,Sy hd,Sy (SB hd hd)];rfl
def M3(a b c e:Int):Int:=sG (oO a b) (oO c e) (oO ((a*a+2*(b*b))-(3*(c*c)+6*(e*e))) (2*(a*b)-6*(c*e)))
theorem aIy{x:Fr}(hd:0<x.d):aA x.val=M3 x.a x.b x.c x.e:=by
 have h:=bo.Zm x.val;have a1:=nY (u:=x.a) (d:=x.d) o_;have b1:=nY (u:=x.b) (d:=x.d) o_;have c1:=nY (u:=x.c) (d:=x.d) o_;have e1:=nY (u:=x.e) (d:=x.d) o_;have hn:bo.nm x.val=(⟨Rat.divInt ((x.a*x.a+2*(x.b*x.b))-(3*(x.c*x.c)+6*(x.e*x.e))) (x.d*x.d),Rat.divInt (2*(x.a*x.b)-6*(x.c*x.e)) (x.d*x.d)⟩:K2):=by
  apply bo.ext
  ·refine(Ej (x:=x) (y:=x) o_ o_ ?_).symm;show((Rat.divInt x.a x.d*Rat.divInt x.a x.d+2*(Rat.divInt x.b x.d*Rat.divInt x.b x.d))-(3*(Rat.divInt x.c x.d*Rat.divInt x.c x.d+2*(Rat.divInt x.e x.d*Rat.divInt x.e x.d))+2*(0*(Rat.divInt x.c x.d*Rat.divInt x.e x.d+Rat.divInt x.e x.d*Rat.divInt x.c x.d))))*((x.d:Rat)*(x.d:Rat))=_;simp only[Zo,MZ,Ci,<-a1,<-b1,<-c1,<-e1];have t2:((2:Int):Rat)=2:=rfl;have t3:((3:Int):Rat)=3:=rfl;have t6:((6:Int):Rat)=6:=rfl;rw[t2,t3,t6];grind
  ·refine(Ej (x:=x) (y:=x) o_ o_ ?_).symm;show((Rat.divInt x.a x.d*Rat.divInt x.b x.d+Rat.divInt x.b x.d*Rat.divInt x.a x.d)-(3*(Rat.divInt x.c x.d*Rat.divInt x.e x.d+Rat.divInt x.e x.d*Rat.divInt x.c x.d)+0*(Rat.divInt x.c x.d*Rat.divInt x.c x.d+2*(Rat.divInt x.e x.d*Rat.divInt x.e x.d))))*((x.d:Rat)*(x.d:Rat))=_;simp only[Zo,Ci,<-a1,<-b1,<-c1,<-e1];have t2:((2:Int):Rat)=2:=rfl;have t6:((6:Int):Rat)=6:=rfl;rw[t2,t6];grind
 rw[hn]at h;show bo.sg _=_;rw[h];have SC:=SB hd hd;show sG (aA (⟨Rat.divInt x.a x.d,Rat.divInt x.b x.d⟩:K2)) (aA (⟨Rat.divInt x.c x.d,Rat.divInt x.e x.d⟩:K2)) _=_;rw[SA hd,SA hd,SA SC];rfl
theorem Zp(k:K):aA k=M3 (bI k).a (bI k).b (bI k).c (bI k).e:=by have:=aIy (j0 k).pos;rw[nX]at this;exact this
end
structure RI where
 neg:Bool
 aP:List UInt8
structure RN where
 a:RI
 b:RI
 c:RI
 e:RI
 d:RI
structure RV where
 x:RN
 y:RN
 z:RN
structure RP where
 n:RV
 d:RN
def RI.cs(r:RI):ak:=[.bool r.neg,.string (BA r.aP)]
def RN.cs(r:RN):ak:=[.bool r.a.neg,.string (BA r.a.aP),.bool r.b.neg,.string (BA r.b.aP),.bool r.c.neg,.string (BA r.c.aP),.bool r.e.neg,.string (BA r.e.aP),.bool r.d.neg,.string (BA r.d.aP)]
def RV.cs(r:RV):ak:=r.x.cs++(r.y.cs++r.z.cs)
def RP.cs(r:RP):ak:=r.n.cs++r.d.cs
def RI.v(r:RI):Value:=.agg r.cs.toArray
def RN.v(r:RN):Value:=.agg r.cs.toArray
def RV.v(r:RV):Value:=.agg r.cs.toArray
def RP.v(r:RP):Value:=.agg r.cs.toArray
def RI.Sm(r:RI):Prop:=r.aP.length<=maxLen
def RN.Sm(r:RN):Prop:=r.a.Sm/\r.b.Sm/\r.c.Sm/\r.e.Sm/\r.d.Sm
def RV.Sm(r:RV):Prop:=r.x.Sm/\r.y.Sm/\r.z.Sm
def RP.Sm(r:RP):Prop:=r.n.Sm/\r.d.Sm
def RI.ls(r:RI):List Lit:=[.bool r.neg,.string r.aP]
def RN.ls(r:RN):List Lit:=r.a.ls++(r.b.ls++(r.c.ls++(r.e.ls++r.d.ls)))
def RV.ls(r:RV):List Lit:=r.x.ls++(r.y.ls++r.z.ls)
def RP.ls(r:RP):List Lit:=r.n.ls++r.d.ls
theorem RI.uU{r s:RI}:r.ls=s.ls↔r=s:=by cases r;cases s;simp[RI.ls]
theorem RN.uU{r s:RN}:r.ls=s.ls↔r=s:=by obtain⟨⟨_,_⟩,⟨_,_⟩,⟨_,_⟩,⟨_,_⟩,⟨_,_⟩⟩:=r;obtain⟨⟨_,_⟩,⟨_,_⟩,⟨_,_⟩,⟨_,_⟩,⟨_,_⟩⟩:=s;simp[RN.ls,RI.ls,and_assoc]
theorem RN.GG(r:RN):r.ls.length=10:=rfl
theorem RV.uU{r s:RV}:r.ls=s.ls↔r=s:=by
 obtain⟨x,y,z⟩:=r;obtain⟨x',y',z'⟩:=s;unfold RV.ls;constructor
 ·intro h;obtain⟨h1,h2⟩:=List.append_inj h (by rw[RN.GG,RN.GG]);obtain⟨h2,h3⟩:=List.append_inj h2 (by rw[RN.GG,RN.GG]);have a1:x=x':=RN.uU.1 h1;have a2:y=y':=RN.uU.1 h2;have a3:z=z':=RN.uU.1 h3;rw[a1,a2,a3]
 ·intro h;rw[h]
theorem RP.uU{r s:RP}:r.ls=s.ls↔r=s:=by
 obtain⟨x,y⟩:=r;obtain⟨x',y'⟩:=s;unfold RP.ls;constructor
 ·intro h;obtain⟨h1,h2⟩:=List.append_inj' h (by rw[RN.GG,RN.GG]);have a1:x=x':=RV.uU.1 h1;have a2:y=y':=RN.uU.1 h2;rw[a1,a2]
 ·intro h;rw[h]
theorem RN.mN(r:RN):∀ u∈r.cs,flat u=true:=λu hu=>by simp[RN.cs]at hu;rcases hu with h|h|h|h|h|h|h|h|h|h<;>subst h<;>rfl
theorem RV.mN(r:RV):∀ u∈r.cs,flat u=true:=λu hu=>by
 simp only[RV.cs,fm]at hu;rcases hu with h|h|h
 ·exact r.x.mN u h
 ·exact r.y.mN u h
 ·exact r.z.mN u h
def M4(P:j_)(t:TypeId):Array Field:=match P.underlying t with|some (.struct fs)=>fs|_=>#[]
theorem El(r:RI)(h:r.Sm)(d:Nat):prog.keyLits (d+2) 37 r.cs=some r.ls:=by
 obtain ⟨fs, h1, h2, h3⟩ : ∃ fs, prog.underlying 37 = some (.struct fs) ∧ fs.toList.map (fun g => (g.type, g.offset)) = [(4, 0), (9, 1)] ∧ fs.all (fun g => g.name != "_") = true := ⟨M4 prog 37, (by kernel_rfl), (by kernel_rfl), (by kernel_rfl)⟩;rw[MH h1 h2 h3 k_];have e1:prog.keyLits (d+1) 4 ((r.cs.drop 0).take (prog.cellsOf 4))=some [.bool r.neg]:=by
  have e:(r.cs.drop 0).take (prog.cellsOf 4)=[.bool r.neg]:=k_;rw[e];exact aH4 k_ _ d
 have e2:prog.keyLits (d+1) 9 ((r.cs.drop 1).take (prog.cellsOf 9))=some [.string r.aP]:=by have e:(r.cs.drop 1).take (prog.cellsOf 9)=[.string (BA r.aP)]:=k_;rw[e];exact aH5 k_ _ (by rw[nT];exact h) d
 simp only[Io,SD,e1,e2];simp[RI.ls]
theorem aIz(r:RN)(h:r.Sm)(d:Nat):prog.keyLits (d+3) 38 (r.a.cs++(r.b.cs++(r.c.cs++r.e.cs)))=some (r.a.ls++(r.b.ls++(r.c.ls++r.e.ls))):=by rw[aH3 (n:=4) (e:=37) k_ k_];obtain⟨h0,h1,h2,h3,_⟩:=h;have c:prog.cellsOf 37=2:=k_;have e0:=El r.a h0 d;have e1:=El r.b h1 d;have e2:=El r.c h2 d;have e3:=El r.e h3 d;rw[c];simp[Jj,RI.cs]at e0 e1 e2 e3 ⊢;simp[e0,e1,e2,e3]
theorem M5(r:RN)(h:r.Sm)(d:Nat):prog.keyLits (d+4) 40 r.cs=some r.ls:=by
 obtain ⟨fs, h1, h2, h3⟩ : ∃ fs, prog.underlying 40 = some (.struct fs) ∧ fs.toList.map (fun g => (g.type, g.offset)) = [(38, 0), (37, 8)] ∧ fs.all (fun g => g.name != "_") = true := ⟨M4 prog 40, (by kernel_rfl), (by kernel_rfl), (by kernel_rfl)⟩;rw[MH h1 h2 h3 k_];have e1:prog.keyLits (d+3) 38 ((r.cs.drop 0).take (prog.cellsOf 38))=some (r.a.ls++(r.b.ls++(r.c.ls++r.e.ls))):=by
  have e:(r.cs.drop 0).take (prog.cellsOf 38)=r.a.cs++(r.b.cs++(r.c.cs++r.e.cs)):=k_;rw[e];exact aIz r h d
 have e2:prog.keyLits (d+3) 37 ((r.cs.drop 8).take (prog.cellsOf 37))=some r.d.ls:=by have e:(r.cs.drop 8).take (prog.cellsOf 37)=r.d.cs:=k_;rw[e];exact El r.d h.2.2.2.2 (d+1)
 simp only[Io,SD,e1,e2];simp[RN.ls]
theorem SE(r:RV)(h:r.Sm)(d:Nat):prog.keyLits (d+5) 42 r.cs=some r.ls:=by
 obtain ⟨fs, h1, h2, h3⟩ : ∃ fs, prog.underlying 42 = some (.struct fs) ∧ fs.toList.map (fun g => (g.type, g.offset)) = [(40, 0), (40, 10), (40, 20)] ∧ fs.all (fun g => g.name != "_") = true := ⟨M4 prog 42, (by kernel_rfl), (by kernel_rfl), (by kernel_rfl)⟩;rw[MH h1 h2 h3 k_];have e:∀(k:Nat) (s:RN),(r.cs.drop k).take (prog.cellsOf 40)=s.cs->s.Sm->prog.keyLits (d+4) 40 ((r.cs.drop k).take (prog.cellsOf 40))=some s.ls:=λk s e hs=>by rw[e];exact M5 s hs d
 simp only[Io,SD,e 0 r.x k_ h.1,e 10 r.y k_ h.2.1,e 20 r.z k_ h.2.2];simp[RV.ls]
theorem Zq(r:RP)(h:r.Sm)(d:Nat):prog.keyLits (d+6) 66 r.cs=some r.ls:=by
 obtain ⟨fs, h1, h2, h3⟩ : ∃ fs, prog.underlying 66 = some (.struct fs) ∧ fs.toList.map (fun g => (g.type, g.offset)) = [(42, 0), (40, 30)] ∧ fs.all (fun g => g.name != "_") = true := ⟨M4 prog 66, (by kernel_rfl), (by kernel_rfl), (by kernel_rfl)⟩;rw[MH h1 h2 h3 k_];have e1:prog.keyLits (d+5) 42 ((r.cs.drop 0).take (prog.cellsOf 42))=some r.n.ls:=by
  have e:(r.cs.drop 0).take (prog.cellsOf 42)=r.n.cs:=k_;rw[e];exact SE r.n h.1 d
 have e2:prog.keyLits (d+5) 40 ((r.cs.drop 30).take (prog.cellsOf 40))=some r.d.ls:=by have e:(r.cs.drop 30).take (prog.cellsOf 40)=r.d.cs:=k_;rw[e];exact M5 r.d h.2 (d+1)
 simp only[Io,SD,e1,e2];simp[RP.ls]
section
variable{Bs:ae}{N:Nat}
theorem Ap{neg:Bool}(ho:Gp o=some (neg,37))(r s:RI)(hr:r.Sm)(hs:s.Sm){b:Bool}(hb:(if neg then b else !b)=true↔r=s):ct prog Bs o [r.v,s.v] [] (.bool b) []:=
 MG (m:=2) ho o_ k_ k_ k_ k_ (El r hr 0) (El s hs 0) rfl rfl (by rw[hb];exact RI.uU.symm)
theorem Zr{neg:Bool}(ho:Gp o=some (neg,40))(r s:RN)(hr:r.Sm)(hs:s.Sm){b:Bool}(hb:(if neg then b else !b)=true↔r=s):ct prog Bs o [r.v,s.v] [] (.bool b) []:=
 MG (m:=4) ho o_ k_ k_ k_ k_ (M5 r hr 0) (M5 s hs 0) rfl rfl (by rw[hb];exact RN.uU.symm)
theorem Em{neg:Bool}(ho:Gp o=some (neg,42))(r s:RV)(hr:r.Sm)(hs:s.Sm){b:Bool}(hb:(if neg then b else !b)=true↔r=s):ct prog Bs o [r.v,s.v] [] (.bool b) []:=
 MG (m:=5) ho o_ k_ k_ k_ k_ (SE r hr 0) (SE s hs 0) rfl rfl (by rw[hb];exact RV.uU.symm)
theorem SF{neg:Bool}(ho:Gp o=some (neg,66))(r s:RP)(hr:r.Sm)(hs:s.Sm){b:Bool}(hb:(if neg then b else !b)=true↔r=s):ct prog Bs o [r.v,s.v] [] (.bool b) []:=
 MG (m:=6) ho o_ k_ k_ k_ k_ (Zq r hr 0) (Zq s hs 0) rfl rfl (by rw[hb];exact RP.uU.symm)
end
def bj(z:Int):RI:=⟨decide (z<0),cz z.natAbs⟩
theorem Zs(z:Int):bC z=(bj z).v:=rfl
theorem wE{x:Int}(h:bj x=bj y):x=y:=by have h1:decide (x<0)=decide (y<0):=b9 RI.neg h;have h2:x.natAbs=y.natAbs:=aG4 (b9 RI.aP h);rw[pe]at h1;omega
def qp(f:Fr):RN:=⟨bj f.a,bj f.b,bj f.c,bj f.e,bj f.d⟩
def gP(f:Fr):Value:=(qp f).v
theorem aIA{f g:Fr}(h:qp f=qp g):f=g:=Fr.ext' (wE (b9 RN.a h)) (wE (b9 RN.b h)) (wE (b9 RN.c h)) (wE (b9 RN.e h)) (wE (b9 RN.d h))
def dM(x:K):RN:=qp (bI x)
def bZ(x:K):Value:=(dM x).v
theorem Jk{x y:K}(h:dM x=dM y):x=y:=aIu (aIA h)
abbrev az:Nat:=1099511627774
theorem sH{n:Nat}(h:z.natAbs<2^n)(hn:n<=az):(bj z).Sm:=by show(cz z.natAbs).length<=maxLen;rw[sE];have:=uR h;unfold az at hn;simp[maxLen];omega
theorem aIB{f:Fr}{n:Nat}(h:dE n f)(hn:n<=az):(qp f).Sm:=⟨sH h.1 hn,sH h.2.1 hn,sH h.2.2.1 hn,sH h.2.2.2.1 hn,sH h.2.2.2.2 hn⟩
theorem Cn{x:K}{n:Nat}(h:Sz n x)(hn:n<=az):(dM x).Sm:=aIB h hn
def ic(c:Nat->Int):ak:=[.bool (bj (c 0)).neg,.string (BA (bj (c 0)).aP),.bool (bj (c 1)).neg,.string (BA (bj (c 1)).aP),.bool (bj (c 2)).neg,.string (BA (bj (c 2)).aP),.bool (bj (c 3)).neg,.string (BA (bj (c 3)).aP)]
def oP(c:Nat->Int):Value:=.agg (ic c).toArray
def co(f:Fr):Nat->Int
 |0=>f.a
 |1=>f.b
 |2=>f.c
 |_=>f.e
def nw(c:Nat->Int)(d:Int):Fr:=⟨c 0,c 1,c 2,c 3,d⟩
theorem Co{g:Nat}{x:Int}{p:Nat}(h1:g<2^p)(h2:x.natAbs<2^q)(hp:p<=1099511627776)(hq:q<=1099511627776):aB prog 182 [bC g,bC x] (bC (Nat.gcd g x.natAbs:Nat)):=by have:=I2 (x:=(g:Int)) (y:=x) (by rw[An];exact h1) h2 hp hq;rw[An]at this;exact this
theorem aIC{g p:Nat}(h:g<2^p):Nat.gcd g m<2^p\/g=0:=by
 by_cases hg:g=0
 ·exact .inr hg
 ·exact .inl (eP (Zt m (sn hg)) h)
theorem sI{g p:Nat}(h:g<2^p)(h2:m<2^p):Nat.gcd g m<2^p:=by
 rcases aIC (m:=m) h with h3|h3
 ·exact h3
 ·rw[h3,SG];exact h2
theorem SH{c:Nat->Int}{d:Int}{n:Nat}(h:dE n (nw c d))(hn:n<=az):aB prog 130 [oP c,bC d] (bC ((nw c d).g:Nat)):=by
 obtain⟨h0,h1,h2,h3,h4⟩:=h;have nL:n<=1099511627776:=by unfold az at hn;omega
 have g1:=I2 h4 h0 nL nL;have s1:=sI h4 h0;have g2:=Co s1 h1 nL nL;have s2:=sI s1 h1;have g3:=Co s2 h2 nL nL;have s3:=sI s2 h2;have g4:=Co s3 h3 nL nL;exact aV func130 (λ_=>[g1.at 15,g2.at 15,g3.at 15,g4.at 15])
theorem SI{x:Int}{n:Nat}(hy:y≠0)(h1:x.natAbs<2^n)(h2:y.natAbs<2^n)(hn:n<=az):aB prog 222 [bC x,bC y] (bC (x.fdiv y)):=
 aV func222 (λ_=>[(R3 hy h1 h2 hn hn).at 11])
theorem Cp{c:Nat->Int}{d:Int}{n:Nat}(hd:d≠0)(h:dE n (nw c d))(hn:n<=az):aB prog 190 [oP c,bC d] (gP (nw c d).low):=by
 have hc:=SH h hn;have nL:n<=1099511627776:=by unfold az at hn;omega
 obtain⟨f,hf⟩:∃ f,f=nw c d:=⟨_,rfl⟩;have uB:f.d≠0:=by rw[hf];exact hd
 have pD:=Ss uB;have SJ:=MU f;have hg:f.g<2^n:=by
  have h5:f.d.natAbs<2^n:=by rw[hf];exact h.2.2.2.2
  exact eP (Nat.le_of_dvd o_ (Eg f)) h5
 have bE:f.s.natAbs<2^n:=by rw[SJ];exact hg
 have ov:∀ u:Int,f.g ∣ u.natAbs->u.natAbs<2^n->aB prog 222 [bC u,bC f.s] (bC (u/f.s)):=λu hu wF=>by have:=SI pD wF bE hn;rw[Int.fdiv_eq_ediv_of_dvd (Ck hu)]at this;exact this
 have o0:=ov f.a (MQ f) (by rw[hf];exact h.1);have o1:=ov f.b (MR f) (by rw[hf];exact h.2.1);have o2:=ov f.c (MS f) (by rw[hf];exact h.2.2.1);have o3:=ov f.e (MT f) (by rw[hf];exact h.2.2.2.1);have o4:=ov f.d (Eg f) (by rw[hf];exact h.2.2.2.2);have Aq:=kH (z:=1) d_;have aA:=qm d;rw[<-hf]at hc ⊢;have e0:f.a=c 0:=by rw[hf];rfl
 have e1:f.b=c 1:=by rw[hf];rfl
 have e2:f.c=c 2:=by rw[hf];rfl
 have e3:f.e=c 3:=by rw[hf];rfl
 have e4:f.d=d:=by rw[hf];rfl
 have one:(bj 1).Sm:=sH (n:=1) d_ d_;have sm:(bj f.s).Sm:=sH bE hn;by_cases En:d<0
 ·have hs:f.s=-(f.g:Int):=by unfold Fr.s;rw[e4,aq En]
  have aY:bj f.s≠bj 1:=λe=>by have:=wE e;omega
  have ng:=nu (f.g:Int);rw[<-hs]at ng;rw[e0]at o0;rw[e1]at o1;rw[e2]at o2;rw[e3]at o3;rw[e4]at o4;have di:f.low=⟨c 0/f.s,c 1/f.s,c 2/f.s,c 3/f.s,d/f.s⟩:=by unfold Fr.low;rw[e0,e1,e2,e3,e4]
  rw[di];have Ar:decide (d.sign<0)=true:=aD (by rw[D9 En];decide);generalize f.s=s at *;exact aV func190 (λ_=>[hc.at 9,aA.at 11,.rw 12 (.bool (decide (d.sign<0))) b_ (by rw[Ar]),ng.at 14,Aq.at 16,.step 17 (au f190 17) _ _ _ _ (Ap (neg:=true) k_ (bj s) (bj 1) sm one (b:=false) (by simp;exact aY)),o0.at 29,o1.at 29,o2.at 29,o3.at 29,o4.at 35])
 ·have hs:f.s=(f.g:Int):=by unfold Fr.s;rw[e4,al En]
  have Ar:decide (d.sign<0)=false:=aQ (by rw[yg o_];decide);by_cases sJ:f.g=1
  ·have di:f.low=f:=by unfold Fr.low;rw[hs,sJ];simp
   rw[di,hf];rw[sJ]at hc;exact aV func190 (λ_=>[hc.at 9,aA.at 11,.rw 12 (.bool (decide (d.sign<0))) a_ (by rw[Ar]),Aq.at 16,.step 17 (au f190 17) _ _ _ _ (Ap (neg:=true) k_ (bj 1) (bj 1) one one (b:=true) s_)])
  ·have aY:bj f.s≠bj 1:=λe=>by have:=wE e;omega
   rw[e0]at o0;rw[e1]at o1;rw[e2]at o2;rw[e3]at o3;rw[e4]at o4;have di:f.low=⟨c 0/f.s,c 1/f.s,c 2/f.s,c 3/f.s,d/f.s⟩:=by unfold Fr.low;rw[e0,e1,e2,e3,e4]
   rw[di];rw[<-hs]at hc;generalize f.s=s at *;exact aV func190 (λ_=>[hc.at 9,aA.at 11,.rw 12 (.bool (decide (d.sign<0))) a_ (by rw[Ar]),Aq.at 16,.step 17 (au f190 17) _ _ _ _ (Ap (neg:=true) k_ (bj s) (bj 1) sm one (b:=false) (by simp;exact aY)),o0.at 29,o1.at 29,o2.at 29,o3.at 29,o4.at 35])
theorem SK{f:Fr}{n:Nat}(hf:f.oN)(h:dE n f)(hn:n<=az):aB prog 84 [gP f] b_:=by have hc:=SH (c:=co f) (d:=f.d) h hn;have e:nw (co f) f.d=f:=rfl;rw[e,hf.one]at hc;have hp:=hf.pos;have hs:decide (f.d.sign>0)=true:=aD (by rw[yg hp];decide);have one:(bj 1).Sm:=sH (n:=1) d_ d_;exact aV func84 (λ_=>[(kY f.a).at 11,(kY f.b).at 11,(kY f.c).at 11,(kY f.e).at 11,(kY f.d).at 16,(qm f.d).at 20,.rw 21 (.bool (decide (f.d.sign>0))) b_ (by rw[hs]),hc.at 28,(kH (z:=1) d_).at 29,.step 30 (au f84 30) _ _ _ _ (Ap (neg:=true) k_ (bj 1) (bj 1) one one (b:=true) s_)])
theorem km{x:K}{n:Nat}(h:Sz n x)(hn:n<=az):aB prog 84 [bZ x] b_:=SK (j0 x) h hn
theorem SL(z:Int):bI (⟨⟨z,0⟩,⟨0,0⟩⟩:K)=⟨z,0,0,0,1⟩:=by
 have hl:Fr.oN ⟨z,0,0,0,1⟩:=⟨Int.zero_lt_one,by simp[Fr.g]⟩;have hv:Fr.val ⟨z,0,0,0,1⟩=⟨⟨z,0⟩,⟨0,0⟩⟩:=by
  unfold Fr.val;dsimp only;have e:∀ u:Int,Rat.divInt u 1=(u:Rat):=λu=>by rw[Ao,Ek];grind
  rw[e,e];rfl
 rw[<-hv];exact Eh hl
def kI(z:Int):K:=⟨⟨z,0⟩,⟨0,0⟩⟩
theorem Zu(z:Int):bZ (kI z)=gP ⟨z,0,0,0,1⟩:=by unfold bZ dM kI;rw[SL];rfl
theorem qs{n:Nat}(h:z.natAbs<2^n)(hn:0<n):Sz n (kI z):=by unfold Sz kI;rw[SL];have:2^1<=2^n:=cX d_ hn;exact⟨h,by simp;omega,by simp;omega,by simp;omega,by simp;omega⟩
theorem Cq:bj 0=⟨false,[]⟩:=by unfold bj;simp[B4]
theorem sK(h:z.natAbs<9223372036854775808):aB prog 60 [.int .i64 z] (bZ (kI z)):=by
 rw[Zu];have e:gP ⟨z,0,0,0,1⟩=(RN.mk (bj z) ⟨false,[]⟩ ⟨false,[]⟩ ⟨false,[]⟩ (bj 1)).v:=by unfold gP qp;rw[Cq]
 rw[e];exact aV func60 (λ_=>[(kH h).at 4,(kH (z:=1) d_).at 6])
theorem aID{c:Nat->Int}{d:Int}{n:Nat}(hd:d≠0)(h:dE n (nw c d))(hn:n<=az):aB prog 142 [oP c,bC d] (.tuple #[gP (nw c d).low,.int .i64 0]):=by
 have hl:=Cp hd h hn;have hs:(d.sign==0)=false:=by simp;exact hd
 exact aV func142 (λ_=>[(kY (c 0)).at 13,(kY (c 1)).at 13,(kY (c 2)).at 13,(kY (c 3)).at 13,(kY d).at 19,(qm d).at 24,.rw 25 (.bool (d.sign==0)) a_ (by rw[hs]),hl.at 29])
theorem aIE{p q:Int}{n:Nat}(hq:q≠0)(h1:p.natAbs<2^n)(h2:q.natAbs<2^n)(hn:n<=63):aB prog 93 [.int .i64 p,.int .i64 q] (.tuple #[gP (Fr.mk p 0 0 0 q).low,.int .i64 0]):=by
 have h63:2^n<=9223372036854775808:=c9 (cX d_ hn) d_;have hp:0<2^n:=cE d_;have hm:=aID (c:=λi=>match i with|0=>p|_=>0) (d:=q) (n:=n) hq ⟨h1,hp,hp,hp,h2⟩ (by unfold az;omega);have e:oP (λi=>match i with|0=>p|_=>0)=.agg #[.bool (bj p).neg,.string (BA (bj p).aP),.bool false,.string ⟨#[]⟩,.bool false,.string ⟨#[]⟩,.bool false,.string ⟨#[]⟩]:=by show Value.agg #[.bool (bj p).neg,.string (BA (bj p).aP),.bool (bj 0).neg,.string (BA (bj 0).aP),.bool (bj 0).neg,.string (BA (bj 0).aP),.bool (bj 0).neg,.string (BA (bj 0).aP)]=_;rw[Cq];rfl
 rw[e]at hm;exact aV func93 (λ_=>[(kH (z:=p) o_).at 7,(kH (z:=q) o_).at 10,hm.at 11])
theorem yq{x:K}{n:Nat}(h:Sz n x)(hn:n<=az):aB prog 212 [bZ x] (bZ (-x)):=by
 have hv:=km h hn;have e:bZ (-x)=gP (yp (bI x)):=by unfold bZ dM;rw[Sx];rfl
 rw[e];exact aV func212 (λ_=>[hv.at 5,(nu (bI x).a).at 16,(nu (bI x).b).at 16,(nu (bI x).c).at 16,(nu (bI x).e).at 16])
theorem tL{x y:K}{n:Nat}(hx:Sz m x)(hy:Sz n y)(cN:m+n<az):aB prog 140 [bZ x,bZ y] (bZ (x+y)):=by
 have v1:=km hx o_;have v2:=km hy o_;have qt:az<=1099511627776:=by decide
 have wD:=(j0 x).pos;have uT:=(j0 y).pos;have hl:=Cp (c:=co (pC (bI x) (bI y))) (d:=(pC (bI x) (bI y)).d) (n:=m+n+1) (Cm o_ o_) (dE.add hx hy) o_;have e:bZ (x+y)=gP (pC (bI x) (bI y)).low:=by unfold bZ dM;rw[Sv];rfl
 rw[e];obtain⟨x1,x2,x3,x4,x5⟩:=hx;obtain⟨y1,y2,y3,y4,y5⟩:=hy;have mu:∀{u v:Int} {p q:Nat},u.natAbs<2^p->v.natAbs<2^q->p+q<=az->aB prog 199 [bC u,bC v] (bC (u*v)):=λh1 h2 h3=>lZ h1 h2 o_ o_;have ad:∀{u v:Int},u.natAbs<2^m->v.natAbs<2^n->aB prog 186 [bC (u*(bI y).d),bC (v*(bI x).d)] (bC (u*(bI y).d+v*(bI x).d)):=λh1 h2=>
  yi (dY h1 y5) (dY h2 x5) o_ o_
 exact aV func140 (λ_=>[v1.at 8,v2.at 12,(mu x1 y5 o_).at 26,(mu y1 x5 o_).at 33,(ad x1 y1).at 34,(mu x2 y5 o_).at 26,(mu y2 x5 o_).at 33,(ad x2 y2).at 34,(mu x3 y5 o_).at 26,(mu y3 x5 o_).at 33,(ad x3 y3).at 34,(mu x4 y5 o_).at 26,(mu y4 x5 o_).at 33,(ad x4 y4).at 34,(mu x5 y5 o_).at 42,hl.at 43])
theorem As{x y:K}{n:Nat}(hx:Sz m x)(hy:Sz n y)(cN:m+n<az):aB prog 174 [bZ x,bZ y] (bZ (x-y)):=by rw[CR.sub_def];exact aV func174 (λ_=>[(yq hy o_).at 7,(tL hx hy.neg cN).at 8])
section
open CR OF
def l5(x:K):K:=⟨x.re,-x.im⟩
def k6(x:K):K:=⟨⟨x.re.re,-x.re.im⟩,⟨x.im.re,-x.im.im⟩⟩
def wG(f:Fr):Fr:=⟨f.a,f.b,-f.c,-f.e,f.d⟩
def wH(f:Fr):Fr:=⟨f.a,-f.b,f.c,-f.e,f.d⟩
theorem M6(u d:Int):Rat.divInt (-u) d=-Rat.divInt u d:=(Rat.neg_divInt u d).symm
theorem Zv(f:Fr):(wG f).val=l5 f.val:=bo.ext rfl (bo.ext (M6 _ _) (M6 _ _))
theorem SM(f:Fr):(wH f).val=k6 f.val:=bo.ext (bo.ext rfl (M6 _ _)) (bo.ext rfl (M6 _ _))
theorem aIF{f:Fr}(h:f.oN):(wG f).oN:=⟨h.pos,by have:=h.one;unfold Fr.g at this ⊢;simpa[wG]using this⟩
theorem aIG{f:Fr}(h:f.oN):(wH f).oN:=⟨h.pos,by have:=h.one;unfold Fr.g at this ⊢;simpa[wH]using this⟩
theorem Zw(x:K):bI (l5 x)=wG (bI x):=by have:=Eh (aIF (j0 x));rw[Zv,nX]at this;exact this
theorem Zx(x:K):bI (k6 x)=wH (bI x):=by have:=Eh (aIG (j0 x));rw[SM,nX]at this;exact this
theorem Sz.l5{n:Nat}{x:K}(h:Sz n x):Sz n (l5 x):=by unfold Sz at *;rw[Zw];obtain⟨h1,h2,h3,h4,h5⟩:=h;exact⟨h1,h2,by simpa[wG]using h3,by simpa[wG]using h4,h5⟩
theorem Sz.k6{n:Nat}{x:K}(h:Sz n x):Sz n (k6 x):=by unfold Sz at *;rw[Zx];obtain⟨h1,h2,h3,h4,h5⟩:=h;exact⟨h1,by simpa[wH]using h2,h3,by simpa[wH]using h4,h5⟩
def two(y:K):K:=y*l5 y
def qw(y:K):K:=two y*k6 (two y)
theorem aIH(y:K):two y=⟨bo.nm y,0⟩:=by
 unfold two l5;apply bo.ext
 ·show y.re*y.re+yo*(y.im*-y.im)=y.re*y.re-yo*(y.im*y.im);exact mL y.re y.im yo (λa b s=>a*a+s*(b*-b)) (λa b s=>a*a-s*(b*b)) d_
 ·show y.re*-y.im+y.im*y.re=0;exact kZ y.re y.im (λa b=>a*-b+b*a) (λ_ _=>0) d_
theorem M7(y:K):qw y=⟨⟨bo.nm (bo.nm y),0⟩,⟨0,0⟩⟩:=by
 unfold qw;rw[aIH];obtain⟨p,q⟩:=bo.nm y;have e:k6 (⟨⟨p,q⟩,0⟩:K)=⟨⟨p,-q⟩,0⟩:=by unfold k6;show(⟨⟨p,-q⟩,⟨0,-0⟩⟩:K)=_;rw[CR.neg_zero];rfl
 rw[e];apply bo.ext
 ·show(⟨p,q⟩:K2)*⟨p,-q⟩+yo*(0*0)=_;rw[CR.zero_mul,CR.mul_zero,CR.add_zero];apply bo.ext
  ·show p*p+2*(q*-q)=p*p-2*(q*q)
   grind
  ·show p*-q+q*p=0
   grind
 ·show(⟨p,q⟩:K2)*0+0*⟨p,-q⟩=0;rw[CR.mul_zero,CR.zero_mul,CR.add_zero]
theorem SN{y:K}(h:y≠0):bo.nm (bo.nm y)≠0:=λe=>h (bo.MO (bo.MO e))
theorem Zy(q:Rat):bI (⟨⟨q,0⟩,⟨0,0⟩⟩:K)=⟨q.num,0,0,0,q.den⟩:=by
 have hl:Fr.oN ⟨q.num,0,0,0,q.den⟩:=⟨by show(0:Int)<(q.den:Int);have:=q.den_pos;omega,by have:=q.reduced;unfold Nat.Coprime at this;simp[Fr.g];rw[Gl];exact this⟩
 have hv:Fr.val ⟨q.num,0,0,0,q.den⟩=⟨⟨q,0⟩,⟨0,0⟩⟩:=by
  unfold Fr.val;have e:∀ d:Int,Rat.divInt 0 d=0:=λd=>by simp
  dsimp only;rw[e,Zk]
 rw[<-hv];exact Eh hl
def nA(y:K):Fr:=⟨(bI (qw y)).d,0,0,0,(bI (qw y)).a⟩
theorem M8{y:K}(h:y≠0):(nA y).d≠0:=by unfold nA;dsimp only;rw[M7,Zy];exact λe=>SN h (Rat.num_eq_zero.1 e)
theorem aII{y:K}(h:y≠0):qw y*(nA y).val=1:=by
 have hq:=SN h;have e1:(nA y).val=⟨⟨(bo.nm (bo.nm y))⁻¹,0⟩,⟨0,0⟩⟩:=by
  unfold nA Fr.val;rw[M7,Zy];have e:∀ d:Int,Rat.divInt 0 d=0:=λd=>by simp
  dsimp only;rw[e,Ao];generalize bo.nm (bo.nm y)=q at *;have h2:((q.den:Int):Rat)/(q.num:Rat)=q⁻¹:=by
   have h3:(q.num:Rat)≠0:=by simpa using hq
   have h4:((q.den:Int):Rat)*q=q.num:=by
    have h5:(q.num:Rat)/((q.den:Int):Rat)=q:=by rw[<-Ao];exact Zk q
    have h6:((q.den:Int):Rat)≠0:=by have:=q.den_nz;simpa using this
    have h7:=Zd (a:=(q.num:Rat)) h6;rw[h5,Rat.mul_comm]at h7;exact h7
   have h8:=GD q hq;have h9:=GD (q.num:Rat) h3;rw[Ek]
   grind
  rw[h2]
 rw[e1,M7];generalize bo.nm (bo.nm y)=q at *;have h8:=GD q hq;apply bo.ext
 ·apply bo.ext
  ·show(q*q⁻¹+2*(0*0))+(3*(0*0+2*(0*0))+2*(0*(0*0+0*0)))=1
   grind
  ·show(q*0+0*q⁻¹)+(3*(0*0+0*0)+0*(0*0+2*(0*0)))=0
   grind
 ·apply bo.ext
  ·show(q*0+2*(0*0))+(0*q⁻¹+2*(0*0))=0
   grind
  ·show(q*0+0*0)+(0*0+0*q⁻¹)=0
   grind
theorem Zz{x y:K}(h:y≠0):(x*l5 y)*(k6 (two y)*(nA y).val)=x*y⁻¹:=by
 have h1:=aII h;have h2:=OF.pA y h;have e1:y*(l5 y*(k6 (two y)*(nA y).val))=1:=by rw[<-h1];unfold qw two;exact Gu y (l5 y) (k6 (y*l5 y)) (nA y).val (λy c b i=>y*(c*(b*i))) (λy c b i=>y*c*b*i) d_
 have e2:l5 y*(k6 (two y)*(nA y).val)=y⁻¹:=by have h3:=b9 (λt=>y⁻¹*t) e1;rw[CR.mul_one,<-CR.mul_assoc,CR.mul_comm y⁻¹ y,h2,CR.one_mul]at h3;exact h3
 rw[<-e2,CR.mul_assoc]
theorem Sz.inv{n:Nat}{y:K}(h:y≠0)(hy:Sz n y):Sz (4*n+12) (nA y).val:=by have h1:Sz (n+n+4) (two y):=hy.mul hy.l5;have h2:Sz (n+n+4+(n+n+4)+4) (qw y):=h1.mul h1.k6;have h3:Sz (4*n+12) (qw y):=h2.mono o_;unfold Sz;rw[Ei (M8 h)];obtain⟨a1,a2,a3,a4,a5⟩:=h3;have hp:0<2^(4*n+12):=cE d_;exact dE.low ⟨a5,hp,hp,hp,a1⟩ (M8 h)
theorem Sz.div{n:Nat}{x y:K}(h:y≠0)(hx:Sz m x)(hy:Sz n y):Sz (m+7*n+28) (x*y⁻¹):=by rw[<-Zz h];have h1:Sz (n+n+4) (two y):=hy.mul hy.l5;exact((hx.mul hy.l5).mul (h1.k6.mul (Sz.inv h hy))).mono o_
end
def sq(n:Nat):Int:=match n with|0=>1|1=>2|2=>3|_=>6
def wI(n:Nat)(a b c:Nat->Int):Nat->Int:=λk=>if Nat.beq k ((n/4) ^^^ (n%4))then c k+sq ((n/4)&&& (n%4))*(a (n/4)*b (n%4))else c k
def jo(a b:Nat->Int):Nat->Nat->Int
 |0=>λ_=>0
 |n+1=>wI n a b (jo a b n)
def m7(n:Nat):Nat:=4+9*(n/4)
def nx(n:Nat):Nat:=m7 n+1+2*(n%4)
def ptr(k:Nat):Value:=.pointer (some ⟨k,0,some 7⟩)
section
variable{Bs:ae}{a b:Nat->Int}
def SO(n:Nat)(b:Nat->Int):aL:=[(18,oP b),(19,vI (n%4)),(6,vI (n/4)),(7,ptr (m7 n)),(5,ptr 3)]
def GH(n:Nat)(a c:Nat->Int):aC:=[(3,.aH (ic c) 38),(m7 n,.aH (bj (a (n/4))).cs 37)]
theorem M9{n:Nat}{c:Nat->Int}(h:a (n/4)=0\/b (n%4)=0):wI n a b c=c:=by
 funext k
 unfold wI;split
 ·rcases h with h|h<;>rw[h]<;>simp
 ·rfl
theorem Jl:((BA (cz z.natAbs)).toList==(ByteArray.mk #[]).toList)=decide (z=0):=by rw[qj,pe];omega
theorem aIJ(n:Nat)(hn:n<16){c:Nat->Int}{p:Nat}(ha:∀ i,(a i).natAbs<2^p)(hb:∀ i,(b i).natAbs<2^q)(hc:∀ i,(c i).natAbs<2^r)(Na:p+q+3<=az)(hr:r<=az):
  ag prog Bs 62 (.block 3 (af f189 3)) (SO n b) (GH n a c) (nx n) ⟨.normal,[],GH n a (wI n a b c),nx n+2⟩:=by
 have qt:az<=1099511627776:=by decide
 have qx:∀ m,(sq m).natAbs<2^3:=λm=>by unfold sq;split<;>decide
 have m1:=lZ (ha (n/4)) (hb (n%4)) o_ o_;have m2:=lZ (qx ((n/4)&&& (n%4))) (dY (ha (n/4)) (hb (n%4))) o_ o_;have ad:=yi (hc ((n/4) ^^^ (n%4))) (dY (qx ((n/4)&&& (n%4))) (dY (ha (n/4)) (hb (n%4)))) o_ o_;have so:=kH (z:=sq ((n/4)&&& (n%4))) (lA (qx _) d_);by_cases h1:a (n/4)=0
 ·rw[M9 (.inl h1)];have e:((BA (cz (a (n/4)).natAbs)).toList==(ByteArray.mk #[]).toList)=true:=by rw[Jl];exact aD h1
  rcases n with _|_|_|_|_|_|_|_|_|_|_|_|_|_|_|_|n
  all_goals first|omega|exact ay [.rw 25 _ b_ (b9 Value.bool e)]
 ·by_cases h2:b (n%4)=0
  ·rw[M9 (.inr h2)];have e:((BA (cz (a (n/4)).natAbs)).toList==(ByteArray.mk #[]).toList)=false:=by rw[Jl];exact aQ h1
   have e':((BA (cz (b (n%4)).natAbs)).toList==(ByteArray.mk #[]).toList)=true:=by rw[Jl];exact aD h2
   rcases n with _|_|_|_|_|_|_|_|_|_|_|_|_|_|_|_|n
   all_goals first|omega|exact ay [.rw 25 _ a_ (b9 Value.bool e),.rw 29 _ b_ (b9 Value.bool e')]
  ·have e:((BA (cz (a (n/4)).natAbs)).toList==(ByteArray.mk #[]).toList)=false:=by rw[Jl];exact aQ h1
   have e':((BA (cz (b (n%4)).natAbs)).toList==(ByteArray.mk #[]).toList)=false:=by rw[Jl];exact aQ h2
   rcases n with _|_|_|_|_|_|_|_|_|_|_|_|_|_|_|_|n
   all_goals first|omega|exact ay [.rw 25 _ a_ (b9 Value.bool e),.rw 29 _ a_ (b9 Value.bool e'),so.at 37,m1.at 49,m2.at 50,ad.at 51]
theorem SP{p q:Nat}(ha:∀ i,(a i).natAbs<2^p)(hb:∀ i,(b i).natAbs<2^q):∀ n,n<=16->∀ k,(jo a b n k).natAbs<=n*2^(p+q+3)
 |0,_,k=>by show(0:Int).natAbs<=_;simp
 |n+1,hn,k=>by
  have ih:=SP ha hb n o_ k;show(wI n a b (jo a b n) k).natAbs<=_;unfold wI;rw[e8,ph];split
  ·have qx:∀ m,(sq m).natAbs<2^3:=λm=>by unfold sq;split<;>decide
   have h1:=dY (qx ((n/4)&&& (n%4))) (dY (ha (n/4)) (hb (n%4)));rw[show 3+(p+q)=p+q+3 by omega]at h1;have:=Zl (jo a b n k) (sq ((n/4)&&& (n%4))*(a (n/4)*b (n%4)));exact c9 this (Jm ih (jm h1))
  ·exact c9 ih (IG _ _)
end
theorem Jn(f g:Fr):nw (jo (co f) (co g) 16) (f.d*g.d)=dI f g:=by
 apply Fr.ext'
 ·show jo (co f) (co g) 16 0=_;simp[jo,wI,sq,co,dI]
 ·show jo (co f) (co g) 16 1=_;simp[jo,wI,sq,co,dI]
 ·show jo (co f) (co g) 16 2=_;simp[jo,wI,sq,co,dI]
 ·show jo (co f) (co g) 16 3=_;simp[jo,wI,sq,co,dI]
 ·rfl
theorem GI{f:Fr}{n:Nat}(h:dE n f):∀ i,(co f i).natAbs<2^n
 |0=>h.1
 |1=>h.2.1
 |2=>h.2.2.1
 |_+3=>h.2.2.2.1
theorem ZA:ic (λ_=>0)=[.bool false,.string ⟨#[]⟩,.bool false,.string ⟨#[]⟩,.bool false,.string ⟨#[]⟩,.bool false,.string ⟨#[]⟩]:=by unfold ic;rw[Cq];rfl
theorem aIK{f g:Fr}{n:Nat}(hf:dE m f)(hg:dE n g)(uB:f.d≠0)(nj:g.d≠0)(cN:m+n+8<=az):aB prog 189 [gP f,gP g] (gP (dI f g).low):=by
 have qt:az<=1099511627776:=by decide
 have ca:=GI hf;have cb:=GI hg;have hl:=Cp (c:=jo (co f) (co g) 16) (d:=f.d*g.d) (n:=m+n+4) (Cm uB nj) (by rw[Jn];exact hf.mul hg) o_;rw[Jn]at hl;have md:=lZ hf.2.2.2.2 hg.2.2.2.2 o_ o_;have hs:∀ i,i<=16->∀ k,(jo (co f) (co g) i k).natAbs<2^(m+n+8):=λi hi k=>by
  have h1:=SP ca cb i hi k;have h2:i*2^(m+n+3)<=16*2^(m+n+3):=eR _ hi;have h3:2^(m+n+8)=32*2^(m+n+3):=by rw[show m+n+8=5+(m+n+3)by omega,dX]
  have h4:0<2^(m+n+3):=cE d_;omega
 have go:∀(w:h_) (i:Nat),i<16->ag prog (ae.at w) 62 (.block 3 (af f189 3)) (SO i (co g)) (GH i (co f) (jo (co f) (co g) i)) (nx i) ⟨.normal,[],GH i (co f) (jo (co f) (co g) (i+1)),nx i+2⟩:=λw i hi=>
  aIJ i hi ca cb (hs i o_) o_ o_
 have SQ:∀(w:h_),ag prog (ae.at w) 62 (.block 3 (af f189 3)) (SO 0 (co g)) [(3,.aH [.bool false,.string ⟨#[]⟩,.bool false,.string ⟨#[]⟩,.bool false,.string ⟨#[]⟩,.bool false,.string ⟨#[]⟩] 38),(m7 0,.aH (bj (co f 0)).cs 37)] (nx 0)
   ⟨.normal,[],GH 0 (co f) (jo (co f) (co g) 1),nx 0+2⟩:=λw=>by
  have h:=go w 0 o_;have e:GH 0 (co f) (jo (co f) (co g) 0)=[(3,.aH [.bool false,.string ⟨#[]⟩,.bool false,.string ⟨#[]⟩,.bool false,.string ⟨#[]⟩,.bool false,.string ⟨#[]⟩] 38),(m7 0,.aH (bj (co f 0)).cs 37)]:=by show[(3,Obj.aH (ic (λ_=>0)) 38),(m7 0,.aH (bj (co f 0)).cs 37)]=_;rw[ZA]
  rw[e]at h;exact h
 generalize jo (co f) (co g)=c at *;exact eX mixed func189 200 (λw=>[.code 3 _ _ _ _ _ (SQ w),.code 3 _ _ _ _ _ (go w 1 o_),.code 3 _ _ _ _ _ (go w 2 o_),.code 3 _ _ _ _ _ (go w 3 o_),.code 3 _ _ _ _ _ (go w 4 o_),.code 3 _ _ _ _ _ (go w 5 o_),.code 3 _ _ _ _ _ (go w 6 o_),.code 3 _ _ _ _ _ (go w 7 o_),.code 3 _ _ _ _ _ (go w 8 o_),.code 3 _ _ _ _ _ (go w 9 o_),.code 3 _ _ _ _ _ (go w 10 o_),.code 3 _ _ _ _ _ (go w 11 o_),.code 3 _ _ _ _ _ (go w 12 o_),.code 3 _ _ _ _ _ (go w 13 o_),.code 3 _ _ _ _ _ (go w 14 o_),.code 3 _ _ _ _ _ (go w 15 o_),md.at 60,hl.at 61]) (λ_=>k_) k_ k_
theorem GJ{x y:K}{n:Nat}(hx:Sz m x)(hy:Sz n y)(cN:m+n+8<=az):aB prog 189 [bZ x,bZ y] (bZ (x*y)):=by
 have e:bZ (x*y)=gP (dI (bI x) (bI y)).low:=by unfold bZ dM;rw[Sw];rfl
 rw[e];exact aIK hx hy (by have:=(j0 x).pos;omega) (by have:=(j0 y).pos;omega) cN
theorem nZ{x y:K}{n:Nat}(hx:Sz m x)(hy:Sz n y)(cN:m+n+8<=az):aB prog 143 [bZ x,bZ y] (bZ (x*y)):=
 aV func143 (λ_=>[(km hx o_).at 6,(km hy o_).at 10,(GJ hx hy cN).at 16])
theorem aIL{x:K}:aB prog 188 [bZ x,vI 2] (bZ (l5 x)):=by
 have e:bZ (l5 x)=gP (wG (bI x)):=by unfold bZ dM;rw[Zw];rfl
 rw[e];exact aV func188 (λ_=>[(nu (bI x).c).at 18,(nu (bI x).e).at 18])
theorem aIM{x:K}:aB prog 188 [bZ x,vI 1] (bZ (k6 x)):=by
 have e:bZ (k6 x)=gP (wH (bI x)):=by unfold bZ dM;rw[Zx];rfl
 rw[e];exact aV func188 (λ_=>[(nu (bI x).b).at 18,(nu (bI x).e).at 18])
theorem aIN:kI 0=0:=rfl
theorem GK{x y:K}{n:Nat}(h:y≠0)(hx:Sz m x)(hy:Sz n y)(cN:m+7*n+40<=az):aB prog 135 [bZ x,bZ y] (.tuple #[bZ (x*y⁻¹),.int .i64 0]):=by
 have h1:Sz (n+n+4) (two y):=hy.mul hy.l5;have h2:Sz (n+n+4+(n+n+4)+4) (qw y):=h1.mul h1.k6;have h3:=Sz.inv h hy;have d1:=GJ hy hy.l5 o_;have d2:=GJ h1 h1.k6 o_;have d3:=GJ hx hy.l5 o_;have d4:=GJ h1.k6 h3 o_;have d5:=GJ (hx.mul hy.l5) (h1.k6.mul h3) o_;rw[Zz h]at d5;have hi:=Cp (c:=co (nA y)) (d:=(nA y).d) (n:=n+n+4+(n+n+4)+4) (M8 h) (by obtain⟨a1,a2,a3,a4,a5⟩:=h2;have hp:0<2^(n+n+4+(n+n+4)+4):=cE d_;exact⟨a5,hp,hp,hp,a1⟩) o_
 have e:nw (co (nA y)) (nA y).d=nA y:=rfl;have e2:gP (nA y).low=bZ (nA y).val:=by unfold bZ dM;rw[Ei (M8 h)];rfl
 rw[e,e2]at hi;have e3:oP (co (nA y))=.agg #[.bool (bj (bI (qw y)).d).neg,.string (BA (bj (bI (qw y)).d).aP),.bool false,.string ⟨#[]⟩,.bool false,.string ⟨#[]⟩,.bool false,.string ⟨#[]⟩]:=by show Value.agg #[.bool (bj (bI (qw y)).d).neg,.string (BA (bj (bI (qw y)).d).aP),.bool (bj 0).neg,.string (BA (bj 0).aP),.bool (bj 0).neg,.string (BA (bj 0).aP),.bool (bj 0).neg,.string (BA (bj 0).aP)]=_;rw[Cq];rfl
 rw[e3]at hi;have e4:(nA y).d=(bI (qw y)).a:=rfl;rw[e4]at hi;have z:=sK (z:=0) d_;have zs:Sz 1 (kI 0):=qs d_ o_;have ne:dM y≠dM (kI 0):=λe=>h (by rw[Jk e];rfl);generalize (nA y).val=v at *;exact aV func135 (λ_=>[(km hx o_).at 13,(km hy o_).at 17,z.at 23,.step 24 (au f135 24) _ _ _ _ (Zr (neg:=true) k_ (dM y) (dM (kI 0)) (Cn hy o_) (Cn zs d_) (b:=false) (by simp;exact ne)),(aIL (x:=y)).at 27,d1.at 30,(aIM (x:=two y)).at 32,d2.at 35,hi.at 42,d3.at 45,d4.at 48,d5.at 49])
theorem aIO{x:K}(hx:Sz m x)(hm:m<=az):aB prog 135 [bZ x,bZ 0] (.tuple #[.agg #[.bool false,.string ⟨#[]⟩,.bool false,.string ⟨#[]⟩,.bool false,.string ⟨#[]⟩,.bool false,.string ⟨#[]⟩,.bool false,.string ⟨#[]⟩],.int .i64 10]):=by have zs:Sz 1 (kI 0):=qs d_ o_;exact aV func135 (λ_=>[(km hx hm).at 13,(km (x:=0) zs d_).at 17,(sK (z:=0) d_).at 23,.step 24 (au f135 24) _ _ _ _ (Zr (neg:=true) k_ (dM 0) (dM (kI 0)) (Cn zs d_) (Cn zs d_) (b:=true) (by simp;rfl))])
theorem SR{a b s:Int}(ha:a.natAbs<=1)(hs:s.natAbs<=1):aB prog 184 [.int .i64 a,.int .i64 b,.int .i64 s] (.int .i64 (sG a b s)):=by
 have hw:IntKind.i64.wrap (a*s)=a*s:=by
  have h1:a=-1\/a=0\/a=1:=by omega
  rcases h1 with h1|h1|h1<;>rw[h1,dO]<;>omega
 unfold sG;by_cases h1:a=b
 ·rw[aq (.inl h1)];exact aV func184 (λ_=>[.rw 10 (.bool (a==b)) b_ (by rw[h1];simp)])
 ·by_cases h2:b=0
  ·rw[aq (.inr h2)];exact aV func184 (λ_=>[.rw 10 (.bool (a==b)) a_ (by congr 1;simpa using h1),.rw 13 (.bool (b==0)) b_ (by rw[h2];rfl)])
  ·rw[al (λh=>h.elim h1 h2)];by_cases h3:a=0
   ·rw[aq h3];exact aV func184 (λ_=>[.rw 10 (.bool (a==b)) a_ (by congr 1;simpa using h1),.rw 13 (.bool (b==0)) a_ (by congr 1;simpa using h2),.rw 18 (.bool (a==0)) b_ (by rw[h3];rfl)])
   ·rw[al h3];exact aV func184 (λ_=>[.rw 10 (.bool (a==b)) a_ (by congr 1;simpa using h1),.rw 13 (.bool (b==0)) a_ (by congr 1;simpa using h2),.rw 18 (.bool (a==0)) a_ (by congr 1;simpa using h3),.wr 22 .i64 (a*s) (a*s) hw])
theorem Eo{k:Int}{x:Int}{p:Nat}(hk:k.natAbs<2^3)(h1:x.natAbs<2^p)(h2:y.natAbs<2^q)(Na:p+q+3<=az):aB prog 187 [.int .i64 k,bC x,bC y] (bC (k*(x*y))):=by
 have qt:az<=1099511627776:=by decide
 exact aV func187 (λ_=>[(kH (z:=k) (lA hk d_)).at 8,(lZ h1 h2 o_ o_).at 11,(lZ hk (dY h1 h2) o_ o_).at 12])
theorem GL{k x:Int}{p:Nat}(hk:k.natAbs<2^3)(h1:x.natAbs<2^p)(h2:y.natAbs<2^q):(k*(x*y)).natAbs<2^(p+q+3):=by have:=dY hk (dY h1 h2);rwa[show 3+(p+q)=p+q+3 by omega]at this
theorem GM{x:Int}{p:Nat}(h1:x.natAbs<2^p)(h2:y.natAbs<2^p):(x+y).natAbs<2^(p+1):=by have:=Zl x y;rw[dh];omega
theorem Nb{x:Int}{p:Nat}(h1:x.natAbs<2^p)(h2:y.natAbs<2^p):(x-y).natAbs<2^(p+1):=by have:=Int.natAbs_sub_le x y;rw[dh];omega
theorem Cr(z:Int):z.sign.natAbs<=1:=by
 rcases MP z 0 with h|h|h
 ·rw[D9 h];decide
 ·rw[h];decide
 ·rw[yg h];decide
theorem SS{x:Int}{p:Nat}(h1:x.natAbs<2^p)(h2:y.natAbs<2^q)(hp:p+p+3<=az)(hq:q+q+3<=az):aB prog 183 [bC x,bC y] (.int .i64 (oO x y)):=by
 have qt:az<=1099511627776:=by decide
 exact aV func183 (λ_=>[(qm x).at 6,(qm y).at 8,(lZ h1 h1 o_ o_).at 11,(Eo (k:=2) d_ h2 h2 o_).at 14,(RU (dY h1 h1) (GL (k:=2) d_ h2 h2) o_ o_).at 15,(SR (b:=y.sign) (s:=(x*x-2*(y*y)).sign) (Cr x) (Cr _)).at 16])
theorem Nd(x y:Int):(oO x y).natAbs<=1:=by
 unfold oO sG;have h1:=Cr x;have h2:=Cr y;have h3:=Cr (x*x-2*(y*y));split
 ·exact h1
 ·split
  ·exact h2
  ·rw[wC];exact c9 (BS h1 h3) d_
theorem mO{x:K}{n:Nat}(hx:Sz n x)(hn:4*n+20<=az):aB prog 133 [bZ x] (.int .i64 (OF.aA x)):=by
 have qt:az<=1099511627776:=by decide
 have hv:=km hx o_;rw[Zp];obtain⟨x1,x2,x3,x4,x5⟩:=hx;unfold bZ dM at *;generalize bI x=f at *;have s1:=SS x1 x2 o_ o_;have s2:=SS x3 x4 o_ o_;have t1:=Eo (k:=1) d_ x1 x1 o_;rw[MF]at t1;have t2:=Eo (k:=2) d_ x2 x2 o_;have t3:=Eo (k:=3) d_ x3 x3 o_;have t6:=Eo (k:=6) d_ x4 x4 o_;have z1:(f.a*f.a).natAbs<2^(n+n+3):=cy (dY x1 x1) (cX d_ o_);have z2:=GL (k:=2) d_ x2 x2;have z3:=GL (k:=3) d_ x3 x3;have z6:=GL (k:=6) d_ x4 x4;have a1:=yi z1 z2 o_ o_;have a2:=yi z3 z6 o_ o_;have b1:=Ec (GM z1 z2) (GM z3 z6) o_ o_;have u2:=Eo (k:=2) d_ x1 x2 o_;have u6:=Eo (k:=6) d_ x3 x4 o_;have y2:=GL (k:=2) d_ x1 x2;have y6:=GL (k:=6) d_ x3 x4;have b2:=Ec y2 y6 o_ o_;have s3:=SS (Nb (GM z1 z2) (GM z3 z6)) (Nb y2 y6) o_ o_;have wJ:=Nd f.a f.b;have SV:=Nd ((f.a*f.a+2*(f.b*f.b))-(3*(f.c*f.c)+6*(f.e*f.e))) (2*(f.a*f.b)-6*(f.c*f.e));have mx:=SR (b:=oO f.c f.e) wJ SV;have m0:=SR (a:=oO f.a f.b) (b:=oO f.c f.e) (s:=0) wJ d_;unfold M3;generalize oO f.a f.b=p at *;generalize oO f.c f.e=q at *;by_cases h:p=q\/q=0\/p=0
 ·have e:sG p q (oO ((f.a*f.a+2*(f.b*f.b))-(3*(f.c*f.c)+6*(f.e*f.e))) (2*(f.a*f.b)-6*(f.c*f.e)))=sG p q 0:=by
   unfold sG;by_cases h1:p=q\/q=0
   ·rw[aq h1,aq h1]
   ·rw[al h1,al h1];have h2:p=0:=by
     rcases h with h|h|h
     ·exact absurd (.inl h) h1
     ·exact absurd (.inr h) h1
     ·exact h
    rw[aq h2,aq h2]
  rw[e];by_cases h1:p=q
  ·exact aV func133 (λ_=>[hv.at 12,s1.at 28,s2.at 31,.rw 34 (.bool (p==q)) b_ (by rw[h1];simp),m0.at 45])
  ·by_cases h2:q=0
   ·exact aV func133 (λ_=>[hv.at 12,s1.at 28,s2.at 31,.rw 34 (.bool (p==q)) a_ (by congr 1;simpa using h1),.rw 37 (.bool (q==0)) b_ (by rw[h2];rfl),m0.at 45])
   ·have h3:p=0:=by
     rcases h with h|h|h
     ·exact absurd h h1
     ·exact absurd h h2
     ·exact h
    exact aV func133 (λ_=>[hv.at 12,s1.at 28,s2.at 31,.rw 34 (.bool (p==q)) a_ (by congr 1;simpa using h1),.rw 37 (.bool (q==0)) a_ (by congr 1;simpa using h2),.rw 41 (.bool (p==0)) b_ (by rw[h3];rfl),m0.at 45])
 ·have h1:p≠q:=λe=>h (.inl e);have h2:q≠0:=λe=>h (.inr (.inl e));have h3:p≠0:=λe=>h (.inr (.inr e));exact aV func133 (λ_=>[hv.at 12,s1.at 28,s2.at 31,.rw 34 (.bool (p==q)) a_ (by congr 1;simpa using h1),.rw 37 (.bool (q==0)) a_ (by congr 1;simpa using h2),.rw 41 (.bool (p==0)) a_ (by congr 1;simpa using h3),t1.at 48,t2.at 51,a1.at 52,t3.at 55,t6.at 58,a2.at 59,b1.at 60,u2.at 63,u6.at 66,b2.at 67,s3.at 72,mx.at 73])
theorem lE{x y:K}{n:Nat}(hx:Sz m x)(hy:Sz n y)(cN:4*(m+n)+24<=az):aB prog 117 [bZ x,bZ y] (.int .i64 (OF.aA (x-y))):=
 aV func117 (λ_=>[(As hx hy o_).at 7,(mO (hx.sub hy) o_).at 8])
def rF(x:K):K:=if OF.aA x<0 then -x else x
theorem SX{x:K}{n:Nat}(hx:Sz n x)(hn:4*n+20<=az):aB prog 202 [bZ x] (bZ (rF x)):=by
 unfold rF;have n1:=yq hx o_;have n2:=yq hx.neg o_;rw[CR.neg_neg]at n2;by_cases h:OF.aA x<0
 ·rw[aq h];exact aV func202 (λ_=>[(mO hx hn).at 4,.rw 5 (.bool (decide (OF.aA x<0))) b_ (by rw[aD h]),n1.at 7])
 ·rw[al h];exact aV func202 (λ_=>[(mO hx hn).at 4,.rw 5 (.bool (decide (OF.aA x<0))) a_ (by rw[aQ h]),n1.at 9,n2.at 10])
theorem ZB{o:Nat}{x:Obj}(h:ij ι w (.at b o cap) x)(hx:x.owns=true):∃ cs ty,w.heap[b]?=some (.cells cs ty (0,0)):=by
 cases x with
 |aH cells ty=>
  obtain⟨b',bW,e,_,h2⟩:=h;injection e with e _ _;subst e;exact⟨_,_,h2⟩
 |row cells ty size=>
  rcases h with ⟨h,_⟩|⟨b',bf,cur,e,h2,_⟩
  ·cases h
  ·injection e with e _ _;subst e;exact⟨_,_,h2⟩
 |_=>cases hx
def Obj.soft:Obj->Bool
 |.view _=>true
 |.fact F=>!F.rc
 |_=>false
theorem aIP{x:Obj}(h:x.soft=true)(k:x.owns=true):False:=by cases x<;>simp[Obj.soft,Obj.owns]at h k
theorem aIQ(h:(Obj.fact F).soft=true):F.rc=false:=by simpa[Obj.soft]using h
def Else(w:h_)(l:Nat):Prop:=∀ cs ty f,w.heap[l]?≠some (.cells cs ty f)
theorem SY{l:Nat}{r:Loop}(h:w.heap[l]?=some (.loop r)):Else w l:=λcs ty f e=>by rw[h]at e;cases e
theorem aIR{l:Nat}{r:Option (List Deferred)}(h:w.heap[l]?=some (.deferred r)):Else w l:=λcs ty f e=>by rw[h]at e;cases e
theorem Nf{loc:oZ}{x:Obj}{l:Nat}(hl:Else w l)(h:ij ι w loc x)(hx:∀ F,x=.fact F->F.rc=false)(hz:w.heap.size<=w'.heap.size)
  (hs:∀ b o cap,x.owns=true\/x.jc=true->loc=.at b o cap->b=l\/w'.heap[b]?=w.heap[b]?) (hf:∀ F v b,x=.fact F->loc=.val v->F.cI v w b->b=l\/w'.heap[b]?=w.heap[b]?):ij ι w' loc x:=by
 cases x with
 |aH cells ty=>
  obtain⟨b,bW,e,h1,h2⟩:=h;rcases hs b 0 0 (.inl rfl) e with rfl|hb
  ·exact absurd h2 (hl _ _ _)
  ·exact⟨b,bW,e,h1,by rw[hb];exact h2⟩
 |row cells ty size=>
  rcases h with h|⟨b,cap,cur,e,h1,h2⟩
  ·exact .inl h
  ·rcases hs b 0 cap (.inl rfl) e with rfl|hb
   ·exact absurd h1 (hl _ _ _)
   ·exact .inr ⟨b,cap,cur,e,by rw[hb];exact h1,h2⟩
 |view cells=>
  rcases h with h|⟨b,o,cap,bW,e,h1,h2⟩
  ·exact .inl h
  ·rcases hs b o cap (.inr rfl) e with rfl|hb
   ·have:bW=[]:=by
     cases bW with
     |nil=>rfl
     |cons u t=>
      have:=h2 0 u rfl;unfold World.cell? at this;dsimp only at this;split at this
      ·rename_i h3;exact absurd h3 (hl _ _ _)
      ·cases this
    subst this;exact .inr ⟨b,o,cap,[],e,h1,λj u hj=>by cases hj⟩
   ·exact .inr ⟨b,o,cap,bW,e,h1,λj u hj=>by rw[World.cell?_of_block (w:=w) (w':=w') (a:=⟨b,o+j,none⟩) hb];exact h2 j u hj⟩
 |fact F=>
  obtain⟨v,e,h1⟩:=h;refine⟨v,e,(F.soft (hx F rfl) v w w' h1 hz λk hk cs ty f hc=>?_).1⟩;rcases hf F v k rfl e hk with rfl|hb
  ·exact absurd hc (hl _ _ _)
  ·rw[hb];exact hc
 |dead=>trivial
theorem Ng{B1 B2:ae}{c2:g_}{w1 w2:h_}(h:aI B1 ι c w1)(hL:cT c L)(qY:∀ k x,ah L k=some x->κ k=ι k)
  (aIS:∀ k x l,ah L k=some x->ι k=some l->ij ι w1 l x->ij κ w2 l x) (aIT:B2.G w2) (Dm:∀ k x b o cap,ah L k=some x->x.owns=true->ι k=some (.at b o cap)->¬B2.cI b)
  (xF:w1.heap.size<=w2.heap.size) (Rc:∀ k,c2 k=none->κ k=none) (c7:∀ k x,c2 k=some x->ah L k=some x\/(x=.dead/\∃ l,κ k=some l)) (SZ:∀ k F,ah L k=some (.fact F)->F.rc=true->B2.Fa F) (hff:∀ k F v b,ah L k=some (.fact F)->ι k=some (.val v)->F.cI v w2 b->F.cI v w1 b)
  (hle:Map.le B2.mp κ):aI B2 κ c2 w2:=by
 have src:∀{k x},c2 k=some x->x≠.dead->c k=some x/\κ k=ι k/\ah L k=some x:=λ{k x} hk hx=>by
  rcases c7 k x hk with h1|⟨h1,_⟩
  ·exact⟨hL k x h1,qY k x h1,h1⟩
  ·exact absurd h1 hx
 have nd:∀{x:Obj},x.owns=true->x≠.dead:=λh e=>by subst e;cases h
 have nv:∀{x:Obj},x.jc=true->x≠.dead:=λh e=>by subst e;cases h
 refine⟨aIT,Rc,?_,?_,?_,?_,?_,?_,?_,hle⟩
 ·intro k x hk;rcases c7 k x hk with h1|⟨rfl,l,hl⟩
  ·obtain⟨l,e1,e2⟩:=h.born k x (hL k x h1);exact⟨l,(qY k x h1).trans e1,aIS k x l h1 e1 e2⟩
  ·exact⟨l,hl,trivial⟩
 ·intro k x b o cap hk hx hl;obtain⟨q1,q2,q3⟩:=src hk (nd hx);rw[q2]at hl;exact⟨cy (h.own k x b o cap q1 hx hl).1 xF,Dm k x b o cap q3 hx hl⟩
 ·intro k j x y b o cap o' bf hk hx hj hy hl cW;obtain⟨q1,q2,_⟩:=src hk (nd hx);obtain⟨p1,p2,_⟩:=src hj (nd hy);exact h.inj k j x y b o cap o' bf q1 hx p1 hy (q2▸hl) (p2▸cW)
 ·intro k j x F b o cap v hk hx hl hj hv;obtain⟨q1,q2,_⟩:=src hk (nd hx);obtain⟨p1,p2,p3⟩:=src hj n_;intro hF;exact h.apart k j x F b o cap v q1 hx (q2▸hl) p1 (p2▸hv) (hff j F v b p3 (p2▸hv) hF)
 ·intro k x b o cap hk hx hl;obtain⟨q1,q2,_⟩:=src hk (nv hx);obtain⟨s1,s2⟩:=h.seen k x b o cap q1 hx (q2▸hl);refine⟨cy s1 xF,λj y o' bf hj hy hm=>?_⟩;obtain⟨p1,p2,_⟩:=src hj (nd hy);exact s2 j y o' bf p1 hy (p2▸hm)
 ·intro j F hj;exact SZ j F (src hj n_).2.2
 ·intro j k F F' hj hk;exact h.one j k F F' (src hj n_).1 (src hk n_).1
def fe(l:Nat)(r:Loop):Fact where
 G _ W:=W.heap[l]?=some (.loop r)
 cI _ _ k:=k=l
 lt _ w k h hk:=by subst hk;exact(zK.1 h).1
 dep _ w w' h _ hk:=⟨(hk l rfl).trans h,λk h=>h⟩
 rc:=true
 soft h:=by cases h
def n9(W1:h_)(l:Nat)(S:Nat->Prop)(m:Map):ae where
 G W:=rY W1 W/\W.tape=W1.tape/\W.output=W1.output/\W1.heap.size<=W.heap.size/\∀ k,k<W1.heap.size->¬S k->k≠l->W.heap[k]?=W1.heap[k]?
 cI k:=k<W1.heap.size/\¬S k/\k≠l
 Fa F:=∃ r,F=fe l r
 mp:=m
 lt w k h hk:=cy hk.1 h.2.2.2.1
 dep w w' h h1 h2 h3 h4 h5:=⟨h1.trans h.1,h2.trans h.2.1,h3.trans h.2.2.1,c9 h.2.2.2.1 h4,λk hk hS hl=>(h5 k ⟨hk,hS,hl⟩).trans (h.2.2.2.2 k hk hS hl)⟩
section
variable{W1 W:h_}{l g:Nat}{S:Nat->Prop}{m ι:Map}{c:g_}{r r':Loop}
theorem Ep(h:aI B ι c W)(hg:c g=some (.fact (fe l r))):W.heap[l]?=some (.loop r):=by obtain⟨lc,hl,v,_,hr⟩:=h.born g _ hg;exact hr
theorem ZC(h:aI (n9 W1 l S m) ι c W)(hg:c g=some (.fact (fe l r))):aI (n9 W1 l S m) ι (aT c g (.fact (fe l r'))) (W.putObj l (.loop r')):=by
 have hr:=Ep h hg;have av:=(zK.1 hr).1;have rG:=SY hr;have ne:∀ b,b≠l->(W.putObj l (.loop r')).heap[b]?=W.heap[b]?:=λb hb=>S0 hb;have cM:∀ j y,j≠g->aT c g (.fact (fe l r')) j=some y->c j=some y:=λj y hj e=>by unfold aT at e;rw[al hj]at e;exact e
 have new:∀ y,aT c g (.fact (fe l r')) g=some y->y=.fact (fe l r'):=λy e=>by unfold aT at e;rw[aq rfl]at e;injection e with e;exact e.symm
 have nf:∀ j y,j≠g->c j=some y->∀ F,y=.fact F->F.rc=false:=λj y hj e F e2=>by
  subst e2;cases hr:F.rc with
  |false=>rfl
  |true=>exact absurd (h.one j g F _ e hg hr rfl) hj
 have og:∀ j y,aT c g (.fact (fe l r')) j=some y->y.owns=true\/y.jc=true->c j=some y:=λj y e hy=>by
  by_cases hj:j=g
  ·subst hj;rw[new y e]at hy;rcases hy with hy|hy<;>cases hy
  ·exact cM j y hj e
 refine⟨⟨h.base.1,h.base.2.1,h.base.2.2.1,by rw[qy];exact h.base.2.2.2.1,λk hk hS hl=>(ne k hl).trans (h.base.2.2.2.2 k hk hS hl)⟩,?_,?_,?_,?_,?_,?_,?_,?_,h.qR⟩
 ·intro j hj;unfold aT at hj;by_cases pE:j=g
  ·rw[aq pE]at hj;cases hj
  ·rw[al pE]at hj;exact h.dp j hj
 ·intro j y hj;by_cases pE:j=g
  ·subst pE;rw[new y hj];obtain⟨lc,hl,v,e,_⟩:=h.born j _ hg;exact⟨lc,hl,v,e,World.putObj_heap_same av⟩
  ·have hc:=cM j y pE hj;obtain⟨lc,hl,ho⟩:=h.born j y hc;exact⟨lc,hl,Nf rG ho (nf j y pE hc) (by rw[qy];exact aZ _) (λb o cap _ _=>(Nat.decEq b l).casesOn (λhb=>.inr (ne b hb)) λhb=>.inl hb) λF v b _ _ _=>(Nat.decEq b l).casesOn (λhb=>.inr (ne b hb)) λhb=>.inl hb⟩
 ·intro k x b o cap hk hx hl;rw[qy];exact h.own k x b o cap (og k x hk (.inl hx)) hx hl
 ·intro k j x y b o cap o' bf hk hx hj hy;exact h.inj k j x y b o cap o' bf (og k x hk (.inl hx)) hx (og j y hj (.inl hy)) hy
 ·intro k j x F b o cap v hk hx hl hj hv hF;have gM:=og k x hk (.inl hx);by_cases pE:j=g
  ·subst pE;have e:=new _ hj;injection e with e;subst e;exact h.apart k j x _ b o cap v gM hx hl hg hv hF
  ·have gA:=cM j _ pE hj;obtain⟨lc,q1,v',q2,q3⟩:=h.born j _ gA;rw[hv]at q1;injection q1 with q1;subst q1;injection q2 with q2;subst q2;refine h.apart k j x F b o cap v gM hx hl gA hv ((F.soft (nf j _ pE gA F rfl) v W _ q3 (by rw[qy];exact aZ _) λk2 fT cs ty f hc=>?_).2 b hF);rw[ne k2 (λe=>by subst e;exact rG _ _ _ hc)];exact hc
 ·intro k x b o cap hk hx hl;rw[qy];obtain⟨q1,q2⟩:=h.seen k x b o cap (og k x hk (.inr hx)) hx hl;exact⟨q1,λj y o' bf hj hy=>q2 j y o' bf (og j y hj (.inl hy)) hy⟩
 ·intro j F hj;by_cases pE:j=g
  ·subst pE;have e:=new _ hj;injection e with e;exact λ_=>⟨r',e⟩
  ·exact h.fa j F (cM j _ pE hj)
 ·intro j k F F' hj hk hr Dn;by_cases pE:j=g
  ·by_cases Cs:k=g
   ·rw[pE,Cs]
   ·have:=nf k _ Cs (cM k _ Cs hk) F' rfl;rw[Dn]at this;cases this
  ·have:=nf j _ pE (cM j _ pE hj) F rfl;rw[hr]at this;cases this
end
def wK(ι:Map)(next:Nat):Map:=λk=>if k<next then ι k else none
def qz(c:g_)(next:Nat)(L:aC):g_:=λk=>if k<next then(match ah L k with|some x=>some x|none=>(c k).map λ_=>.dead)else none
theorem GN{next:Nat}(h:k<next):wK ι next k=ι k:=by unfold wK;rw[aq h]
theorem Au{p:Nat×Obj->Bool}(h:L.all p=true){x:Obj}(hk:ah L k=some x):p (k,x)=true:=aX.1 h _ (iy hk)
theorem Nh:∀{L:aC} {k:Nat},ah L k=none↔k∉L.map (·.1)
 |[],k=>by simp[ah]
 |(j,x)::L,k=>by
  by_cases h:j=k
  ·subst h;simp[ah]
  ·have e:ah ((j,x)::L) k=ah L k:=by show(if Nat.beq j k then _ else _)=_;rw[nM h];rfl
   rw[e,Nh];simp[lQ h]
theorem ZD{L':aC}(h:L'.map (·.1)=L.map (·.1))(k:Nat):ah L' k=none↔ah L k=none:=by rw[Nh,Nh,h]
def S1(L:aC)(k:Nat):Bool:=L.any λp=>Nat.beq p.1 k
theorem ZE(h:S1 L k=true):ah L k≠none:=λe=>by obtain⟨p,hp,e2⟩:=r6.1 h;exact Nh.1 e (dq.2 ⟨p,hp,jK e2⟩)
def lF(next:Nat)(p:Nat×Obj):Bool:=p.2.cells.all (mH next)
theorem Ni{next:Nat}{p:Nat×Obj}(h:lF next p=true):fW next p.2:=λv hv=>aX.1 h v hv
theorem S2(jG:∀ k x,ah Vs k=some x->x.soft=true){x:Obj}(e:ah (Os++Vs) k=some x)(hx:x.owns=true):ah Os k=some x:=by
 rw[jh]at e;cases e1:ah Os k with
 |some y=>rw[e1]at e;exact e
 |none=>
  rw[e1]at e;exact(aIP (jG k x e) hx).elim
theorem Nj(ek:∀ k x,ah Os k=some x->x.owns=true)(jG:∀ k x,ah Vs k=some x->x.soft=true)(e:ah (Os++Vs) k=some (.fact F)):F.rc=false:=by
 rw[jh]at e;cases e1:ah Os k with
 |some y=>rw[e1]at e;injection e with e;subst e;have:=ek k _ e1;cases this
 |none=>rw[e1]at e;exact aIQ (jG k _ e)
theorem GO(hL:cT c L)(h:c k=none):ah L k=none:=by
 cases e:ah L k with
 |none=>rfl
 |some x=>rw[hL _ _ e]at h;cases h
theorem ZF{B2:ae}{W:h_}{next:Nat}(h:aI B ι c W)(hL:cT c L)(di:∀ k x,ah L k=some x->k<next/\fW next x)(hb:B2.G W)
  (Dm:∀ k x b o cap,ah L k=some x->x.owns=true->ι k=some (.at b o cap)->¬B2.cI b) (SZ:∀ k F,ah L k=some (.fact F)->F.rc=true->B2.Fa F) (hle:Map.le B2.mp (wK ι next)) :
  aI B2 (wK ι next) (qz c next L) W/\cT (qz c next L) L/\eA (qz c next L) next:=by
 refine⟨Ng (L:=L) h hL (λk x e=>GN (di k x e).1) (λk x lc e _ ho=>ho.below (λk hk l e=>by rw[GN hk];exact e) (di k x e).2) hb Dm (aZ _) (λk e=>?_) (λk x e=>?_) SZ (λ_ _ _ _ _ _ h=>h) hle,λk x e=>?_,λk hk=>by unfold qz;rw[al o_]⟩
 ·unfold qz at e;unfold wK;split at e
  ·rename_i hk;rw[aq hk];split at e
   ·cases e
   ·cases hc:c k with
    |none=>exact h.dp k hc
    |some x=>rw[hc]at e;cases e
  ·rename_i hk;rw[al hk]
 ·unfold qz at e;split at e
  ·rename_i hk;split at e
   ·rename_i y hy;injection e with e;subst e;exact .inl hy
   ·cases hc:c k with
    |none=>rw[hc]at e;cases e
    |some y=>
     rw[hc]at e;injection e with e;obtain⟨lc,q,_⟩:=h.born k y hc;exact .inr ⟨e.symm,lc,by rw[GN hk];exact q⟩
  ·cases e
 ·unfold qz;rw[aq (di k x e).1,e]
def ae.Nk(w0:h_)(S:Nat->Prop):ae where
 G w:=rY w0 w/\w.tape=w0.tape/\w.output=w0.output/\w0.heap.size<=w.heap.size/\∀ k,k<w0.heap.size->¬S k->w.heap[k]?=w0.heap[k]?
 cI k:=k<w0.heap.size/\¬S k
 lt w k h hk:=cy hk.1 h.2.2.2.1
 dep w w' h h1 h2 h3 h4 h5:=⟨h1.trans h.1,h2.trans h.2.1,h3.trans h.2.2.1,c9 h.2.2.2.1 h4,λk hk hS=>(h5 k ⟨hk,hS⟩).trans (h.2.2.2.2 k hk hS)⟩
def iT(ι ao:Map)(ns:l_):Map:=λk=>if ns.contains k then ao k else ι k
def ZG(ns:l_):Value->Bool
 |.slice (some ad) _ _=>lM ad&&ns.contains ad.block
 |.pointer (some ad)=>lM ad&&ns.contains ad.block
 |.func _ fi ca=>match fi.toList,ca.toList with|[],[.pointer (some ad)]=>lM ad&&ns.contains ad.block|_,_=>false
 |_=>false
def pF(K:Nat)(ns:l_)(v:i_):Bool:=mH K v||ZG ns v
theorem ZH{K:Nat}(di:∀ k,k<K->∀ lc,ao k=some lc->ι k=some lc){v:i_}(ax:pF K ns v=true)(h:aG ao v v'):aG (iT ι ao ns) v v':=by
 unfold pF at ax;rw[qV]at ax;rcases ax with ax|ax
 ·refine h.low (λk hk l e=>?_) ax;unfold iT;by_cases hc:ns.contains k=true
  ·rw[aq hc];exact e
  ·rw[al hc];exact di k hk l e
 ·have key:∀{k:Nat} {l:oZ},ns.contains k=true->ao k=some l->iT ι ao ns k=some l:=λhk e=>by unfold iT;rw[aq hk];exact e
  unfold ZG at ax;split at ax
  ·rename_i ad n c;rw[cY]at ax;obtain⟨bl,off,sp⟩:=ad;have tO:=Ft ax.1;have cB:=ax.2;dsimp only at tO cB;subst tO;rcases h.gK rfl with ⟨q1,q2,q3,q4,q5⟩|⟨b,oo,cap,c',q1,q2,q3,q5⟩
   ·dsimp only at q1 q4;rw[q5,q2,q3,q4];exact .slcN (key cB q1)
   ·dsimp only at q1 q5;rw[q5];exact .slc (key cB q1) q2 q3
  ·rename_i ad;rw[cY]at ax;obtain⟨bl,off,sp⟩:=ad;have tO:=Ft ax.1;have cB:=ax.2;dsimp only at tO cB;subst tO;obtain⟨b,o,cap,q1,q2⟩:=h.ux rfl;dsimp only at q1 q2;rw[q2];exact .ptr (key cB q1)
  ·obtain⟨ju,gp,rfl,h1,h2⟩:=h.zo;split at ax
   ·rename_i ad e1 e2;rw[cY]at ax;obtain⟨bl,off,sp⟩:=ad;have tO:=Ft ax.1;have cB:=ax.2;dsimp only at tO cB;subst tO;rw[e2]at h2;obtain⟨u,e3,h3⟩:=lO h2;obtain⟨b,o,cap,q1,q2⟩:=h3.ux rfl;dsimp only at q1 q2;refine .fn ?_ ?_
    ·rw[e1]at h1 ⊢;cases nK:ju.toList with
     |nil=>exact .nil
     |cons _ _=>rw[nK]at h1;cases h1
    ·rw[e2,e3,q2];exact .cons (.ptr (key cB q1)) .nil
   ·cases ax
  ·cases ax
theorem Nl{K:Nat}{ns:l_}{ι ao:Map}(di:∀ k,k<K->∀ lc,ao k=some lc->ι k=some lc):∀{l l':ak},(∀ v∈l,pF K ns v=true)->bJ (aG ao) l l'->bJ (aG (iT ι ao ns)) l l'
 |_,_,_,.nil=>.nil
 |_,_,ax,.cons h1 h2=>.cons (ZH di (ax _ (aN ..)) h1) (Nl di (λv hv=>ax v (bB _ hv)) h2)
theorem ZI{K:Nat}(di:∀ k,k<K->∀ lc,ao k=some lc->ι k=some lc){x:Obj}(ax:∀ v∈x.cells,pF K ns v=true){l:oZ}(h:ij ao w l x):ij (iT ι ao ns) w l x:=by
 cases x with
 |aH cells ty=>obtain⟨b,bW,e1,e2,e3⟩:=h;exact⟨b,bW,e1,Nl di ax e2,e3⟩
 |row cells ty size=>
  rcases h with h|⟨b,cap,cur,e1,e2,e3,e4,e5⟩
  ·exact .inl h
  ·exact .inr ⟨b,cap,cur,e1,e2,e3,e4,Nl di ax e5⟩
 |view cells=>
  rcases h with h|⟨b,o,cap,cs,e1,e2,e3⟩
  ·exact .inl h
  ·exact .inr ⟨b,o,cap,cs,e1,Nl di ax e2,e3⟩
 |fact F=>exact h
 |dead=>trivial
theorem S3:∀{Os ck:aC},ck.map (·.1)=Os.map (·.1)++ns->∀ k,ah ck k=none↔(ah Os k=none/\ns.contains k=false):=by
 have look:∀(l:aC) (k:Nat),ah l k=none↔(l.map (·.1)).contains k=false:=by
  intro l k;induction l with
  |nil=>exact⟨λ_=>rfl,λ_=>rfl⟩
  |cons p l ih=>
   obtain⟨a,x⟩:=p;rw[show ah ((a,x)::l) k=if Nat.beq a k=true then some x else ah l k from rfl,qc,List.contains_cons];by_cases h:Nat.beq a k=true
   ·rw[aq h];have:=jK h;subst this;simp
   ·rw[al h,ih];have:(k==a)=false:=by
     cases e:k==a with
     |false=>rfl
     |true=>have:=eq_of_beq e;subst this;exact absurd (DH k) h
    rw[this,vY]
 intro Os ck h k;rw[look,look,h,List.contains_append,Lr]
section
variable{P:j_}{B:ae}{w w4:h_}{K:Nat}{S:Nat->Prop}{ι:Map}{c:g_}{ns:l_}
theorem ZJ(h:aI B ι c w)(hO:cT c Os)(ek:∀ k x,ah Os k=some x->x.owns=true)(tP:∀ k x,ah ck k=some x->x.owns=true\/x=.dead)
  (kE:∀ k,ah ck k=none↔(ah Os k=none/\ns.contains k=false)) (zu:∀ k,ns.contains k=true->c k=none) (hS:∀ b,S b->∃ k x o cap,ah Os k=some x/\ι k=some (.at b o cap))
  {ao:Map} {c':g_} (hm:aI (ae.Nk w S) ao c' w4) (Av:cT c' ck) (di:∀ k,k<K->∀ lc,ao k=some lc->ι k=some lc) (ax:∀ k x,ah ck k=some x->∀ v∈x.cells,pF K ns v=true)
  (qb:∀ k x,ah Os k=some x->k<K):Map.le ι (iT ι ao ns)/\aI B (iT ι ao ns) (kP c ck) w4:=by
 have hle:Map.le ι (iT ι ao ns):=λk l e=>by
  unfold iT;by_cases hc:ns.contains k=true
  ·rw[h.dp k (zu k hc)]at e;cases e
  ·rw[al hc];exact e
 have bE:w.heap.size<=w4.heap.size:=hm.base.2.2.2.1;have aH:∀ b,b<w.heap.size->¬S b->w4.heap[b]?=w.heap[b]?:=hm.base.2.2.2.2;have ZK:∀ b,S b->¬B.cI b:=λb hb=>by obtain⟨k,x,o,cap,e1,e2⟩:=hS b hb;exact(h.own k x b o cap (hO k x e1) (ek k x e1) e2).2
 have cM:∀ k,ns.contains k=false->iT ι ao ns k=ι k:=λk e=>by unfold iT;rw[e];rfl
 have kinds:∀ k x,kP c ck k=some x->(ah ck k=some x/\c' k=some x/\(x.owns=true\/x=.dead))\/(ah Os k=none/\ns.contains k=false/\c k=some x):=λk x e=>by
  rw[vF]at e;cases ho:ah ck k with
  |some y=>rw[ho]at e;injection e with e;subst e;exact .inl ⟨rfl,Av k y ho,tP k y ho⟩
  |none=>rw[ho]at e;exact .inr ⟨((kE k).1 ho).1,((kE k).1 ho).2,e⟩
 have same:∀ k x,ah ck k=some x->iT ι ao ns k=ao k:=λk x e=>by
  unfold iT;by_cases hc:ns.contains k=true
  ·rw[aq hc]
  ·rw[al hc];obtain⟨lc,q,_⟩:=hm.born k x (Av k x e);have:ah Os k≠none:=λhn=>by have:=(kE k).2 ⟨hn,by simpa using hc⟩;rw[e]at this;cases this
   cases hk:ah Os k with
   |none=>exact absurd hk this
   |some y=>rw[q,di k (qb k y hk) lc q]
 have ZL:∀ k x b o cap,ah Os k=none->c k=some x->x.owns=true->ι k=some (.at b o cap)->¬S b:=λk x b o cap hn hc hx hl hs=>by obtain⟨k',x',o',bf,e1,e2⟩:=hS b hs;have:=h.inj k k' x x' b o cap o' bf hc hx (hO k' x' e1) (ek k' x' e1) hl e2;subst this;rw[hn]at e1;cases e1
 have ZM:∀ k x b o cap,c k=some x->x.jc=true->ι k=some (.at b o cap)->¬S b:=λk x b o cap hc hx hl hs=>by obtain⟨k',x',o',bf,e1,e2⟩:=hS b hs;exact(h.seen k x b o cap hc hx hl).2 k' x' o' bf (hO k' x' e1) (ek k' x' e1) e2
 have S4:∀ k F v b,c k=some (.fact F)->ι k=some (.val v)->F.cI v w b->¬S b:=λk F v b hc hl hF hs=>by obtain⟨k',x',o',bf,e1,e2⟩:=hS b hs;exact h.apart k' k x' F b o' bf v (hO k' x' e1) (ek k' x' e1) e2 hc hl hF
 have part:∀ k x b o cap j y o' bf,ah ck k=some x->x.owns=true->iT ι ao ns k=some (.at b o cap)->ah Os j=none->c j=some y->y.owns=true->ι j=some (.at b o' bf)->False:=λk x b o cap j y o' bf hk hx hl hj hc hy cW=>by
  rcases eQ b w.heap.size with av|fJ
  ·have q:=(hm.own k x b o cap (Av k x hk) hx (by rw[<-same k x hk];exact hl)).2;exact q ⟨av,ZL j y b o' bf hj hc hy cW⟩
  ·have:=(h.own j y b o' bf hc hy cW).1;omega
 refine⟨hle,B.dep w w4 h.base hm.base.1 hm.base.2.1 hm.base.2.2.1 bE λk hk=>aH k (B.lt w k h.base hk) λhs=>ZK k hs hk,?_,?_,?_,?_,?_,?_,?_,?_,h.qR.trans hle⟩
 ·intro k hk;rw[vF]at hk;cases ho:ah ck k with
  |some y=>rw[ho]at hk;cases hk
  |none=>
   rw[ho]at hk;rw[cM k ((kE k).1 ho).2];exact h.dp k hk
 ·intro k x hk;rcases kinds k x hk with ⟨h1,h2,h3⟩|⟨h1,hc,h2⟩
  ·obtain⟨lc,q1,q2⟩:=hm.born k x h2;exact⟨lc,by rw[same k x h1];exact q1,ZI di (ax k x h1) q2⟩
  ·obtain⟨lc,q1,q2⟩:=h.born k x h2;refine⟨lc,by rw[cM k hc];exact q1,(q2.mono hle).jd bE (λb o cap hx e=>?_) λF v b e1 e2 hF=>?_⟩
   ·subst e;rcases hx with hx|hx
    ·exact aH b (h.own k x b o cap h2 hx q1).1 (ZL k x b o cap h1 h2 hx q1)
    ·exact aH b (h.seen k x b o cap h2 hx q1).1 (ZM k x b o cap h2 hx q1)
   ·subst e1;subst e2;exact aH b (q2.Dk rfl hF) (S4 k F v b h2 q1 hF)
 ·intro k x b o cap hk hx hl;rcases kinds k x hk with ⟨h1,h2,h3⟩|⟨h1,hc,h2⟩
  ·have cW:ao k=some (.at b o cap):=by rw[<-same k x h1];exact hl
   obtain⟨q1,q2⟩:=hm.own k x b o cap h2 hx cW;refine⟨q1,λhF=>?_⟩;have gy:=B.lt w b h.base hF;exact q2 ⟨gy,λhs=>ZK b hs hF⟩
  ·rw[cM k hc]at hl;obtain⟨q1,q2⟩:=h.own k x b o cap h2 hx hl;exact⟨cy q1 bE,q2⟩
 ·intro k j x y b o cap o' bf hk hx hj hy hl cW;rcases kinds k x hk with ⟨h1,h2,h3⟩|⟨h1,hc,h2⟩
  ·rcases kinds j y hj with ⟨p1,p2,p3⟩|⟨p1,lR,p2⟩
   ·exact hm.inj k j x y b o cap o' bf h2 hx p2 hy (by rw[<-same k x h1];exact hl) (by rw[<-same j y p1];exact cW)
   ·rw[cM j lR]at cW;exact(part k x b o cap j y o' bf h1 hx hl p1 p2 hy cW).elim
  ·rw[cM k hc]at hl;rcases kinds j y hj with ⟨p1,p2,p3⟩|⟨p1,lR,p2⟩
   ·exact(part j y b o' bf k x o cap p1 hy cW h1 h2 hx hl).elim
   ·rw[cM j lR]at cW;exact h.inj k j x y b o cap o' bf h2 hx p2 hy hl cW
 ·intro k j x F b o cap v hk hx hl hj hv hF;rcases kinds j _ hj with ⟨_,_,p3⟩|⟨p1,oQ,p2⟩
  ·rcases p3 with p3|p3<;>cases p3
  rw[cM j oQ]at hv;have hF:=h.Dl p2 hv bE (λk2 fT iU=>aH k2 fT (S4 j F v k2 p2 hv iU)) hF;rcases kinds k x hk with ⟨h1,h2,h3⟩|⟨h1,hc,h2⟩
  ·have cW:ao k=some (.at b o cap):=by rw[<-same k x h1];exact hl
   have hb:b<w.heap.size:=by obtain⟨lc,q1,q2⟩:=h.born j _ p2;rw[hv]at q1;injection q1 with q1;subst q1;exact q2.Dk rfl hF
   exact(hm.own k x b o cap h2 hx cW).2 ⟨hb,S4 j F v b p2 hv hF⟩
  ·rw[cM k hc]at hl;exact h.apart k j x F b o cap v h2 hx hl p2 hv hF
 ·intro k x b o cap hk hx hl;rcases kinds k x hk with ⟨h1,h2,h3⟩|⟨h1,hc,h2⟩
  ·rcases h3 with h3|h3
   ·cases x<;>simp[Obj.owns,Obj.jc]at h3 hx
   ·subst h3;cases hx
  ·rw[cM k hc]at hl;obtain⟨q1,q2⟩:=h.seen k x b o cap h2 hx hl;refine⟨cy q1 bE,λj y o' bf hj hy cW=>?_⟩;rcases kinds j y hj with ⟨p1,p2,p3⟩|⟨p1,lR,p2⟩
   ·have kO:ao j=some (.at b o' bf):=by rw[<-same j y p1];exact cW
    exact(hm.own j y b o' bf p2 hy kO).2 ⟨q1,ZM k x b o cap h2 hx hl⟩
   ·rw[cM j lR]at cW;exact q2 j y o' bf p2 hy cW
 ·intro j F hj;rcases kinds j _ hj with ⟨_,_,h3⟩|⟨h1,_,h2⟩
  ·rcases h3 with h3|h3<;>cases h3
  ·exact h.fa j F h2
 ·intro j k F F' hj hk;rcases kinds j _ hj with ⟨_,_,h3⟩|⟨_,_,h2⟩
  ·rcases h3 with h3|h3<;>cases h3
  rcases kinds k _ hk with ⟨_,_,h3⟩|⟨_,_,yn⟩
  ·rcases h3 with h3|h3<;>cases h3
  exact h.one j k F F' h2 yn
theorem aIU(hm:aI B ι c w)(hL:cT c (Os++Vs))(di:∀ k x,ah (Os++Vs) k=some x->k<K/\fW K x)(ek:∀ k x,ah Os k=some x->x.owns=true)(jG:∀ k x,ah Vs k=some x->x.soft=true):
  ∃ S:Nat->Prop,(∀ b,S b->∃ k x o cap,ah Os k=some x/\ι k=some (.at b o cap))/\aI (ae.Nk w S) (wK ι K) (qz c K (Os++Vs)) w/\cT (qz c K (Os++Vs)) (Os++Vs)/\eA (qz c K (Os++Vs)) K:=by
 refine⟨λb=>∃ k x o cap,ah Os k=some x/\ι k=some (.at b o cap),λb h=>h,ZF hm hL di ⟨.refl _,rfl,rfl,aZ _,λ_ _ _=>rfl⟩ (λk x b o cap e hx hl hF=>hF.2 ⟨k,x,o,cap,S2 jG e hx,hl⟩) (λk F e hr=>?_) n_⟩;rw[Nj ek jG e]at hr;cases hr
theorem ZN(hm:aI B ι c w){B':ae}{c':g_}(bh:aI B' ao c' w4)(hle:Map.le (wK ι K) ao)(gM:∀ k,k<K->qz c K L k=none->c' k=none)(hL:cT c L):
  ∀ k,k<K->∀ lc,ao k=some lc->ι k=some lc:=λk hk lc e=>by
 cases th:ι k with
 |some GP=>
  have:=hle k GP (by rw[GN hk];exact th);rw[e]at this;exact this.symm
 |none=>
  exfalso;have hc:c k=none:=by
   cases hc:c k with
   |none=>rfl
   |some y=>obtain⟨GP,q,_⟩:=hm.born k y hc;rw[th]at q;cases q
  have Bw:ah L k=none:=by
   cases e1:ah L k with
   |none=>rfl
   |some y=>rw[hL k y e1]at hc;cases hc
  rw[bh.dp k (gM k hk (by unfold qz;rw[aq hk,Bw,hc];rfl))]at e;cases e
end
def Jo:aL->aL->aL
 |[],fr=>fr
 |p::l,fr=>Jo l (p::fr)
theorem ZO{m:Map}{N:Nat}:∀(l:aL) {fr:aL} {T:p_},T.size=N->(∀ t,mZ m (bt fr t) (T.getD t undef))->(∀ p∈l,p.1<N/\flat p.2=true)->
  (l.foldl (λt p=>t.setIfInBounds p.1 p.2) T).size=N/\∀ t,mZ m (bt (Jo l fr) t) ((l.foldl (λt p=>t.setIfInBounds p.1 p.2) T).getD t undef)
 |[],fr,T,hT,h,_=>⟨hT,h⟩
 |(p,v)::l,fr,T,hT,h,hl=>by
  obtain⟨h1,h2⟩:=hl (p,v) (aN ..);dsimp only at h1 h2;refine ZO l (fr:=(p,v)::fr) (T:=T.setIfInBounds p v) (by simpa using hT) (λt=>?_) λq hq=>hl q (bB _ hq);by_cases e:p=t
  ·subst e;have e1:bt ((p,v)::fr) p=v:=by simp[bt]
   have e2:(T.setIfInBounds p v).getD p undef=v:=by rw[pb,Array.getElem?_setIfInBounds_self_of_lt o_];rfl
   rw[e1,e2];exact .inr (.same h2)
  ·have e1:bt ((p,v)::fr) t=bt fr t:=by show(if Nat.beq p t then _ else _)=_;rw[nM e];rfl
   have e2:(T.setIfInBounds p v).getD t undef=T.getD t undef:=by rw[pb,pb,Qe e]
   rw[e1,e2];exact h t
def S5:Ex->Option Code
 |.normal=>none
 |.ret=>some .ret
 |.exit id=>some (.exit id)
def gj(cv:FuncId)(T:p_)(ps:Array Tmp)(dZ dx:Code)(D:Nat):Loop:={ state:=.ready,pending:=none,fn:=cv,tmps:=T,params:=ps,assign:=dZ,body:=dx,defers:=D }
def tQ(r:Loop)(j:Option Code):Loop:={ r with state:=if j.isNone then .ready else .done,pending:=j }
theorem S6(h:∀ p∈L.map (λp=>(p.1,some p.2)),c p.1=p.2):cT c L:=λk x e=>h (k,some x) (dq.2 ⟨(k,x),iy e,rfl⟩)
structure Aw(g N:Nat)(fr:aL)(m:Map)(T:p_):Prop where
 size:T.size=N
 jL:∀ t,mZ m (bt fr t) (T.getD t undef)
 low:∀ k lc,m k=some lc->k<g
section
variable{W1 W W3:h_}{l g next:Nat}{S S':Nat->Prop}{m ι:Map}{c:g_}{r r2:Loop}
theorem aIV(h:aI (n9 W1 l S m) ι c W)(hg:c g=some (.fact (fe l r)))(hgn:g<next)(hL:cT c L)(Er:ah L g=none)(di:∀ k x,ah L k=some x->k<next/\fW next x)
  (o5:∀ k F,ah L k=some (.fact F)->F.rc=false) (hS:∀ k x b o cap,ah L k=some x->x.owns=true->ι k=some (.at b o cap)->S' b) :
  aI (n9 W l S' (wK ι next)) (wK ι next) (qz c next ((g,.fact (fe l r))::L)) W/\cT (qz c next ((g,.fact (fe l r))::L)) ((g,.fact (fe l r))::L)/\eA (qz c next ((g,.fact (fe l r))::L)) next:=by
 have kO:∀ k x,ah ((g,.fact (fe l r))::L) k=some x->(k=g/\x=.fact (fe l r))\/ah L k=some x:=λk x e=>by
  rw[show ah ((g,Obj.fact (fe l r))::L) k=if Nat.beq g k=true then some (.fact (fe l r))else ah L k from rfl]at e;split at e
  ·rename_i hb;injection e with e;exact .inl ⟨(jK hb).symm,e.symm⟩
  ·exact .inr e
 refine ZF h (λk x e=>?_) (λk x e=>?_) ⟨.refl _,rfl,rfl,aZ _,λ_ _ _ _=>rfl⟩ (λk x b o cap e hx hb hF=>?_) (λk F e=>?_) (Map.le.refl _)
 ·rcases kO k x e with ⟨rfl,rfl⟩|e
  ·exact hg
  ·exact hL k x e
 ·rcases kO k x e with ⟨rfl,rfl⟩|e
  ·exact⟨hgn,λv hv=>by cases hv⟩
  ·exact di k x e
 ·rcases kO k x e with ⟨rfl,rfl⟩|e
  ·cases hx
  ·exact hF.2.1 (hS k x b o cap e hx hb)
 ·rcases kO k _ e with ⟨_,e2⟩|e2
  ·injection e2 with e2;exact λ_=>⟨r,e2⟩
  ·exact λhr=>by rw[o5 k F e2]at hr;cases hr
theorem aIW{c':g_}(hm:aI (n9 W l S' κ) ao c' W3)(hg:c' g=some (.fact (fe l r2)))(hr:W.heap[l]?=some (.loop r))(Av:cT c' ck)(tP:∀ k x,ah ck k=some x->x.owns=true\/x=.dead):
  ∃ c2,aI (ae.Nk W S') ao c2 (W3.putObj l (.loop r))/\cT c2 ck:=by
 have Nn:=Ep hm hg;have rG:=SY Nn;have av:=(zK.1 Nn).1;have ne:∀ b,b≠l->(W3.putObj l (.loop r)).heap[b]?=W3.heap[b]?:=λb hb=>S0 hb;have Np:∀ k x F,ah ck k=some x->x≠.fact F:=λk x F e h=>by subst h;rcases tP k _ e with h|h<;>cases h
 refine⟨λk=>match ah ck k with|some x=>some x|none=>(c' k).map λ_=>.dead,?_,λk x e=>by simp only[e]⟩;refine Ng (L:=ck) hm Av (λ_ _ _=>rfl) (λk x lc e _ ho=>?_) ⟨hm.base.1,hm.base.2.1,hm.base.2.2.1,by rw[qy];exact hm.base.2.2.2.1,λk hk hS=>?_⟩ (λk x b o cap e hx hl hF=>?_) (by rw[qy];exact aZ _) (λk e=>?_) (λk x e=>?_) (λk F e=>absurd rfl (Np k _ F e)) (λk F v b e=>absurd rfl (Np k _ F e)) n_
 ·exact Nf rG ho (λF ef=>absurd ef (Np k x F e)) (by rw[qy];exact aZ _) (λb _ _ _ _=>(Nat.decEq b l).casesOn (λhb=>.inr (ne b hb)) λhb=>.inl hb) λF v b ef=>absurd ef (Np k x F e)
 ·by_cases Jp:k=l
  ·subst Jp;rw[World.putObj_heap_same av,hr]
  ·rw[ne k Jp];exact hm.base.2.2.2.2 k hk hS Jp
 ·have q:=(hm.own k x b o cap (Av k x e) hx hl).2;refine q ⟨hF.1,hF.2,λhb=>?_⟩;obtain⟨lc,q1,q2⟩:=hm.born k x (Av k x e);rw[hl]at q1;injection q1 with q1;subst q1;obtain⟨cs,ty,q3⟩:=ZB q2 hx;subst hb;exact rG _ _ _ q3
 ·split at e
  ·cases e
  ·cases hc:c' k with
   |none=>exact hm.dp k hc
   |some y=>rw[hc]at e;cases e
 ·split at e
  ·rename_i y hy;injection e with e;subst e;exact .inl hy
  ·cases hc:c' k with
   |none=>rw[hc]at e;cases e
   |some y=>
    rw[hc]at e;injection e with e;obtain⟨lc,q,_⟩:=hm.born k y hc;exact .inr ⟨e.symm,lc,q⟩
theorem aIX(w:h_)(l:Nat)(a b:Go.Obj):(w.putObj l a).putObj l b=w.putObj l b:=by simp[World.putObj]
end
section
variable{P:j_}{W1:h_}{l g nb N D:Nat}{S:Nat->Prop}{m:Map}
structure GQ(P:j_)(g nb N:Nat)(ps:Array Tmp)(dZ dx:Code)(fr:aL)(Os Vs ck:aC)(ns:l_)(eg:ak)(j:Option Code):Prop where
 flat:∀ v∈eg,flat v=true
 len:eg.length=ps.size
 jL:∀ p∈ps,p<N
 Es:g<nb
 low:∀ k x,ah (Os++Vs) k=some x->k<nb/\k≠g/\fW nb x
 ZP:∀ k x,ah ck k=some x->∀ v∈x.cells,pF nb ns v=true
 own:∀ k x,ah Os k=some x->x.owns=true
 S7:∀ k x,ah ck k=some x->x.owns=true\/x=.dead
 view:∀ k x,ah Vs k=some x->x.soft=true
 keys:∀ k,ah ck k=none↔(ah Os k=none/\ns.contains k=false)
 new:∀ k,ns.contains k=true->nb<=k
 run:∃ rA rB:kR,(∀ B,ag P B N dZ (Jo (ps.toList.zip eg) fr) (Os++Vs) nb rA)/\rA.ex=.normal/\nb<=rA.next/\ah rA.M g=none/\
  (∀ B,ag P B N dx rA.fr rA.M rA.next rB)/\(∀ k x,ah ck k=some x->ah rB.M k=some x)/\S5 rB.ex=j
theorem S8{ps:Array Tmp}{dx:Code}{j:Option Code}(ax:GQ P g nb N ps dZ dx fr Os Vs ck ns eg j)
  {o:Oper} {x:m_} (ho:da o.op=some x) {T:p_} {cv:FuncId} (ob:Aw g N fr m T) :
  ct P (n9 W1 l S m) o (.func (.yield l) #[] #[]::eg) ((g,some (.fact (fe l (gj cv T ps dZ dx D))))::(ns.map (λk=>(k,none))++(Os++Vs).map (λp=>(p.1,some p.2)))) (.bool j.isNone)
   ((g,.fact (fe l (tQ (gj cv T ps dZ dx D) j)))::ck):=by
 intro R ι c a w hv hm hn K Q hK;obtain⟨rA,rB,hA,S9,Ta,Nq,hB,Tb,Tc⟩:=ax.run;have hg:c g=some (.fact (fe l (gj cv T ps dZ dx D))):=hn (g,_) (aN ..);have zu:∀ k,ns.contains k=true->c k=none:=λk hk=>hn (k,none) (bB _ (Jq _ (dq.2 ⟨k,by simpa using hk,rfl⟩)));have hL:cT c (Os++Vs):=S6 λp hp=>hn p (bB _ (List.mem_append_right _ hp));have hO:cT c Os:=λk x e=>hL k x (by rw[jh,e]);have Er:ah (Os++Vs) g=none:=by
  cases e:ah (Os++Vs) g with
  |none=>rfl
  |some x=>exact absurd rfl (ax.low _ _ e).2.1
 have hOg:ah Os g=none:=by
  rw[jh]at Er;cases e:ah Os g with
  |none=>rfl
  |some x=>rw[e]at Er;cases Er
 have hng:ns.contains g=false:=by
  cases e:ns.contains g with
  |false=>rfl
  |true=>have:=ax.new g e;have:=ax.Es;omega
 have aIY:ah ck g=none:=(ax.keys g).2 ⟨hOg,hng⟩;have hr:=Ep hm hg;obtain⟨S',ZQ⟩:∃ S':Nat->Prop,∀ b,S' b↔∃ k x o cap,ah Os k=some x/\ι k=some (.at b o cap):=⟨_,λb=>Iff.rfl⟩;obtain⟨dst,op,ty,pos,after,guard⟩:=o;dsimp only at ho hv;unfold da at ho;split at ho
 ·rename_i x' kC vH;injection ho with ho;subst ho;have xI:(Op.operands (.call ⟨.value x',kC,vH⟩)).toList=x'::kC.toList:=by simp[Op.operands,Call.operands]
  rw[xI]at hv;cases hv with
  |cons hx qS=>
  obtain⟨ju,gp,he,h1,h2⟩:=hx.zo;have ef:ju=#[]:=by
   cases oc:ju.toList with
   |nil=>exact GR.1 oc
   |cons _ _=>rw[oc]at h1;cases h1
  have ec:gp=#[]:=by
   cases oc:gp.toList with
   |nil=>exact GR.1 oc
   |cons _ _=>rw[oc]at h2;cases h2
  subst ef;subst ec;have aK:kC.toList.map a.eval=eg:=mD qS ax.flat;have e3:execOp a.eval ⟨dst,.call ⟨.value x',kC,vH⟩,ty,pos,after,guard⟩=Instr.yield l eg.toArray:=by
   have:execOp a.eval ⟨dst,.call ⟨.value x',kC,vH⟩,ty,pos,after,guard⟩=(do let d <-Deferred.ofValue (a.eval x') (kC.map a.eval);invoke d.target d.args):=rfl;rw[this,he,<-aK];have:kC.map a.eval=(kC.toList.map a.eval).toArray:=by apply Dr;simp
   rw[this];simp[Deferred.ofValue,invoke,go_sem]
  have hy:=run_yield (P:=P) (args:=eg.toArray) hr (by simpa[gj]using ax.len);have aIZ:((gj cv T ps dZ dx D).params.zip eg.toArray).foldl (λtmps (t,a)=>tmps.setIfInBounds t a) (gj cv T ps dZ dx D).tmps=(ps.toList.zip eg).foldl (λt p=>t.setIfInBounds p.1 p.2) T:=by rw[<-ZR];simp[gj]
  rw[aIZ]at hy;obtain⟨f1,f2⟩:=ZO (ps.toList.zip eg) ob.size ob.jL λp hp=>by have:=List.of_mem_zip hp;exact⟨ax.jL _ (by simpa using this.1),ax.flat _ this.2⟩
  refine⟨λ_ _=>trivial,?_⟩;rw[Lb _ _ _ n_,e3,hy,Oper.uponIn_round];refine⟨λe=>(by cases e),roundIn_of_wpIn trivial ?_⟩
  -- the aSz own memory
  obtain⟨Td,Jr,wF⟩:=aIV (S':=S') (next:=nb) hm hg ax.Es hL Er (λk x e=>⟨(ax.low k x e).1,(ax.low k x e).2.2⟩) (λk F e=>Nj ax.own ax.view e) (λk x b o cap e hx hb=>(ZQ b).2 ⟨k,x,o,cap,S2 ax.view e hx,hb⟩);have Js:=Jr g (.fact (fe l (gj cv T ps dZ dx D))) (by show(if Nat.beq g g then _ else _)=_;rw[aq (DH g)]);have ZS:∀ k,k≠g->ah ((g,Obj.fact (fe l (gj cv T ps dZ dx D)))::(Os++Vs)) k=ah (Os++Vs) k:=λk hk=>by show(if Nat.beq g k then _ else _)=_;rw[nM (lQ hk)];rfl
  have ZT:cT (qz c nb ((g,.fact (fe l (gj cv T ps dZ dx D)))::(Os++Vs))) (Os++Vs):=λk x e=>Jr k x (by rw[ZS k λh=>by subst h;rw[Er]at e;cases e];exact e);refine hA _ (some l) _ _ _ _ _ ⟨rfl,f1,λt=>(f2 t).mono λk lc e=>by rw[GN (lA (ob.low k lc e) ax.Es)];exact hm.qR k lc e⟩ Td ZT wF λbF fV a1 w1 iK gN cP dT du gE _=>?_;rw[S9];have sJ:fV g=some (.fact (fe l (gj cv T ps dZ dx D))):=(gE g ax.Es Er).trans Js;refine⟨_,run_beginRound (Ep cP sJ) rfl,?_⟩;have dz:=ZC (r':={ gj cv T ps dZ dx D with state:=.busy }) cP sJ;refine hB _ (some l) _ _ _ _ _ gN dz (λk x e=>?_) (λk hk=>?_) λdf qa a2 w2 ke _ uy Ax Te ZU _=>?_
  ·unfold aT;by_cases Cs:k=g
   ·subst Cs;rw[Nq]at e;cases e
   ·rw[al Cs];exact dT k x e
  ·unfold aT;rw[al (by have:=ax.Es;omega)];exact du k hk
  ·have ZV:qa g=some (.fact (fe l { gj cv T ps dZ dx D with state:=.busy })):=(ZU g (by have:=ax.Es;omega) Nq).trans (by unfold aT;rw[aq rfl]);have tS:=run_endRound (P:=P) j (Ep uy ZV);have Nr:∀ k,k<nb->∀ lc,df k=some lc->ι k=some lc:=ZN hm (L:=(g,.fact (fe l (gj cv T ps dZ dx D)))::(Os++Vs)) uy (iK.trans ke) (λk hk e=>by
    have Cs:k≠g:=λh=>by subst h;rw[Js]at e;cases e
    have q1:=(gE k hk (GO ZT e)).trans e;rw[ZU k (cy hk Ta) (GO dT q1)];unfold aT;rw[al Cs];exact q1) (λk x e=>by
    by_cases hk:k=g
    ·subst hk;simp[ah]at e;subst e;exact hg
    ·exact hL k x (by rw[<-ZS k hk];exact e))
   obtain⟨c5,Tf,hO5⟩:=aIW (g:=g) (ck:=ck) uy ZV hr (λk x e=>Ax k x (Tb k x e)) ax.S7;obtain⟨hle,hm6⟩:=ZJ (K:=nb) (ns:=ns) hm hO ax.own ax.S7 ax.keys zu (λb hb=>(ZQ b).1 hb) Tf hO5 Nr ax.ZP (λk x e=>(ax.low k x (by rw[jh,e])).1);have hg6:kP c ck g=some (.fact (fe l (gj cv T ps dZ dx D))):=by rw[vF,aIY];exact hg
   have ZW:=ZC (r':=tQ (gj cv T ps dZ dx D) j) hm6 hg6;rw[aIX]at ZW;have hm8:aI (n9 W1 l S m) (iT ι df ns) (kP c ((g,.fact (fe l (tQ (gj cv T ps dZ dx D) j)))::ck)) (w2.putObj l (.loop (tQ (gj cv T ps dZ dx D) j))):=by
    have e:kP c ((g,Obj.fact (fe l (tQ (gj cv T ps dZ dx D) j)))::ck)=aT (kP c ck) g (.fact (fe l (tQ (gj cv T ps dZ dx D) j))):=by
     funext k
     rw[vF];unfold aT;by_cases hk:k=g
     ·subst hk;rw[aq rfl];simp[ah]
     ·rw[al hk,vF];have:ah ((g,Obj.fact (fe l (tQ (gj cv T ps dZ dx D) j)))::ck) k=ah ck k:=by show(if Nat.beq g k then _ else _)=_;rw[nM (lQ hk)];rfl
      rw[this]
    rw[e];exact ZW
   have fin:=hK (iT ι df ns) (.bool j.isNone) _ hle (.same rfl) hm8;subst Tc;cases hx:rB.ex with
   |normal=>rw[hx]at tS fin;exact⟨_,_,tS,fin⟩
   |ret=>rw[hx]at tS fin;exact⟨_,_,tS,fin⟩
   |exit id=>rw[hx]at tS fin;exact⟨_,_,tS,fin⟩
 ·cases ho
end
end Go.Proofs.YthccllenbnhogaaGreatDoor
