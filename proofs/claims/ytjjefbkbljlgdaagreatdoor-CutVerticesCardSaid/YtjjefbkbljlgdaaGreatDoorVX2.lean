/- Vertices after a cut: the proof of CutVerticesCardSaid (the law's function answers true at every record and plane it can be given; theorem cutVertices_card, last part), part 2 of 7; no condition. -/
import Derived.Test.YtjjefbkbljlgdaaGreatDoorVX1
namespace Go.Proofs.YtjjefbkbljlgdaaGreatDoor
open Go Go.RowKit Tryz
section
variable{P:Program}{B:aa}{N:Nat}
theorem jG.aIX{uH bP dH:Map}{w0 w1:World}{l:po}{x:Obj}(h0:jG uH w0 l x)(h1:jG bP w1 l x)(vH:Map.le uH bP)(E7:Map.le uH dH):jG dH w1 l x:=by
 cases x with
 |aI cells ty=>
  obtain⟨b,cs,e1,e2,_⟩:=h0;obtain⟨b',bA,CX,CL,CM⟩:=h1;rw[ER CL (oe vH e2)]at CM;rw[e1]at CX;injection CX with CX _ _;subst CX;exact⟨b,cs,e1,oe E7 e2,CM⟩
 |row cells ty size=>
  rcases h0 with h0|⟨b,cap,cur,e1,e2,e3,e4,e5⟩
  ·exact .inl h0
  ·rcases h1 with h1|⟨b',aQ,fU,CX,CL,CM,e4',e5'⟩
   ·exact .inl h1
   ·refine .inr ⟨b',aQ,fU,CX,CL,CM,e4',?_⟩;rw[ER e5' (oe vH e5)];exact oe E7 e5
 |view cells=>
  rcases h0 with h0|⟨b,o,cap,cs,e1,e2,e3⟩
  ·exact .inl h0
  ·rcases h1 with h1|⟨b',o',aQ,bA,CX,CL,CM⟩
   ·exact .inl h1
   ·refine .inr ⟨b',o',aQ,bA,CX,?_,CM⟩;rw[ER CL (oe vH e2)];exact oe E7 e2
 |fact F=>exact h1
 |dead=>trivial
def lR(ι:Map)(next:Nat)(σ:List (Option Nat)):Map:=λk=>if k<next then ι k else match σ[k-next]? with
 |some (some m)=>ι m
 |some none=>some .nil
 |none=>none
def Bh(c0:Nat->Option Obj)(next:Nat)(X:List Obj):Nat->Option Obj:=λk=>if k<next then c0 k else X[k-next]?
def marks:Nat->List Obj->aH
 |_,[]=>[]
 |k,x::l=>(k,x)::marks (k+1) l
def dV:List (Option Nat)->List Obj->aH
 |some m::σ,x::l=>(m,x)::dV σ l
 |none::σ,_::l=>dV σ l
 |_,_=>[]
def Obj.isNil:Obj->Bool
 |.row [] _ _=>true
 |.view []=>true
 |_=>false
def xk(next:Nat)(σ:List (Option Nat)):Value->Value
 |.slice (some ad) n c=>if Nat.ble next ad.block&&nH ad then(match σ[ad.block-next]? with
   |some (some m)=>.slice (some ⟨m,ad.off,some 7⟩) n c
   |some none=>.slice none 0 0
   |none=>.slice (some ad) n c)else .slice (some ad) n c
 |v=>v
def Hf(next:Nat)(σ:List (Option Nat)):Value->Bool
 |.slice (some ad) n c=>if Nat.ble next ad.block&&nH ad then(match σ[ad.block-next]? with
   |some (some _)=>true
   |some none=>Nat.beq ad.off 0&&(Nat.beq n 0&&Nat.beq c 0)
   |none=>false)else nM next (.slice (some ad) n c)
 |v=>nM next v
def ij(next:Nat)(σ:List (Option Nat))(fr:aR):aR:=fr.map λp=>(p.1,xk next σ p.2)
theorem Kb{ι:Map}{next:Nat}{σ:List (Option Nat)}{k:Nat}(h:k<next):lR ι next σ k=ι k:=by unfold lR;rw[ax h]
theorem S0{ι:Map}{next:Nat}{σ:List (Option Nat)}{j m:Nat}(h:σ[j]?=some (some m)):lR ι next σ (next+j)=ι m:=by unfold lR;rw[au o_,E8,h]
theorem ZX{ι:Map}{next:Nat}{σ:List (Option Nat)}{j:Nat}(h:σ[j]?=some none):lR ι next σ (next+j)=some .nil:=by unfold lR;rw[au o_,E8,h]
theorem ZY{ι:Map}{next:Nat}{σ:List (Option Nat)}{v v':Value}(az:Hf next σ v=true)(h:aG ι (xk next σ v) v'):aG (lR ι next σ) v v':=by
 have low:∀ k,k<next->∀ l,ι k=some l->lR ι next σ k=some l:=λk hk l e=>by rw[Kb hk];exact e
 have gM:∀{v:Value},nM next v=true->aG ι v v'->aG (lR ι next σ) v v':=λhb h=>h.low low hb;cases v with
 |slice oa n c=>
  cases oa with
  |none=>exact gM az h
  |some ad=>
   unfold Hf at az;unfold xk at h;dsimp only at az h;split at az
   ·rename_i hc;rw[ax hc]at h;simp only[de]at hc;have dT:=rN hc.1;obtain⟨j,hj⟩:∃ j,ad.block=next+j:=⟨ad.block-next,by omega⟩;have xg:ad.block-next=j:=by omega
    rw[xg]at az h;have eta:=Cu hc.2;cases Hg:σ[j]? with
    |none=>rw[Hg]at az;cases az
    |some o=>
     cases o with
     |none=>
      rw[Hg]at az h;simp only[de]at az;have h1:=ki az.1;have h2:=ki az.2.1;have h3:=ki az.2.2;rw[h.eY rfl,eta,h1,h2,h3,hj];exact .slcN (ZX Hg)
     |some m=>
      rw[Hg]at h;dsimp only at h;rw[eta,hj];rcases h.iw rfl with ⟨q1,q2,q3,q4,q5⟩|⟨b,o,cap,c',q1,q2,q3,q5⟩
      ·dsimp only at q1 q4;rw[q5,q2,q3,q4];exact .slcN (by rw[S0 Hg];exact q1)
      ·dsimp only at q1 q5;rw[q5];exact .slc (by rw[S0 Hg];exact q1) q2 q3
   ·rename_i hc;rw[au hc]at h;exact gM az h
 |_=>exact gM az h
theorem S1:∀(X:List Obj) (next k:Nat),ah (marks next X) k=if k<next then none else X[k-next]?
 |[],next,k=>by unfold marks ah;split<;>simp
 |x::X,next,k=>by
  unfold marks ah;by_cases h:next=k
  ·subst h;have:Nat.beq next next=true:=EN next;rw[ax this,au (Nat.lt_irrefl _),vG];rfl
  ·rw[ou h];simp only[uI,uJ];rw[S1 X (next+1) k];by_cases h2:k<next
   ·rw[ax o_,ax h2]
   ·rw[au o_,au h2];obtain⟨d,rfl⟩:∃ d,k=next+1+d:=⟨k-next-1,by omega⟩;rw[E8,show next+1+d-next=d+1 by omega];rfl
theorem ZZ:∀{σ:List (Option Nat)} {X:List Obj} {j m:Nat} {x:Obj},σ[j]?=some (some m)->X[j]?=some x->(m,x)∈dV σ X
 |o::σ,y::X,0,m,x,h1,h2=>by simp at h1 h2;subst h1;subst h2;exact aU ..
 |o::σ,y::X,j+1,m,x,h1,h2=>by
  have:=ZZ (σ:=σ) (X:=X) (j:=j) (by simpa using h1) (by simpa using h2);cases o with
  |none=>exact this
  |some q=>exact bE _ this
 |[],_,j,m,x,h1,_=>by simp at h1
 |_::_,[],j,m,x,_,h2=>by simp at h2
structure Hh(M:aH)(next:Nat)(σ:List (Option Nat))(fr:aR)(F:aH)(X:List Obj):Prop where
 len:X.length=σ.length
 nodup:∀ i j m:Nat,σ[i]?=some (some m)->σ[j]?=some (some m)->i=j
 low:∀ i m:Nat,σ[i]?=some (some m)->m<next->ah F m=none/\ah M m≠none
 nil:∀(i:Nat) (x:Obj),σ[i]?=some none->X[i]?=some x->x.isNil=true
 jL:∀ p∈fr,Hf next σ p.2=true
 keys:∀ p∈F,p.1<next/\ah M p.1≠none
 aIY:∀ p∈F,eA next p.2
 news:∀ x∈X,eA next x
theorem rename{uH bP:Map}{c0 c1:Nat->Option Obj}{w0 w1:World}{M:aH}{next:Nat}{σ:List (Option Nat)}{fr:aR}{F:aH}{X:List Obj}(ok:Hh M next σ fr F X)
  (h0:aO B uH c0 w0) (CY:eM c0 next) (oO:cV c0 M) (vH:Map.le uH bP) (h1:aO B bP c1 w1) (hF:cV c1 F) (hX:∀ p∈dV σ X,c1 p.1=some p.2) (hk:∀ k,k<next->ah M k=none->c1 k=c0 k) :
  ∃ c2,Map.le uH (lR bP next σ)/\aO B (lR bP next σ) c2 w1/\cV c2 (F++marks next X)/\eM c2 (next+X.length)/\(∀ k,k<next->ah M k=none->c2 k=c0 k):=by
 have S2:∀ k l,uH k=some l->k<next:=λk l e=>by
  rcases eL k next with h|h
  ·exact h
  ·rw[h0.du k (CY k h)]at e;cases e
 have hle:Map.le uH (lR bP next σ):=λk l e=>by rw[Kb (S2 k l e)];exact vH k l e
 have low:∀ k,k<next->∀ l,bP k=some l->lR bP next σ k=some l:=λk hk l e=>by rw[Kb hk];exact e
 -- the objects
 let cl:Nat->Option Obj:=λk=>match ah F k with
  |some x=>some x
  |none=>match ah M k with
   |none=>c1 k
   |some _=>some .dead
 have iR:∀ k x,cl k=some x->(x=.dead/\ah M k≠none)\/(c1 k=some x/\(ah F k=some x\/(ah F k=none/\ah M k=none))):=by
  intro k x hx;have hx:(match ah F k with|some x=>some x|none=>match ah M k with|none=>c1 k|some _=>some Obj.dead)=some x:=hx;cases hf:ah F k with
  |some y=>rw[hf]at hx;injection hx with hx;subst hx;exact .inr ⟨hF k y hf,.inl rfl⟩
  |none=>
   rw[hf]at hx;dsimp only at hx;cases hm:ah M k with
   |none=>rw[hm]at hx;exact .inr ⟨hx,.inr ⟨rfl,rfl⟩⟩
   |some y=>rw[hm]at hx;injection hx with hx;exact .inl ⟨hx.symm,λe=>by cases e⟩
 have aIZ:∀(j:Nat) (x:Obj),X[j]?=some x->(σ[j]?=some none/\x.isNil=true)\/∃ m,σ[j]?=some (some m)/\c1 m=some x:=by
  intro j x hx;have hj:j<σ.length:=by rw[<-ok.len];exact(eh.1 hx).1
  cases hs:σ[j]? with
  |none=>rw[Z0]at hs;omega
  |some o=>
   cases o with
   |none=>exact .inl ⟨rfl,ok.nil j x hs hx⟩
   |some m=>exact .inr ⟨m,rfl,hX _ (ZZ hs hx)⟩
 -- where a mark that is not dead comes from
 have src:∀ k x,Bh cl next X k=some x->(x=.dead/\k<next/\ah M k≠none)\/(x.isNil=true/\lR bP next σ k=some .nil/\¬k<next)\/
   ∃ m,c1 m=some x/\lR bP next σ k=bP m/\((k<next/\m=k/\(ah F k=some x\/(ah F k=none/\ah M k=none)))\/(¬k<next/\σ[k-next]?=some (some m)/\X[k-next]?=some x)):=by
  intro k x hx;unfold Bh at hx;split at hx
  ·rename_i ak;rcases iR k x hx with h|⟨h1,h2⟩
   ·exact .inl ⟨h.1,ak,h.2⟩
   ·exact .inr (.inr ⟨k,h1,Kb ak,.inl ⟨ak,rfl,h2⟩⟩)
  ·rename_i dT;obtain⟨j,rfl⟩:∃ j,k=next+j:=⟨k-next,by omega⟩;rw[E8]at hx ⊢;rcases aIZ j x hx with ⟨h1,h2⟩|⟨m,h1,h2⟩
   ·exact .inr (.inl ⟨h2,ZX h1,dT⟩)
   ·exact .inr (.inr ⟨m,h2,S0 h1,.inr ⟨dT,h1,hx⟩⟩)
 have aVw:∀{x:Obj},x.isNil=true->∀ b o cap,lR bP next σ=lR bP next σ->(some po.nil:Option po)=some (.at b o cap)->False:=λ_ b o cap _ e=>by cases e
 -- an owner comes from an owner
 have own:∀ k x b o cap,Bh cl next X k=some x->x.owns=true->lR bP next σ k=some (.at b o cap)->∃ m,c1 m=some x/\bP m=some (.at b o cap)/\((k<next/\m=k/\(ah F k=some x\/(ah F k=none/\ah M k=none)))\/(¬k<next/\σ[k-next]?=some (some m)/\X[k-next]?=some x)):=by
  intro k x b o cap hx ho hl;rcases src k x hx with ⟨rfl,_⟩|⟨_,h,_⟩|⟨m,h1,h2,h3⟩
  ·cases ho
  ·rw[h]at hl;cases hl
  ·exact⟨m,h1,by rw[<-h2];exact hl,h3⟩
 have view:∀ k x b o cap,Bh cl next X k=some x->x.gw=true->lR bP next σ k=some (.at b o cap)->∃ m,c1 m=some x/\bP m=some (.at b o cap):=by
  intro k x b o cap hx ho hl;rcases src k x hx with ⟨rfl,_⟩|⟨_,h,_⟩|⟨m,h1,h2,h3⟩
  ·cases ho
  ·rw[h]at hl;cases hl
  ·exact⟨m,h1,by rw[<-h2];exact hl⟩
 refine⟨Bh cl next X,hle,⟨h1.base,?_,?_,?_,?_,?_,?_,?_,?_,h0.oL.trans hle⟩,?_,?_,?_⟩
 ·intro k hk;unfold Bh at hk;split at hk
  ·rename_i ak;rw[Kb ak];have hk:(match ah F k with|some x=>some x|none=>match ah M k with|none=>c1 k|some _=>some Obj.dead)=none:=hk;cases hf:ah F k with
   |some y=>rw[hf]at hk;cases hk
   |none=>
    rw[hf]at hk;dsimp only at hk;cases hm:ah M k with
    |none=>rw[hm]at hk;exact h1.du k hk
    |some y=>rw[hm]at hk;cases hk
  ·rename_i dT;unfold lR;rw[au dT];have:σ[k-next]?=none:=by rw[Z0]at hk ⊢;rw[<-ok.len];exact hk
   rw[this]
 ·intro k x hx;rcases src k x hx with ⟨rfl,ak,hM⟩|⟨hn,h,_⟩|⟨m,q1,q2,q3⟩
  ·cases hm:ah M k with
   |none=>exact absurd hm hM
   |some y=>
    obtain⟨l,e1,_⟩:=h0.born k y (oO k y hm);exact⟨l,hle k l e1,trivial⟩
  ·refine⟨.nil,h,?_⟩;cases x with
   |row cells ty size=>cases cells with
    |nil=>exact .inl ⟨rfl,rfl⟩
    |cons _ _=>cases hn
   |view cells=>cases cells with
    |nil=>exact .inl ⟨rfl,rfl⟩
    |cons _ _=>cases hn
   |_=>cases hn
  ·obtain⟨l,e1,e2⟩:=h1.born m x q1;refine⟨l,by rw[q2];exact e1,?_⟩;rcases q3 with ⟨ak,rfl,h|⟨hf,hm⟩⟩|⟨dT,hs,sn⟩
   ·exact e2.below low (ok.aIY _ (kj h))
   ·have e:=hk m ak hm;rw[q1]at e;obtain⟨l',f1,f2⟩:=h0.born m x e.symm;have:=vH m l' f1;rw[e1]at this;injection this with this;subst this;exact f2.aIX e2 vH hle
   ·exact e2.below low (ok.news _ (cJ sn))
 ·intro k x b o cap hx ho hl;obtain⟨m,q1,q2,_⟩:=own k x b o cap hx ho hl;exact h1.own m x b o cap q1 ho q2
 ·intro k j x y b o cap o' aQ hx Es hy Ey hl cv;obtain⟨m,q1,q2,q3⟩:=own k x b o cap hx Es hl;obtain⟨m',qH,Bi,lS⟩:=own j y b o' aQ hy Ey cv;have e:=h1.inj m m' x y b o cap o' aQ q1 Es qH Ey q2 Bi;subst e;have Kc:∀ k j x y,(k<next/\m=k/\(ah F k=some x\/(ah F k=none/\ah M k=none)))->(¬j<next/\σ[j-next]?=some (some m)/\X[j-next]?=some y)->False:=by
   rintro k j x y ⟨ak,rfl,h⟩ ⟨_,hs,_⟩
   obtain⟨p1,p2⟩:=ok.low _ _ hs ak;rcases h with h|h
   ·rw[p1]at h;cases h
   ·exact p2 h.2
  rcases q3 with q3|q3<;>rcases lS with lS|lS
  ·rw[<-q3.2.1,lS.2.1]
  ·exact(Kc _ _ _ _ q3 lS).elim
  ·exact(Kc _ _ _ _ lS q3).elim
  ·have:=ok.nodup _ _ _ q3.2.1 lS.2.1;have:=q3.1;have:=lS.1;omega
 ·intro k j x F' b o cap v hx Es hl hj hv hf;obtain⟨m,q1,q2,_⟩:=own k x b o cap hx Es hl;rcases src j (.fact F') hj with ⟨e,_⟩|⟨hn,_⟩|⟨m',p1,p2,_⟩
  ·cases e
  ·cases hn
  ·exact h1.apart m m' x F' b o cap v q1 Es q2 p1 (by rw[<-p2];exact hv) hf
 ·intro k x b o cap hx Kd hl;obtain⟨m,q1,q2⟩:=view k x b o cap hx Kd hl;obtain⟨p1,p2⟩:=h1.seen m x b o cap q1 Kd q2;refine⟨p1,λj y o' aQ hy Ey hj=>?_⟩;obtain⟨m',s1,s2,_⟩:=own j y b o' aQ hy Ey hj;exact p2 m' y o' aQ s1 Ey s2
 ·intro j F' hj;rcases src j (.fact F') hj with ⟨e,_⟩|⟨hn,_⟩|⟨m',p1,_,_⟩
  ·cases e
  ·cases hn
  ·exact h1.fa m' F' p1
 ·intro k j F' Z1 hx hy hr tn;rcases src k (.fact F') hx with ⟨e,_⟩|⟨hn,_⟩|⟨m,q1,q2,q3⟩
  ·cases e
  ·cases hn
  rcases src j (.fact Z1) hy with ⟨e,_⟩|⟨hn,_⟩|⟨m',qH,Bi,lS⟩
  ·cases e
  ·cases hn
  have e:=h1.one m m' F' Z1 q1 qH hr tn;subst e;have Kc:∀ k j x y,(k<next/\m=k/\(ah F k=some x\/(ah F k=none/\ah M k=none)))->(¬j<next/\σ[j-next]?=some (some m)/\X[j-next]?=some y)->False:=by
   rintro k j x y ⟨ak,rfl,h⟩ ⟨_,hs,_⟩
   obtain⟨p1,p2⟩:=ok.low _ _ hs ak;rcases h with h|h
   ·rw[p1]at h;cases h
   ·exact p2 h.2
  rcases q3 with q3|q3<;>rcases lS with lS|lS
  ·rw[<-q3.2.1,lS.2.1]
  ·exact(Kc _ _ _ _ q3 lS).elim
  ·exact(Kc _ _ _ _ lS q3).elim
  ·have:=ok.nodup _ _ _ q3.2.1 lS.2.1;have:=q3.1;have:=lS.1;omega
 ·intro k x hx;rw[gZ]at hx;unfold Bh;cases hf:ah F k with
  |some y=>
   rw[hf]at hx;injection hx with hx;subst hx;have ak:=(ok.keys _ (kj hf)).1;dsimp only at ak;rw[ax ak];show(match ah F k with|some x=>some x|none=>match ah M k with|none=>c1 k|some _=>some Obj.dead)=some y;rw[hf]
  |none=>
   rw[hf]at hx;dsimp only at hx;rw[S1]at hx;by_cases ak:k<next
   ·rw[ax ak]at hx;cases hx
   ·rw[au ak]at hx ⊢;exact hx
 ·intro k gO;unfold Bh;rw[au o_,Z0];omega
 ·intro k ak hm;unfold Bh;rw[ax ak];show(match ah F k with|some x=>some x|none=>match ah M k with|none=>c1 k|some _=>some Obj.dead)=c0 k;cases hf:ah F k with
  |some y=>exact absurd hm (ok.keys _ (kj hf)).2
  |none=>rw[hm];exact hk k ak hm
theorem aI0{ι:Map}{A5 fr:aR}{a:Act}{next:Nat}{σ:List (Option Nat)}(hf:fp B ι (bH A5) N a)(az:∀ p∈fr,Hf next σ p.2=true)(h:∀ p∈ij next σ fr,bH A5 p.1=p.2)(Bj:∀ p∈fr,mf (xk next σ p.2)=false):
  fp B (lR ι next σ) (bH fr) N a:=by
 refine⟨hf.defers,hf.size,λt=>?_⟩;have key:∀(l:aR),(∀ p∈l,p∈fr)->nI (lR ι next σ) (bH l t) (a.tmps.getD t undef):=by
  intro l;induction l with
  |nil=>intro _;exact .inl rfl
  |cons p l ih=>
   intro hl;obtain⟨s,v⟩:=p;show nI _ (if Nat.beq s t then v else bH l t) _;by_cases hs:Nat.beq s t=true
   ·rw[ax hs];have hm:=hl _ (aU ..);have h1:=h (s,xk next σ v) (di.2 ⟨(s,v),hm,rfl⟩);dsimp only at h1;have e:=ki hs;subst e;have h2:=hf.slot s;rw[h1]at h2;exact .inr (ZY (az _ hm) (h2.AO (Bj _ hm)))
   ·rw[au hs];exact ih λq hq=>hl q (bE _ hq)
 exact key fr λ_ h=>h
theorem S3:∀{σ:List (Option Nat)} {X:List Obj} {m:Nat} {x:Obj},(∀ i j m:Nat,σ[i]?=some (some m)->σ[j]?=some (some m)->i=j)->(m,x)∈dV σ X->ah (dV σ X) m=some x
 |[],_,m,x,_,h=>by simp[dV]at h
 |none::_,[],m,x,_,h=>by simp[dV]at h
 |some _::_,[],m,x,_,h=>by simp[dV]at h
 |none::σ,y::X,m,x,hn,h=>S3 (σ:=σ) (X:=X) (λi j m h1 h2=>by have:=hn (i+1) (j+1) m (by simpa using h1) (by simpa using h2);omega) h
 |some q::σ,y::X,m,x,hn,h=>by
  have mw:∀ i j m:Nat,σ[i]?=some (some m)->σ[j]?=some (some m)->i=j:=λi j m h1 h2=>by have:=hn (i+1) (j+1) m (by simpa using h1) (by simpa using h2);omega
  show(if Nat.beq q m then some y else ah (dV σ X) m)=some x;rcases ch.1 h with e|h'
  ·injection e with e1 e2;subst e1;subst e2;rw[ax (EN m)]
  ·have aV:q≠m:=by
    rintro rfl
    have idx:∀{σ:List (Option Nat)} {X:List Obj},(q,x)∈dV σ X->∃ j:Nat,σ[j]?=some (some q):=by
     intro σ;induction σ with
     |nil=>intro X h;simp[dV]at h
     |cons o σ ih=>
      intro X h;cases X with
      |nil=>cases o<;>simp[dV]at h
      |cons z X=>
       cases o with
       |none=>obtain⟨j,hj⟩:=ih (X:=X) h;exact⟨j+1,by simpa using hj⟩
       |some t=>
        rcases ch.1 h with e|h
        ·injection e with e1 _;exact⟨0,by simp[e1]⟩
        ·obtain⟨j,hj⟩:=ih (X:=X) h;exact⟨j+1,by simpa using hj⟩
    obtain⟨j,hj⟩:=idx h';have:=hn 0 (j+1) q s_ (by simpa using hj);omega
   rw[ou aV];simp only[uI,uJ];exact S3 mw h'
theorem S4:∀{σ:List (Option Nat)} {X:List Obj} {m:Nat} {x:Obj},(m,x)∈dV σ X->∃ j:Nat,σ[j]?=some (some m)
 |[],_,_,_,h=>by simp[dV]at h
 |none::_,[],_,_,h=>by simp[dV]at h
 |some _::_,[],_,_,h=>by simp[dV]at h
 |none::σ,_::X,_,_,h=>by obtain⟨j,hj⟩:=S4 (σ:=σ) (X:=X) h;exact⟨j+1,by simpa using hj⟩
 |some t::σ,_::X,m,x,h=>by
  rcases ch.1 h with e|h
  ·injection e with e1 _;exact⟨0,by simp[e1]⟩
  ·obtain⟨j,hj⟩:=S4 (σ:=σ) (X:=X) h;exact⟨j+1,by simpa using hj⟩
theorem Hh.Z2{M:aH}{next:Nat}{σ:List (Option Nat)}{fr:aR}{F:aH}{X:List Obj}(ok:Hh M next σ fr F X){c:Nat->Option Obj}(h:cV c (F++dV σ X)):
  cV c F/\∀ p∈dV σ X,c p.1=some p.2:=by
 refine⟨λk x hx=>h k x (by rw[gZ,hx]),λp hp=>?_⟩;obtain⟨m,x⟩:=p;have hf:ah F m=none:=by
  obtain⟨j,hj⟩:=S4 hp;rcases eL m next with ak|dT
  ·exact(ok.low j m hj ak).1
  ·cases hF:ah F m with
   |none=>rfl
   |some y=>have:=(ok.keys _ (kj hF)).1;dsimp only at this;omega
 exact h m x (by rw[gZ,hf];exact S3 ok.nodup hp)
theorem aI1{ι:Map}{fr:aR}{a:Act}{next:Nat}{σ:List (Option Nat)}(hf:fp B ι (bH (ij next σ fr)) N a)(az:∀ p∈fr,Hf next σ p.2=true)(Bj:∀ p∈fr,mf (xk next σ p.2)=false):
  fp B (lR ι next σ) (bH fr) N a:=by
 refine⟨hf.defers,hf.size,λt=>?_⟩;have key:∀(l:aR),(∀ p∈l,p∈fr)->nI ι (bH (ij next σ l) t) (a.tmps.getD t undef)->nI (lR ι next σ) (bH l t) (a.tmps.getD t undef):=by
  intro l;induction l with
  |nil=>intro _ _;exact .inl rfl
  |cons p l ih=>
   intro hl h;obtain⟨s,v⟩:=p;have h:nI ι (if Nat.beq s t then xk next σ v else bH (ij next σ l) t) (a.tmps.getD t undef):=h;show nI _ (if Nat.beq s t then v else bH l t) _;by_cases hs:Nat.beq s t=true
   ·rw[ax hs]at h ⊢;have hm:=hl _ (aU ..);exact .inr (ZY (az _ hm) (h.AO (Bj _ hm)))
   ·rw[au hs]at h ⊢;exact ih (λq hq=>hl q (bE _ hq)) h
 exact key fr (λ_ h=>h) (hf.slot t)
theorem aI2{b:Code}{fr:aR}{M:aH}{next p:Nat}{r:mz}(n:Nat)(I:Nat->aR)(F:Nat->aH)(X:Nat->List Obj)(hp:∀ i,i<=n->(X i).length=p)
  (start:∃ σ,Hh M next σ (I 0) (F 0) (X 0)/\(∀ q∈I 0,mf (xk next σ q.2)=false)/\(∀ q∈ij next σ (I 0),bH fr q.1=q.2)/\(∀ k x,ah (F 0++dV σ (X 0)) k=some x->ah M k=some x))
  (body:∀ i,i<n->∃ σ ft,Hh M next σ (I (i+1)) (F (i+1)) (X (i+1))/\(∀ q∈I (i+1),mf (xk next σ q.2)=false)/\ag P B N b (I i) (F i++marks next (X i)) (next+p) ⟨.normal,ij next σ (I (i+1)),F (i+1)++dV σ (X (i+1)),ft⟩)
  (last:ag P B N b (I n) (F n++marks next (X n)) (next+p) r) (hr:r.ex≠.normal):ag P B N (.loop b) fr M next r:=by
 intro R uH c0 a0 w0 Q EM kP oO CY hQ;refine Sq (n+1) ?_;have key:∀ d i,i+d=n->∀(bP:Map) (c1:Nat->Option Obj) (a1:Act) (w1:World),Map.le uH bP->fp B bP (bH (I i)) N a1->aO B bP c1 w1->cV c1 (F i++marks next (X i))->eM c1 (next+p)->
   (∀ k,k<next->ah M k=none->ah (F i) k=none)->(∀ k,k<next->ah M k=none->c1 k=c0 k)->
   (∀ t,uz (.loop b) t=false->a1.tmps.getD t undef=a0.tmps.getD t undef)->Code.roundsIn (FW R) 0 P b Q (d+1) a1 w1:=by
  have uy:∀(i k:Nat),k<next->ah M k=none->ah (F i) k=none->ah (F i++marks next (X i)) k=none:=λi k hk _ hf=>by rw[gZ,hf];dsimp only;rw[S1,ax hk]
  intro d;induction d with
  |zero=>
   intro i hi bP c1 a1 w1 jy iT c7 eG dR S5 iC jZ;have:i=n:=by omega
   subst this;rw[EO];refine last R bP c1 a1 w1 _ iT c7 eG dR λdH c2 a2 w2 lk jt dC iA fD fN rT=>?_;have:=hQ dH c2 a2 w2 (jy.trans lk) jt dC iA fD (λk hk h0=>(fN k o_ (uy i k hk h0 (S5 k hk h0))).trans (iC k hk h0)) λt ht=>(rT t ht).trans (jZ t ht);show Exit.then _ Q r.ex.AY a2 w2;cases hx:r.ex with
   |normal=>exact absurd hx hr
   |exit id=>rw[hx]at this;exact this
   |ret=>rw[hx]at this;exact this
  |succ d ih=>
   intro i hi bP c1 a1 w1 jy iT c7 eG dR S5 iC jZ;rw[EO];obtain⟨σ,ft,ok,Bj,hb⟩:=body i o_;refine hb R bP c1 a1 w1 _ iT c7 eG dR λdH c2 a2 w2 lk jt dC iA fD fN rT=>?_;obtain⟨q1,q2⟩:=ok.Z2 iA;have gO:∀ k,k<next->ah M k=none->c2 k=c0 k:=λk hk h0=>(fN k o_ (uy i k hk h0 (S5 k hk h0))).trans (iC k hk h0);obtain⟨c3,e1,e2,e3,e4,e5⟩:=rename ok kP CY oO (jy.trans lk) dC q1 q2 gO;rw[hp (i+1) o_]at e4;refine ih (i+1) o_ _ c3 a2 w2 e1 (aI1 jt ok.jL Bj) e2 e3 e4 (λk hk h0=>?_) e5 λt ht=>(rT t ht).trans (jZ t ht);cases hF:ah (F (i+1)) k with
   |none=>rfl
   |some y=>exact absurd h0 (ok.keys _ (kj hF)).2
 obtain⟨σ,ok,Bj,mS,hM⟩:=start;obtain⟨q1,q2⟩:=ok.Z2 (c:=c0) λk x hx=>oO k x (hM k x hx);obtain⟨c3,e1,e2,e3,e4,e5⟩:=rename ok kP CY oO (Map.le.refl _) kP q1 q2 (λ_ _ _=>rfl);rw[hp 0 o_]at e4;refine key n 0 o_ _ c3 a0 w0 e1 (aI0 EM ok.jL mS Bj) e2 e3 e4 (λk hk h0=>?_) e5 λ_ _=>rfl;cases hF:ah (F 0) k with
 |none=>rfl
 |some y=>exact absurd h0 (ok.keys _ (kj hF)).2
end
def gH(n a:Nat):List UInt8:=(List.range n).map λi=>UInt8.ofNat (a/256^(n-1-i)%256)
theorem Ke(n a:Nat):(gH n a).length=n:=by simp[gH]
theorem xl(n a:Nat):gH (n+1) a=UInt8.ofNat (a/256^n%256)::gH n a:=by
 unfold gH;rw[List.range_succ_eq_map,qO,S6]
 congr 1
 refine yM λi hi=>?_;have hi:=kA.1 hi;show UInt8.ofNat (a/256^(n+1-1-(i+1))%256)=_;rw[show n+1-1-(i+1)=n-1-i by omega]
theorem ND(a:Nat):gH 0 a=[]:=rfl
theorem Z3(n a m:Nat)(h:n<=m):gH n (a%256^m)=gH n a:=by
 unfold gH;refine yM λi hi=>?_;have hi:=kA.1 hi
 congr 1
 obtain⟨s,hs⟩:∃ s,m=(n-1-i)+1+s:=⟨m-(n-1-i)-1,by omega⟩;have e:256^m=256^(n-1-i)*(256*256^s):=by rw[hs,eD,dy,fO]
 rw[e,Bd,J5]
theorem Z4(m n a:Nat):gH (m+n) a=gH m (a/256^n)++gH n a:=by
 induction m with
 |zero=>simp[ND]
 |succ m ih=>
  rw[show m+1+n=(m+n)+1 by omega,xl,xl,ih,E9,kQ,<-eD,mW n m]
theorem aI3(n a:Nat):fY (gH n a)=a%256^n:=by
 induction n with
 |zero=>simp[ND,fY,tB]
 |succ n ih=>
  rw[xl,J4,ih,Ke];have h1:(UInt8.ofNat (a/256^n%256)).toNat=a/256^n%256:=by rw[NF];exact dK (cL _ d_)
  rw[h1,dy,Ng,cS (256^n),mW]
def cq(a:Nat):List UInt8:=gH (nd 256 a) a
theorem Fb(a:Nat):fY (cq a)=a:=by unfold cq;rw[aI3,dK (dU d_ a)]
theorem CZ:cq 0=[]:=by unfold cq;rw[pw];rfl
theorem tE(a:Nat):(cq a).length=nd 256 a:=Ke _ _
theorem aI4{a:Nat}:cq a=[]↔a=0:=by
 constructor
 ·intro h;have:=Fb a;rw[h]at this;exact this.symm
 ·rintro rfl;exact CZ
theorem aI5{a b:Nat}(h:cq a=cq b):a=b:=by rw[<-Fb a,h,Fb]
theorem NG{a:Nat}(h:a≠0):∃ c l,cq a=c::l/\c≠0:=by
 have hp:=uF (B:=256) d_ h;obtain⟨n,hn⟩:∃ n,nd 256 a=n+1:=⟨nd 256 a-1,by omega⟩;have ak:=dU (B:=256) d_ a;rw[hn]at ak;refine⟨_,_,by unfold cq;rw[hn,xl],λe=>?_⟩;have h1:(UInt8.ofNat (a/256^n%256)).toNat=a/256^n%256:=by rw[NF];exact dK (cL _ d_)
 rw[e]at h1;have h2:a<256^n:=(G1 d_ ak).1 h1.symm;have:=jl (B:=256) d_ h2;omega
theorem aI6(k:Nat)(l:List UInt8):jP (List.replicate k 0++l)=k+jP l:=by
 induction k with
 |zero=>simp
 |succ k ih=>
  have e:jP (0::(List.replicate k 0++l))=jP (List.replicate k 0++l)+1:=rfl;rw[List.replicate_succ,E9,e,ih];omega
theorem Z5{n k a:Nat}(h:a<256^n):gH (k+n) a=List.replicate k 0++gH n a:=by
 rw[Z4,mA h]
 congr 1
 induction k with
 |zero=>rfl
 |succ k ih=>rw[xl,ih,List.replicate_succ,Nat.zero_div];rfl
theorem aI7{n a:Nat}(h:a<256^n):J7 (gH n a)=cq a:=by
 have hle:=jl (B:=256) d_ h;obtain⟨k,hk⟩:∃ k,n=k+nd 256 a:=⟨n-nd 256 a,by omega⟩;have hz:jP (gH (nd 256 a) a)=0:=by
  by_cases h0:a=0
  ·subst h0;rw[pw];rfl
  ·obtain⟨c,l,e,hc⟩:=NG h0;unfold cq at e;rw[e];unfold jP;rw[au hc]
 unfold J7;rw[hk,Z5 (dU d_ a),aI6,hz,jv,List.drop_append_of_le_length s_];simp[cq]
theorem Z6{c:UInt8}{l:List UInt8}(h:c≠0):256^l.length<=fY (c::l):=by
 rw[J4];have:1<=c.toNat:=by
  rcases oy c.toNat with e|e
  ·exact absurd (Ny.1 (by rw[e];rfl)) h
  ·exact e
 have:=fo (256^l.length) this;omega
theorem aI8{l:List UInt8}(h:∀ c r,l=c::r->c≠0):cq (fY l)=l:=by
 have hlen:nd 256 (fY l)=l.length:=by
  refine Z7 (jl d_ (Bc l)) ?_;cases l with
  |nil=>simp
  |cons c r=>
   have h1:=Z6 (l:=r) (h c r rfl);rcases eL (nd 256 (fY (c::r))) (r.length+1)with h2|h2
   ·have h3:=dU (B:=256) d_ (fY (c::r));have h4:256^nd 256 (fY (c::r))<=256^r.length:=c9 d_ o_;omega
   ·exact h2
 unfold cq;rw[hlen];clear hlen h;induction l with
 |nil=>rfl
 |cons c r ih=>
  have hv:=Bc r;have hp:0<256^r.length:=cK d_;rw[oM,xl,J4]
  congr 1
  ·rw[mW,pA _ _ hp,mA hv,kh];have hc:c.toNat<256:=c.toNat_lt;rw[dK hc];simp
  ·rw[<-Z3 _ _ _ (bt r.length),mW,C0,dK hv,ih]
theorem aI9(d:Nat):gH 4 d=[UInt8.ofNat (d/16777216%256),UInt8.ofNat (d/65536%256),UInt8.ofNat (d/256%256),UInt8.ofNat (d%256)]:=by rw[xl,xl,xl,xl,ND];simp
section
variable{P:Program}{B:aa}{N:Nat}
def aX.mkc(fn:Func)(key k cp e size bytes:Nat)(z:Value)(hb:bytes*cp<=281474976710656)(hn:cp<=maxLen)(ho:Nc P (av fn key)=some (e,size,bytes,z)):aX P B N:=
 .step key (av fn key) [vI 0,vI cp] [(k,none)] (.slice (some ⟨k,0,some 7⟩) 0 0) [(k,.row [] e size)] (by
  unfold Nc at ho;split at ho
  ·rename_i t a b bW;split at ho
   ·rename_i e' ht;split at ho
    ·rename_i i hi;split at ho
     ·rename_i z' oj;injection ho with ho;injection ho with h1 ho;injection ho with h2 ho;injection ho with h3 h4;subst h1;subst h4;have:=Yt (P:=P) (B:=B) bW ht hi oj (kl:=.i64) (kc:=.i64) (l:=0) (cp:=cp) (lh _) (by rw[h3];exact hb) hn (cells:=[]) (by rw[lN,Z8]) s_ n_ k;rw[h2]at this;exact this.step
     ·cases ho
    ·cases ho
   ·cases ho
  ·cases ho)
def aX.pB(fn:Func)(key k j n m nm e size bytes:Nat)(cells:aj)(q:Nat)(x:Obj)(new:aj)(lL:n+m=nm)(hx:x.reads=true)(hlen:x.cells.length=m*size)(jk:cells.length=n*size)(lg:cells++x.cells=new)
  (h1:∀ v∈x.cells,v.oneCell'=true) (bw:0<size) (h63:nm<=maxLen) (hb:nm*bytes<=140737488355328) (ho:E6 P (av fn key)=some (e,size,bytes,size,true)):aX P B N:=
 .step key (av fn key) [.slice (some ⟨j,0,some 7⟩) n 0,.slice (some ⟨q,0,some 7⟩) m 0] [(k,none),(j,some (.row cells e size)),(q,some x)] (.slice (some ⟨k,0,some 7⟩) nm 0) [(k,.row new e size),(j,.dead)] (by
  subst lL;have hs:Cs B (.slice (some ⟨q,0,some 7⟩) m 0) m x.cells [(q,some x)]:=by have:=MA (B:=B) (k:=q) (off:=0) (m:=m) (cc:=0) hx (len:=m*size) (λh=>by rw[h,lN]);rw[mB,kB (vn hlen)]at this;exact this
  have:=ZT (B:=B) ho bw hs hlen h1 (j:=j) (n:=n) (cells:=cells) (vn jk.symm) h63 hb k;rw[kB (vn jk),lg]at this;exact this)
def gS(l:List UInt8):aj:=l.map λc=>.int .u8 (c.toNat:Int)
theorem aJa(l:List UInt8):∀ u∈gS l,flat u=true:=λu hu=>by obtain⟨x,_,rfl⟩:=di.1 hu;rfl
theorem Z9(l:List UInt8):∀ acc:List UInt8,(l.map λc=>(c.toNat:Int)).foldl (λ(r:ByteArray) (n:Int)=>r.push (UInt8.ofNat n.toNat)) (BA acc)=BA (acc++l):=by
 induction l with
 |nil=>intro acc;simp
 |cons c l ih=>
  intro acc;rw[qO,vA];have e:(BA acc).push (UInt8.ofNat ((c.toNat:Int)).toNat)=BA (acc++[c]):=by unfold BA;simp[ByteArray.push]
  rw[e,ih,EL];rfl
def NH(P:Program)(o:Oper):Bool:=match o.op with
 |.convert src dst _=>match P.underlying src,P.underlying dst with
  |some (.slice e),some .string=>(match P.underlying e with|some (.int .u8)=>true|_=>false)
  |_,_=>false
 |_=>false
def aX.S7(fn:Func)(key k n:Nat)(l:List UInt8)(x:Obj)(hx:x.reads=true)(hc:x.cells=gS l)(hn:l.length=n)(ho:NH P (av fn key)=true):aX P B N:=
 .step key (av fn key) [.slice (some ⟨k,0,some 7⟩) n 0] [(k,some x)] (.string (BA l)) [] (by
  unfold NH at ho;split at ho
  ·rename_i src dst y bW;split at ho
   ·rename_i e hs hd;split at ho
    ·rename_i he;have:=Yv (P:=P) (B:=B) bW hs he hd (k:=k) (off:=0) (n:=n) (cc:=0) (y:=x) (ns:=l.map λc=>(c.toNat:Int)) hx (by rw[hc,mB,kB (by simp[gS,hn])];simp[gS,Function.comp_def]) (by simpa using hn)
     have e2:=Z9 l [];rw[jw]at e2;rw[show ByteArray.empty=BA []from rfl,e2]at this;exact this.step
    ·cases ho
   ·cases ho
  ·cases ho)
end
section
variable{P:Program}{B:aa}{N:Nat}
theorem Hi{m:Nat}{x:Obj}(h:∀ u∈x.cells,flat u=true):eA m x:=λu hu=>gQ (h u hu)
def Hj:List (Option Nat)->Bool
 |[]=>true
 |none::l=>Hj l
 |some m::l=>(l.all λo=>match o with|some k=>!Nat.beq m k|none=>true)&&Hj l
theorem aAa:∀{σ:List (Option Nat)},Hj σ=true->∀ i j m:Nat,σ[i]?=some (some m)->σ[j]?=some (some m)->i=j
 |[],_,i,j,m,h,_=>by simp at h
 |o::l,h,i,j,m,h1,h2=>by
  have hl:Hj l=true/\∀ k,o=some k->∀ j:Nat,l[j]?≠some (some k):=by
   cases o with
   |none=>exact⟨h,λk e=>by cases e⟩
   |some q=>
    simp only[Hj,de,bh]at h;refine⟨h.2,λk e j hj=>?_⟩;injection e with e;subst e;have:=h.1 _ (cJ hj);simp at this
  cases i with
  |zero=>
   cases j with
   |zero=>rfl
   |succ j=>
    simp at h1 h2;exact absurd h2 (hl.2 m h1 j)
  |succ i=>
   cases j with
   |zero=>
    simp at h1 h2;exact absurd h1 (hl.2 m h2 i)
   |succ j=>
    simp at h1 h2;rw[aAa hl.1 i j m h1 h2]
def aAb(M:aH)(F:aH)(next:Nat)(σ:List (Option Nat)):Bool:=σ.all λo=>match o with
 |some m=>Nat.ble next m||((match ah F m with|none=>true|some _=>false)&&(match ah M m with|none=>false|some _=>true))
 |none=>true
def Hk:List (Option Nat)->List Obj->Bool
 |none::σ,x::X=>x.isNil&&Hk σ X
 |some _::σ,_::X=>Hk σ X
 |_,_=>true
theorem aAc:∀{σ:List (Option Nat)} {X:List Obj},Hk σ X=true->∀(i:Nat) (x:Obj),σ[i]?=some none->X[i]?=some x->x.isNil=true
 |[],_,_,i,x,h,_=>by simp at h
 |_::_,[],_,i,x,_,h=>by simp at h
 |o::σ,y::X,h,i,x,h1,h2=>by
  cases i with
  |zero=>
   simp at h1 h2;subst h1;subst h2;simp only[Hk,de]at h;exact h.1
  |succ i=>
   simp at h1 h2;refine aAc (σ:=σ) (X:=X) ?_ i x h1 h2;cases o with
   |none=>simp only[Hk,de]at h;exact h.2
   |some _=>exact h
def C1(M:aH)(next:Nat)(σ:List (Option Nat))(fr:aR)(F:aH)(X:List Obj):Bool:=
 Nat.beq X.length σ.length&&(Hj σ&&(aAb M F next σ&&(Hk σ X&&((fr.all λp=>Hf next σ p.2&&!mf (xk next σ p.2))&&(F.all λp=>Nat.blt p.1 next&&(match ah M p.1 with|none=>false|some _=>true))))))
theorem aAd{M:aH}{next:Nat}{σ:List (Option Nat)}{fr:aR}{F:aH}{X:List Obj}(h:C1 M next σ fr F X=true)(hF:∀ p∈F,eA next p.2)(hX:∀ x∈X,eA next x):
  Hh M next σ fr F X/\∀ q∈fr,mf (xk next σ q.2)=false:=by
 simp only[C1,de,bh,AZ]at h;obtain⟨h1,h2,h3,h4,h5,h6⟩:=h;refine⟨⟨ki h1,aAa h2,λi m hi hm=>?_,aAc h4,λp hp=>(h5 p hp).1,λp hp=>?_,hF,hX⟩,λq hq=>(h5 q hq).2⟩
 ·unfold aAb at h3;rw[bh]at h3;have:=h3 _ (cJ hi);simp only[uC,de]at this;rcases this with this|⟨p1,p2⟩
  ·have:=rN this;omega
  ·constructor
   ·cases hf:ah F m with
    |none=>rfl
    |some y=>rw[hf]at p1;cases p1
   ·intro e;rw[e]at p2;cases p2
 ·obtain⟨q1,q2⟩:=h6 p hp;refine⟨Nat.lt_of_succ_le (by simpa[Nat.blt]using q1),λe=>?_⟩;rw[e]at q2;cases q2
theorem su{b:Code}{next p:Nat}{r:mz}(n:Nat)(I:Nat->aR)(F:Nat->aH)(X:Nat->List Obj)(Bk:List (Option Nat))(hp:∀ i,i<=n->(X i).length=p)
  (C2:∀ i,i<=n->(∀ q∈F i,eA next q.2)/\∀ x∈X i,eA next x) (h0:C1 (F 0++dV Bk (X 0)) next Bk (I 0) (F 0) (X 0)=true)
  (hs:((ij next Bk (I 0)).map λq=>bH (ij next Bk (I 0)) q.1)=(ij next Bk (I 0)).map λq=>q.2)
  (body:∀ i,i<n->∃ σ ft,C1 (F 0++dV Bk (X 0)) next σ (I (i+1)) (F (i+1)) (X (i+1))=true/\ag P B N b (I i) (F i++marks next (X i)) (next+p) ⟨.normal,ij next σ (I (i+1)),F (i+1)++dV σ (X (i+1)),ft⟩)
  (last:ag P B N b (I n) (F n++marks next (X n)) (next+p) r) (hr:r.ex≠.normal):ag P B N (.loop b) (ij next Bk (I 0)) (F 0++dV Bk (X 0)) next r:=by
 refine aI2 n I F X hp ?_ ?_ last hr
 ·obtain⟨q1,q2⟩:=aAd h0 (C2 0 (lh _)).1 (C2 0 (lh _)).2;exact⟨Bk,q1,q2,Na hs,λ_ _ h=>h⟩
 ·intro i hi;obtain⟨σ,ft,e1,e2⟩:=body i hi;obtain⟨q1,q2⟩:=aAd e1 (C2 (i+1) o_).1 (C2 (i+1) o_).2;exact⟨σ,ft,q1,q2,e2⟩
end
def vb(m:Nat):Value:=.int .u8 (m:Int)
theorem aJb(d:Nat):gS (gH 4 d)=[vb (d/16777216%256),vb (d/65536%256),vb (d/256%256),vb (d%256)]:=by
 have e:∀ m,Value.int .u8 ((UInt8.ofNat (m%256)).toNat:Int)=vb (m%256):=λm=>by rw[NF,dK (cL _ d_)];rfl
 rw[aI9];simp only[gS,qO,NI,e]
theorem NJ(l m:List UInt8):gS (l++m)=gS l++gS m:=by simp[gS]
theorem Fc(l:List UInt8):(gS l).length=l.length:=by simp[gS]
section
variable{Bs:aa}{n a:Nat}
def Hl(n j m:Nat):aR:=[(4,dq j),(0,sl 0 n),(3,sl 2 (4*m))]
def Fe(n a:Nat):aH:=[(0,.view (al (ae base n a)))]
def Ff(a j m:Nat):List Obj:=[.row (gS (gH (4*m) (a/base^j))) 5 1]
theorem aJc{j m:Nat}(hn:n=m+1+j)(h63:n<35184372088832):
  ag prog Bs 45 (aF (af f176 0)) (Hl n (j+1) m) (Fe n a++marks 2 (Ff a (j+1) m)) 3 ⟨.normal,ij 2 [some 4] (Hl n j (m+1)),Fe n a++dV [some 4] (Ff a j (m+1)),5⟩:=by
 have hj:j<n:=by omega
 obtain⟨d,hd⟩:∃ d,d=a/base^j%base:=⟨_,rfl⟩;have mY:d<base:=by rw[hd];exact hZ d_ a j
 have jf:(al (ae base n a))[j]?=some (aW d):=by rw[hd];exact kS (eB hj)
 have sh:∀ k:Nat,(d:Int).fdiv ((2:Int)^k)=((d/2^k:Nat):Int):=λk=>by rw[r6 _ (Hm d_),tC,Hn];rfl
 have w8:∀ m:Nat,IntKind.u8.wrap ((m:Nat):Int)=((m%256:Nat):Int):=λm=>by rw[aAe];omega
 have lg:gS (gH (4*m) (a/base^(j+1)))++[vb (d/2^24%256),vb (d/2^16%256),vb (d/2^8%256),vb (d%256)]=gS (gH (4*(m+1)) (a/base^j)):=by
  have e1:a/base^j/256^4=a/base^(j+1):=by rw[show(256:Nat)^4=base by decide,kQ,<-dy]
  rw[show 4*(m+1)=4*m+4 by omega,Z4,e1,NJ,<-Z3 4 (a/base^j) 4 (bt _),show a/base^j%256^4=d from hd.symm,aJb]
 exact aC [.rw 12 (dq (j+1)) (vI j) (dY j),.ge 13 j 0 true s_,.rw 18 (dq (j+1)) (vI j) (dY j),.ix f176 19 0 n j hj k_,.ld f176 20 176 0 j (.view (al (ae base n a))) (aW d) rfl (by rw[fP];exact jf) k_,.quo 21 .u32 ((d:Int).fdiv ((2:Int)^24)) ((d/2^24:Nat):Int) (sh 24),.wr 22 .u8 ((d/2^24:Nat):Int) ((d/2^24%256:Nat):Int) (w8 _),.rw 24 (dq (j+1)) (vI j) (dY j),.ix f176 25 0 n j hj k_,.ld f176 26 176 0 j (.view (al (ae base n a))) (aW d) rfl (by rw[fP];exact jf) k_,.quo 27 .u32 ((d:Int).fdiv ((2:Int)^16)) ((d/2^16:Nat):Int) (sh 16),.wr 28 .u8 ((d/2^16:Nat):Int) ((d/2^16%256:Nat):Int) (w8 _),.rw 30 (dq (j+1)) (vI j) (dY j),.ix f176 31 0 n j hj k_,.ld f176 32 176 0 j (.view (al (ae base n a))) (aW d) rfl (by rw[fP];exact jf) k_,.quo 33 .u32 ((d:Int).fdiv ((2:Int)^8)) ((d/2^8:Nat):Int) (sh 8),.wr 34 .u8 ((d/2^8:Nat):Int) ((d/2^8%256:Nat):Int) (w8 _),.rw 36 (dq (j+1)) (vI j) (dY j),.ix f176 37 0 n j hj k_,.ld f176 38 176 0 j (.view (al (ae base n a))) (aW d) rfl (by rw[fP];exact jf) k_,.wr 39 .u8 (d:Int) ((d%256:Nat):Int) (w8 _),.bs f176 40 3 4 5 1 [0,1,2,3] (vb 0) [vb (d/2^24%256),vb (d/2^16%256),vb (d/2^8%256),vb (d%256)] #[vb (d/2^24%256),vb (d/2^16%256),vb (d/2^8%256),vb (d%256)]
   (.row [vb (d/2^24%256),vb (d/2^16%256),vb (d/2^8%256),vb (d%256)] 5 1) rfl (λv hv=>by simp at hv;rcases hv with rfl|rfl|rfl|rfl<;>rfl) (λv hv=>by simp at hv;rcases hv with rfl|rfl|rfl|rfl<;>rfl) k_ rfl o_ o_ k_,
  .pB f176 41 4 2 (4*m) 4 (4*(m+1)) 5 1 1 (gS (gH (4*m) (a/base^(j+1)))) 3 (.row [vb (d/2^24%256),vb (d/2^16%256),vb (d/2^8%256),vb (d%256)] 5 1) (gS (gH (4*(m+1)) (a/base^j)))
   o_ rfl rfl (by rw[Fc,Ke];omega) lg (λv hv=>by simp[Obj.cells]at hv;rcases hv with rfl|rfl|rfl|rfl<;>rfl) o_ (by simp[maxLen];omega) o_ k_,
  .rw 14 (dq (j+1)) (vI j) (dY j),.wr 15 .i64 ((j:Int)-1) ((j:Int)-1) (oU o_)]
theorem aJd(h63:n<35184372088832):
  ag prog Bs 45 (.block 0 (af f176 0)) (ij 2 [some 1] (Hl n n 0)) (Fe n a++dV [some 1] (Ff a n 0)) 2 ⟨.normal,Hl n 0 n,Fe n a++marks 2 (Ff a 0 n),3⟩:=by
 have:=su (P:=prog) (B:=Bs) (N:=45) (b:=aF (af f176 0)) (next:=2) (p:=1) (r:=⟨.exit 0,Hl n 0 n,Fe n a++marks 2 (Ff a 0 n),3⟩) n (λi=>Hl n (n-i) i) (λ_=>Fe n a) (λi=>Ff a (n-i) i) [some 1] (λ_ _=>rfl)
  (λi _=>⟨λq hq=>by simp[Fe]at hq;subst hq;exact Hi (fF _),λx hx=>by simp[Ff]at hx;subst hx;exact Hi (aJa _)⟩) k_ k_
  (λi hi=>⟨[some 4],5,k_,by
   obtain⟨j,hj⟩:∃ j,n=i+1+j:=⟨n-(i+1),by omega⟩;have e1:n-i=j+1:=by omega
   have e2:n-(i+1)=j:=by omega
   simp only[e1,e2];exact aJc hj h63⟩)
  (by simp only[vG];exact aC [.rw 13 (.bool (decide (((0:Nat):Int)-1>=0))) (.bool false) rfl]) n_
 simp only[GY]at this;exact bT (id:=0) this
end
theorem aAf{w:World}{va:Value}{a:Nat}(gn:iL w va a)(h1:nd base a<35184372088832):
  Calls prog 176 #[va] w λe w'=>e=.returned (.string (BA (cq a)))/\Below w.heap.size w w':=by
 have ak:=dU (B:=base) d_ a;have hl:∀ s∈[cE.row va (nd base a) (al (ae base (nd base a) a))],s.OK w:=by intro s hs;simp at hs;subst hs;exact⟨gn,fF _⟩
 unfold iL at gn;generalize nd base a=n at *;have ht:J7 (gH (4*n) (a/base^0))=cq a:=by rw[r7,E4];refine aI7 ?_;rw[r8];exact ak
 have tl:=aIK (gH (4*n) (a/base^0));rw[ht]at tl
 refine lO (Q:=λe w'=>e=.returned (.string (BA (cq a)))/\Below w.heap.size w w') mixed func176 [cE.row va n (al (ae base n a))] hl 100 (N:=45) k_
  (rs:=[(aX.wr 7 .i64 (4*(n:Int)) ((4*n:Nat):Int) (by rw[db];omega):aX prog (aa.at w) 45),.mkc f176 8 1 (4*n) 5 1 1 (vb 0) o_ (by simp[maxLen];omega) k_,.wr 11 .i64 ((n:Int)-1) ((n:Int)-1) (oU o_),.code 0 _ _ _ _ _ (aJd (n:=n) (a:=a) h1),.S7 f176 43 2 (4*n) (gH (4*n) (a/base^0)) (.row (gS (gH (4*n) (a/base^0))) 5 1) rfl rfl (Ke _ _) k_,tl.at 44])
  (v:=.string (BA (cq a))) (ms:=[]) k_ λaw bZ v' w' hc bj _ _=>⟨by rw[hc.eY rfl],bj.base⟩
section
variable{P:Program}{B:aa}{N:Nat}
def cE.apart(g:Nat):cE->Prop
 |.plain _=>True
 |.row v n _=>∀ b o c',v=.slice (some ⟨b,o,none⟩) n c'->b≠g
theorem S8{w:World}{g:Nat}:∀(l:List cE) (k:Nat) (ι:Map) (c:Nat->Option Obj),aO B ι c w->(∀ j x b o cap,c j=some x->x.owns=true->ι j=some (.at b o cap)->b=g)->eM c k->(∀ s∈l,cE.OK w s)->(∀ s∈l,cE.apart g s)->
  ∃ aw c',Map.le ι aw/\aO B aw c' w/\eM c' (tx k l)/\cV c' (uE k l)/\(∀ j,j<k->c' j=c j)/\bL (aG aw) (rZ k l) (l.map cE.real)/\k<=tx k l
 |[],k,ι,c,hm,ho,hu,_,_=>⟨ι,c,Map.le.refl _,hm,hu,λk x h=>(by cases h),λ_ _=>rfl,.nil,bt _⟩
 |.plain v::l,k,ι,c,hm,ho,hu,hl,aV=>by obtain⟨aw,c',h1,h2,h3,h4,h5,h6,h7⟩:=S8 l k ι c hm ho hu (λs hs=>hl s (bE _ hs)) (λs hs=>aV s (bE _ hs));have hv:flat v=true:=hl _ (aU ..);exact⟨aw,c',h1,h2,h3,h4,h5,.cons (.same hv) h6,h7⟩
 |.row v n xs::l,k,ι,c,hm,ho,hu,hl,aV=>by
  obtain⟨hv,cQ⟩:cO w v n xs/\∀ u∈xs,flat u=true:=hl _ (aU ..);have hap:∀ b o c',v=.slice (some ⟨b,o,none⟩) n c'->b≠g:=aV _ (aU ..);obtain⟨bP,q1,q2,q3⟩:=yP hm (k:=k) (hu k (bt _)) hv cQ (λb o c' hb j y o' aQ hj hy he=>hap b o c' hb (ho j y b o' aQ hj hy he));have xm:∀ j x b o cap,aZ c k (.view xs) j=some x->x.owns=true->bP j=some (.at b o cap)->b=g:=by
   intro j x b o cap hj hx hb;unfold aZ at hj;by_cases bO:j=k
   ·rw[ax bO]at hj;injection hj with hj;subst hj;cases hx
   ·rw[au bO]at hj;obtain⟨lo,e1,_⟩:=hm.born j x hj;have:=q1 j lo e1;rw[hb]at this;injection this with this;subst this;exact ho j x b o cap hj hx e1
  have dR:eM (aZ c k (.view xs)) (k+1):=λj hj=>by unfold aZ;rw[au o_];exact hu j o_
  obtain⟨aw,c',h1,h2,h3,h4,h5,h6,h7⟩:=S8 l (k+1) bP _ q2 xm dR (λs hs=>hl s (bE _ hs)) (λs hs=>aV s (bE _ hs));refine⟨aw,c',q1.trans h1,h2,h3,λj x hj=>?_,λj hj=>?_,.cons (q3.mono h1) h6,by show k<=tx (k+1) l;omega⟩
  ·unfold uE ah at hj;split at hj
   ·rename_i hb;injection hj with hj;subst hj;rw[<-ki hb,h5 k o_];unfold aZ;rw[ax rfl]
   ·exact h4 j x hj
  ·rw[h5 j o_];unfold aZ;rw[au o_]
theorem aJe{f:FuncId}{fn:Func}{w:World}{g cap size:Nat}{cur:Array Value}{ty:TypeId}{cells cells':aj}{off m cc c':Nat}{v:Value}{ms:aH}{Q:Ending->World->Prop}(gF:P.follows .mixedOrders=true)(hf:P.funcs[f]?=some fn)
  (hg:w.heap[g]?=some (.cells cur ty (0,0))) (jJ:cap<=maxLen) (bw:cur.size=cap*size) (hc:cur.toList.take cells.length=cells) (cQ:∀ v∈cells,flat v=true) (Bb:∀ v∈cells',flat v=true) (hn:m<=c') (mO:cc+c'=cap)
  (l:List cE) (hl:∀ s∈l,cE.OK w s) (aV:∀ s∈l,cE.apart g s) (n:Nat) {N:Nat} (hN:N=((.slice (some ⟨0,off,some 7⟩) m cc:Value)::rZ 1 l).length+(fn.ntmps-((.slice (some ⟨0,off,some 7⟩) m cc:Value)::rZ 1 l).length))
  {rs:bI P (aa.vE w g) N}
  (h:nN (fW (P:=P) fn n (.slice (some ⟨0,off,some 7⟩) m cc::rZ 1 l) ((0,.row cells ty size)::uE 1 l) (tx 1 l) rs) ((0,.row cells' ty size)::ms)=nO (fW fn n (.slice (some ⟨0,off,some 7⟩) m cc::rZ 1 l) ((0,.row cells ty size)::uE 1 l) (tx 1 l) rs) v ((0,.row cells' ty size)::ms))
  (hQ:∀ aw S9 v' w',aw 0=some (.at g 0 cap)->aG aw v v'->Ba g w w'->(∃ fU,w'.heap[g]?=some (.cells fU ty (0,0))/\fU.size=cap*size/\fU.toList.take cells'.length=cells')->aO (aa.vE w g) aw S9 w'->(∀ p∈ms,S9 p.1=some p.2)->Q (.returned v') w') :
  Calls P f (.slice (some ⟨g,off,none⟩) m c'::l.map cE.real).toArray w Q:=by
 have kP:=SJ hg jJ bw hc cQ;have aAg:dG (λ_=>none) 0 (.at g 0 cap) 0=some (.at g 0 cap):=fK _ _ _;obtain⟨ι,c,h1,h2,h3,h4,h5,h6,h7⟩:=S8 (g:=g) l 1 _ _ kP (λj x b o cp hj _ hb=>by
   by_cases Bl:j=0
   ·subst Bl;rw[aAg]at hb;injection hb with hb;injection hb with hb _ _;exact hb.symm
   ·unfold dG at hb;rw[au Bl]at hb;cases hb) (λk hk=>by unfold aZ;rw[au o_]) hl aV
 have qF:ι 0=some (.at g 0 cap):=h1 0 _ aAg;have ha:cV c ((0,.row cells ty size)::uE 1 l):=λk x hk=>by
  unfold ah at hk;split at hk
  ·rename_i hb;injection hk with hk;subst hk;rw[<-ki hb,h5 0 o_];unfold aZ;rw[ax rfl]
  ·exact h4 k x hk
 have aJf:aG ι (.slice (some ⟨0,off,some 7⟩) m cc) (.slice (some ⟨g,off,none⟩) m c'):=by have:=aG.slc (off:=off) qF hn mO;rwa[kh]at this
 refine rY gF hf hN n h (.cons aJf h6) h2 ha h3 λaw bZ v' w' hle kg hm dE=>?_;obtain⟨e1,e2⟩:=SK hm (hle 0 _ qF) (dE _ (aU ..)) Bb;exact hQ aw bZ v' w' (hle 0 _ qF) kg e1 e2 hm λp hp=>dE p (bE _ hp)
theorem aJg{o:Oper}{x:Operand}{f:FuncId}{k k2 off m cc size n2 Ta:Nat}{ty:TypeId}{cells cells':aj}{x2:Obj}{val:Value}(ho:dx o.op=some x)(eQ:gz P f=true)(Ho:k2≠k)(kP:0<m)
  (cQ:∀ v∈cells,flat v=true) (Bb:∀ v∈cells',flat v=true) (oz:flat val=true) (hJ:x2.reads=true) (aJh:∀ v∈x2.cells,flat v=true) (aJi:n2=0->Ta=0)
  (h:∀ w g cap cur c' v2,w.heap[g]?=some (.cells cur ty (0,0))->m<=c'->cc+c'=cap->cap<=maxLen->cur.size=cap*size->cur.toList.take cells.length=cells->cO w v2 n2 (x2.cells.take Ta)->(∀ b o c,v2=.slice (some ⟨b,o,none⟩) n2 c->b≠g)->Calls P f #[.slice (some ⟨g,off,none⟩) m c',v2] w λe w'=>e=.returned val/\Ba g w w'/\∃ fU,w'.heap[g]?=some (.cells fU ty (0,0))/\fU.size=cap*size/\fU.toList.take cells'.length=cells') :
  cD P B o [.func (.func f) #[] #[],.slice (some ⟨k,off,some 7⟩) m cc,.slice (some ⟨k2,0,some 7⟩) n2 0] [(k,some (.row cells ty size)),(k2,some x2)] val [(k,.row cells' ty size)]:=by
 refine jM (fi:=[]) (ca:=[]) ho eQ λι c w hm iD args' aY=>?_;have hk:c k=some (.row cells ty size):=iD _ (aU ..);have fN:c k2=some x2:=iD _ (bE _ (aU ..));obtain⟨v,v2,rfl,hv,iJ⟩:=jI aY;have hr:=oP hm fN hJ aJh aJi iJ;rw[mB]at hr;rcases hv.iw rfl with ⟨_,h0,_⟩|⟨g,oo,cap,c',hb,lJ,mO,he⟩
 ·omega
 ·dsimp only at hb he;obtain⟨l,q1,q2⟩:=hm.born k _ hk;rw[hb]at q1;injection q1 with q1;subst q1;rcases q2 with q2|⟨b,aQ,cur,e1,mo,dD,gj,jk⟩
  ·cases q2.1
  ·injection e1 with e1 e2 e3;subst e1;subst e2;subst e3;rw[kh]at he;rw[he];have aV:∀ b o c,v2=.slice (some ⟨b,o,none⟩) n2 c->b≠g:=by
    rintro b o c1 rfl rfl
    rcases iJ.iw rfl with ⟨_,_,_,_,e⟩|⟨b',o',aQ,c2,gm,_,_,e⟩
    ·cases e
    ·injection e with e _ _;injection e with e;injection e with e _ _;subst e;simp only[Obj.reads,uC]at hJ;rcases hJ with hJ|hJ
     ·exact Ho (hm.inj k2 k x2 _ _ _ _ _ _ fN hJ hk rfl gm hb)
     ·exact(hm.seen k2 x2 _ _ _ fN hJ gm).2 k _ _ _ hk rfl hb
   refine(h w g cap cur c' v2 mo lJ mO dD gj (nJ jk cQ) hr aV).mono ?_
   rintro e w' ⟨rfl,qg,fU,p1,p2,p3⟩
   refine⟨ι,val,rfl,Map.le.refl _,.same oz,hm.write hk rfl hb qg.os qg.tape qg.output qg.size (λj hj E1=>qg.block j hj E1) (.inr ⟨g,cap,fU,rfl,p1,dD,p2,?_⟩) n_ rfl⟩;rw[p3];exact kx Bb
end
section
variable{B U V n T v1 v2 u2:Nat}
structure mD(B n U V T u2 v1 v2:Nat):Prop where
 hB:2<=B
 hU:U<V*B
 hT:T=U/B^(n+1)
 hu:u2=U/B^n%B
 kO:v1=V/B^(n+1)
 iJ:v2=V/B^n%B
 top:B<=2*v1
 C3:v1<B
theorem mD.pow(h:mD B n U V T u2 v1 v2):0<B^n:=cK (by have:=h.hB;omega)
theorem mD.two(h:mD B n U V T u2 v1 v2):U/B^n=T*B+u2/\V/B^n=v1*B+v2:=by rw[h.hT,h.hu,h.kO,h.iJ];exact⟨xd U n,xd V n⟩
theorem mD.aJj(h:mD B n U V T u2 v1 v2){q:Nat}(hq:q*v1<=T->False):U/V<q:=by
 have qR:0<V:=by
  rcases oy V with e|e
  ·have:=h.hU;rw[e]at this;omega
  ·exact e
 refine Nat.lt_of_not_le λhle=>hq ?_;have h1:q*V<=U:=(C4 qR).1 hle;rw[h.hT,h.kO];have hp:0<B^(n+1):=cK (by have:=h.hB;omega);rw[C4 hp];have h2:V/B^(n+1)*B^(n+1)<=V:=C5 _ _
 calc q*(V/B^(n+1))*B^(n+1)=q*(V/B^(n+1)*B^(n+1)):=by rw[fO]
  _<=q*V:=jz _ h2
  _<=U:=h1
structure Bm(U V T v1 q r:Nat):Prop where
 eq:q*v1+r=T
 le:U/V<=q
theorem mD.start(h:mD B n U V T u2 v1 v2):Bm U V T v1 (T/v1) (T%v1):=by
 refine⟨by rw[cS];exact jm T v1,?_⟩;have hv:0<v1:=by have:=h.top;have:=h.hB;omega
 have:=h.aJj (q:=T/v1+1) λhle=>by have:=(C4 hv).2 hle;omega
 omega
theorem mD.small(h:mD B n U V T u2 v1 v2):U/V<B:=by
 have qR:0<V:=by
  rcases oy V with e|e
  ·have:=h.hU;rw[e]at this;omega
  ·exact e
 exact(iK qR).2 (by rw[cS];exact h.hU)
theorem mD.aJk(h:mD B n U V T u2 v1 v2){q r:Nat}(g:Bm U V T v1 q r)(hc:B<=q\/r*B+u2<q*v2):U/V<q:=by
 rcases hc with hc|hc
 ·exact cC h.small hc
 ·have qR:0<V:=by
   rcases oy V with e|e
   ·have:=h.hU;rw[e]at this;omega
   ·exact e
  rw[iK qR];obtain⟨e1,e2⟩:=h.two;have hp:=h.pow;have h1:U/B^n<q*(V/B^n):=by rw[e1,e2,<-g.eq,oS,fE,<-fO];omega
  have h2:U<q*(V/B^n)*B^n:=(iK hp).1 h1;rw[fO]at h2;exact cC h2 (jz _ (C5 _ _))
theorem mD.less(h:mD B n U V T u2 v1 v2){q r:Nat}(g:Bm U V T v1 q r)(hc:B<=q\/r*B+u2<q*v2):0<q/\Bm U V T v1 (q-1) (r+v1):=by have ak:=h.aJk g hc;obtain⟨p,rfl⟩:∃ p,q=p+1:=⟨q-1,(Nat.sub_add_cancel (Nat.one_le_of_lt ak)).symm⟩;refine⟨by omega,?_,Nat.le_of_lt_succ ak⟩;have:=g.eq;rw[fE,qf]at this;rw[NK];omega
theorem mD.fin(h:mD B n U V T u2 v1 v2){q r:Nat}(g:Bm U V T v1 q r)(hc:(q<B/\q*v2<=r*B+u2)\/B<=r):q<B/\q*V<U+V:=by
 obtain⟨e1,e2⟩:=h.two;have hp:=h.pow;have iz:B^(n+1)=B^n*B:=dy ..;have hVd:=jm V (B^n);have hVm:=cL V hp;rcases hc with ⟨hq,hc⟩|hr
 ·refine⟨hq,?_⟩;have h1:q*(V/B^n)<=U/B^n:=by rw[e1,e2,<-g.eq,oS,fE,<-fO];omega
  have h2:q*(V/B^n)*B^n<=U:=(C4 hp).1 h1;have h3:q*V=q*(V/B^n)*B^n+q*(V%B^n):=by rw[fO,<-oS,cS (V/B^n),hVd]
  have h4:q*(V%B^n)<V:=by
   have h5:q*(V%B^n)<=(B-1)*B^n:=y8 o_ (je hVm);have h6:v1*B^(n+1)<=V:=by rw[h.kO];exact C5 _ _
   have h7:1*B^(n+1)<=v1*B^(n+1):=fo _ (by have:=h.top;have:=h.hB;omega);have h8:(B-1)*B^n<B^(n+1):=by rw[iz,cS (B^n)];exact Bn (by have:=h.hB;omega) hp
   omega
  omega
 ·have xn:V<(v1+1)*B^(n+1):=by rw[h.kO];have fQ:0<B^(n+1):=cK (by have:=h.hB;omega);exact(iK fQ).1 (Bo _)
  have fQ:0<B^(n+1):=cK (by have:=h.hB;omega);have hTU:T*B^(n+1)<=U:=by rw[h.hT];exact C5 _ _
  have aAh:T<(v1+1)*B:=by rw[h.hT,iK fQ];refine cC h.hU ?_;rw[fO,cS B,<-fO];exact fo _ (je xn)
  have hqB:q<B:=by
   have h1:q*v1<B*v1:=by have:=g.eq;rw[fE,qf,cS v1]at aAh;omega
   exact aJl h1
  refine⟨hqB,?_⟩;have h2:q*V<=q*((v1+1)*B^(n+1)):=jz _ (je xn);have h3:q*((v1+1)*B^(n+1))<=T*B^(n+1):=by rw[<-fO];refine fo _ ?_;have:=g.eq;rw[oS,fX];omega
  have qR:0<V:=by
   rcases oy V with e|e
   ·have:=h.hU;rw[e]at this;omega
   ·exact e
  omega
theorem mD.aJm(h:mD B n U V T u2 v1 v2)(r:Nat):B<=r+v1+v1:=by have:=h.top;omega
theorem mD.aJn(h:mD B n U V T u2 v1 v2){q r:Nat}(g:Bm U V T v1 q r):q<=B*2+1:=by
 have fQ:0<B^(n+1):=cK (by have:=h.hB;omega);have xn:V<(v1+1)*B^(n+1):=by rw[h.kO];exact(iK fQ).1 (Bo _)
 have aAh:T<(v1+1)*B:=by rw[h.hT,iK fQ];refine cC h.hU ?_;rw[fO,cS B,<-fO];exact fo _ (je xn)
 have hv:0<v1:=by have:=h.top;have:=h.hB;omega
 have h1:q*v1<(B*2)*v1:=by
  have:=g.eq;have h2:(v1+1)*B<=(B*2)*v1:=by
   rw[fE,qf,fO,cS v1];have:B*1<=B*v1:=jz _ hv;have e:B*(2*v1)=B*v1+B*v1:=by rw[Nat.two_mul,oS]
   omega
  omega
 have:=aJl h1;omega
def oA(B q V i:Nat):Nat:=q*(V%B^i)/B^i
theorem aJo{q:Nat}:oA B q V 0=0:=by simp[oA,tB]
theorem aAi(hB:0<B)(q V i:Nat):oA B q V i+q*(V/B^i%B)=q*(V%B^(i+1))/B^i:=by have hp:0<B^i:=cK hB;rw[pz,oS,<-fO,pA _ _ hp];rfl
theorem aJp(hB:0<B)(q V i:Nat):(oA B q V i+q*(V/B^i%B))/B=oA B q V (i+1):=by rw[aAi hB,kQ,<-dy];rfl
theorem aAj(hB:0<B)(q V i:Nat):(oA B q V i+q*(V/B^i%B))%B=q*V/B^i%B:=by
 have hp:0<B^i:=cK hB;rw[aAi hB];have e:q*V=q*(V%B^(i+1))+(q*(V/B^(i+1))*B)*B^i:=by
  have h1:=jm V (B^(i+1));have h2:q*(V/B^(i+1))*B*B^i=q*(B^(i+1)*(V/B^(i+1))):=by rw[dy];simp only[cS,mX,fO]
  rw[h2,<-oS,mW,h1]
 rw[e,pA _ _ hp,C0]
theorem aAk(hB:0<B){q:Nat}(hq:q<B)(V i:Nat):oA B q V i<B:=by have hp:0<B^i:=cK hB;unfold oA;rw[iK hp];have h1:q*(V%B^i)<=q*B^i:=jz _ (je (cL _ hp));exact e8 h1 (Bn hq hp)
end
section
variable{B:Nat}
def gp(B j R D:Nat):Nat:=R%B^j+D*B^j
theorem xo(hB:0<B)(j R D i:Nat):gp B j R D/B^(j+i)%B=D/B^i%B:=by have hp:0<B^j:=cK hB;unfold gp;rw[eD,<-kQ,pA _ _ hp,mA (cL _ hp),kh]
theorem Tb(hB:0<B){j t:Nat}(ht:t<j)(R D:Nat):gp B j R D/B^t%B=R/B^t%B:=by
 unfold gp;obtain⟨s,rfl⟩:∃ s,j=t+1+s:=⟨j-(t+1),by omega⟩;have hp:0<B^t:=cK hB;have e1:R%B^(t+1+s)/B^t%B=R/B^t%B:=by
  have e:B^(t+1+s)=B^t*(B*B^s):=by rw[eD,dy,fO]
  rw[e,Bd,J5]
 have e2:D*B^(t+1+s)=(D*B^s*B)*B^t:=by rw[eD,dy];simp only[cS,mX,fO]
 rw[e2,pA _ _ hp,C0,e1]
theorem Hp(hB:0<B){j m D:Nat}(R:Nat)(h:D<B^m):gp B j R D<B^(j+m):=by have hp:0<B^j:=cK hB;unfold gp;have h1:=cL R hp;have h2:(D+1)*B^j<=B^m*B^j:=fo _ h;rw[fE,qf]at h2;rw[eD,cS (B^j)];omega
theorem aAl(hB:0<B)(j R D E:Nat):gp B j (gp B j R D) E=gp B j R E:=by unfold gp;rw[C0,Nat.mod_mod]
theorem aJq(j R:Nat):gp B j R (R/B^j)=R:=by unfold gp;rw[cS,mW];exact jm R (B^j)
theorem Hq(j R i:Nat):R/B^(j+i)%B=R/B^j/B^i%B:=by rw[eD,kQ]
theorem NL(hB:0<B)(L j R D:Nat):c8 B L j (gp B j R D) R=ae B L R:=by
 unfold c8 ae;refine yM λt _=>?_;by_cases h:t<j
 ·rw[ax h,Tb hB h]
 ·rw[au h]
theorem Fg(hB:0<B){L m R S:Nat}(hR:R<B^m)(hS:S<B^m):c8 B L m S R=ae B L S:=by
 unfold c8 ae;refine yM λt _=>?_;by_cases h:t<m
 ·rw[ax h]
 ·rw[au h,qQ hR o_ hB,qQ hS o_ hB]
def fZ(B m U V q:Nat):Nat:=(U+B^(m+1)-q*V)%B^(m+1)
section
variable{m U V q:Nat}
theorem Tc(hB:0<B):fZ B m U V q<B^(m+1):=cL _ (cK hB)
theorem aAm(hB:0<B){a i k:Nat}(h:i<k):a%B^k/B^i%B=a/B^i%B:=by have:=Tb hB h a 0;unfold gp at this;rw[lN,jv]at this;exact this
theorem aJr(hB:0<B){a i k:Nat}(h:i<k):(a+B^k)/B^i%B=a/B^i%B:=by
 have e:B^k=B^(k-i-1)*B*B^i:=by rw[<-dy,<-eD];congr 1;omega
 rw[e,pA _ _ (cK hB),C0]
theorem aJs{a i k:Nat}(h:i<=k):(a+B^k)%B^i=a%B^i:=by
 have e:B^k=B^i*B^(k-i):=by rw[<-eD];congr 1;omega
 rw[e,EY]
def oV(B U V q i:Nat):Nat:=kR B U (q*V) i
theorem aJt{a b i k:Nat}(h:i<=k):kR B (a+B^k) b i=kR B a b i:=by unfold kR;rw[aJs h]
theorem aJu(hB:0<B)(hq:q*V<=U+B^(m+1)){i:Nat}(hi:i<=m):
  (U/B^i%B+2*B-(oA B q V i+q*(V/B^i%B))%B-oV B U V q i)%B=fZ B m U V q/B^i%B:=by
 unfold fZ oV;rw[aAm hB o_,aAj hB,<-aJr hB (show i<m+1 by omega),<-aJt (show i<=m+1 by omega)];exact SG hB hq i
theorem aJv(hB:0<B)(i:Nat):(if U/B^i%B<(oA B q V i+q*(V/B^i%B))%B+oV B U V q i then 1 else 0)=oV B U V q (i+1):=by unfold oV;rw[aAj hB];exact SF hB _ _ _
theorem aJw(hB:0<B)(hq:q<B)(hV:V<B^m):q*V<B^(m+1):=by rw[dy,cS (B^m)];exact e8 (fo _ (je hq)) (Zt hV hB)
theorem aJx(hB:0<B)(hq:q<B)(hV:V<B^m)(hU:U<V*B):oV B U V q (m+1)=if U<q*V then 1 else 0:=by
 have C6:U<B^(m+1):=by rw[dy];exact cC hU (fo _ (je hV))
 unfold oV kR;rw[dK C6,dK (aJw hB hq hV)]
theorem aAn(hB:0<B)(hV:V<B^m)(hU:U<V*B)(hle:U/V<=q)(h:¬U<q*V):q=U/V/\fZ B m U V q=U%V:=by
 have C6:U<B^(m+1):=by rw[dy];exact cC hU (fo _ (je hV))
 have qR:0<V:=by
  rcases oy V with e|e
  ·rw[e]at hU;omega
  ·exact e
 have e:q=U/V:=by have:=(C4 qR).2 (Kf.1 h);omega
 refine⟨e,?_⟩;unfold fZ;have h1:=jm U V;rw[cS]at h1;rw[<-e]at h1;have h2:U+B^(m+1)-q*V=U%V+B^(m+1):=by omega
 rw[h2,Kg,dK (e8 (JX _ _) C6)]
theorem aAo(hB:0<B)(hV:V<B^m)(hU:U<V*B)(hb:q*V<U+V)(h:U<q*V):q=U/V+1/\(fZ B m U V q+V)%B^(m+1)=U%V:=by
 have C6:U<B^(m+1):=by rw[dy];exact cC hU (fo _ (je hV))
 have qR:0<V:=by
  rcases oy V with e|e
  ·rw[e]at hU;omega
  ·exact e
 have mZ:0<q:=by
  rcases oy q with e|e
  ·rw[e,lN]at h;omega
  ·exact e
 obtain⟨p,rfl⟩:∃ p,q=p+1:=⟨q-1,by omega⟩;rw[fE,qf]at h hb;have e:p=U/V:=by have h1:p<=U/V:=(C4 qR).2 o_;have h2:U/V<p+1:=(iK qR).2 (by rw[fE,qf];exact h);omega
 refine⟨by rw[e],?_⟩;unfold fZ;have h1:=jm U V;rw[cS,<-e]at h1;rw[Nat.mod_add_mod,fE,qf];have hpV:p*V<=U:=by omega
 have Td:V<=B^(m+1):=dh (je hV) (c9 hB o_);have h2:U+B^(m+1)-(p*V+V)+V=U%V+B^(m+1):=by omega
 rw[h2,Kg,dK (e8 (JX _ _) C6)]
theorem Te(hB:0<B){D:Nat}{i:Nat}(hi:i<=m):(D/B^i%B+V/B^i%B+eR B D V i)%B=(D+V)%B^(m+1)/B^i%B:=by rw[aAm hB o_];exact G4 hB D V i
end
theorem aAp(hB:0<B)(A V j:Nat):gp B j (A%(V*B^(j+1))) (A%(V*B^(j+1))/B^j%V)=A%(V*B^j):=by
 have hp:0<B^j:=cK hB;have h1:A%(V*B^j)=A%(V*B^(j+1))%(B^j*V):=by rw[cS (B^j),dy,<-fO,J5]
 rw[h1];generalize A%(V*B^(j+1))=R;rw[Ng];unfold gp;rw[cS (B^j) (_%V)]
theorem aAq(A V j:Nat):A%(V*B^(j+1))/B^j/V=A/V/B^j%B:=by rw[kQ,dy,<-fO,cS (B^j) V,Bd,kQ]
theorem aAr{V:Nat}(hB:0<B)(hV:0<V)(A j:Nat):A%(V*B^(j+1))/B^j<V*B:=by have hp:0<B^j:=cK hB;rw[iK hp,fO,cS B,<-dy];exact cL _ (qS hV (cK hB))
theorem aAs{B k X i:Nat}(hB:0<B)(hk:∃ c,B=2^k*c):((X/B^(i+1)%B*B+X/B^i%B)/2^k)%B=X/2^k/B^i%B:=by
 obtain⟨c,hc⟩:=hk;have h2:0<2^k:=cK d_;have e1:X/B^i=X/B^(i+1)*B+X/B^i%B:=xd X i;have e2:X/B^(i+1)=X/B^(i+1)/B*B+X/B^(i+1)%B:=by rw[cS];exact(jm _ _).symm
 have e3:X/2^k/B^i=X/B^i/2^k:=by rw[kQ,kQ,cS]
 rw[e3];generalize X/B^i%B=x0 at *;generalize X/B^i=Y at *;generalize X/B^(i+1)%B=x1 at *;generalize X/B^(i+1)/B=H at *;generalize X/B^(i+1)=Z at *;subst e1;subst e2;have e4:(H*B+x1)*B+x0=(x1*B+x0)+H*B*c*2^k:=by
  rw[fE];have:H*B*c*2^k=H*B*B:=by rw[fO (H*B),cS c,<-hc]
  omega
 have e5:H*B*c=H*c*B:=by rw[fO,cS B c,<-fO]
 rw[e4,pA _ _ h2,e5,C0]
end
section
variable{Bs:aa}{N:Nat}
def qi(x:Obj)(a:Nat):Prop:=x.reads=true/\∃ M,nd base a<=M/\x.cells=al (ae base M a)
theorem Bp{ι:Map}{c:Nat->Option Obj}{w:World}(hm:aO Bs ι c w){k a:Nat}{x:Obj}{v:Value}(hk:c k=some x)(hx:qi x a)(hv:aG ι (sl k (nd base a)) v):iL w v a:=by
 obtain⟨h1,M,h2,h3⟩:=hx;have:=oP (len:=nd base a) hm hk h1 (by rw[h3];exact fF _) (λh=>h) hv;rw[h3,mB]at this;have e:(al (ae base M a)).take (nd base a)=al (ae base (nd base a) a):=by unfold al;rw[<-CD,JU h2]
 rw[e]at this;exact this
def oW(a:Nat):Obj:=.row (al (ae base (nd base a) a)) 176 1
theorem nS(a:Nat):qi (oW a) a:=⟨rfl,_,bt _,rfl⟩
theorem xq(a:Nat):qi (.view (al (ae base (nd base a) a))) a:=⟨rfl,_,bt _,rfl⟩
theorem NM{o:Oper}{y:Operand}{f:FuncId}{args:aj}{c:Nat}(ho:dx o.op=some y)(eQ:gz prog f=true)(dj:∀ v∈args,flat v=true)
  (h:∀ w,Calls prog f args.toArray w λe w'=>∃ v,e=.returned v/\jO w w' v c/\Below w.heap.size w w') (k:Nat) :
  cD prog Bs o (.func (.func f) #[] #[]::args) [(k,none)] (sl k (nd base c)) [(k,oW c)]:=by
 refine jM (fi:=[]) (ca:=[]) ho eQ λι cc w hm hn args' aY=>?_;rw[jw,jn]at aY;rw[nJ aY dj];refine(h w).mono ?_
 rintro e w' ⟨v,rfl,h1,h2⟩
 obtain⟨aw,q1,q2,q3⟩:=EU hm h2 (k:=k) (hn _ (aU ..)) h1 (fF _);exact⟨aw,v,rfl,q1,q3,q2⟩
theorem Tf{o:Oper}{y:Operand}{f:FuncId}{k1 k2 a b c:Nat}{x1 x2:Obj}(ho:dx o.op=some y)(eQ:gz prog f=true)(hx:qi x1 a)(hJ:qi x2 b)
  (h:∀ w va vb,iL w va a->iL w vb b->Calls prog f #[va,vb] w λe w'=>∃ v,e=.returned v/\jO w w' v c/\Below w.heap.size w w') (k:Nat) :
  cD prog Bs o [.func (.func f) #[] #[],sl k1 (nd base a),sl k2 (nd base b)] [(k1,some x1),(k2,some x2),(k,none)] (sl k (nd base c)) [(k,oW c)]:=by
 refine jM (fi:=[]) (ca:=[]) ho eQ λι cc w hm hn args' aY=>?_;rw[jw,jn]at aY;obtain⟨va,vb,rfl,hv,iJ⟩:=jI aY;refine(h w va vb (Bp hm (hn (k1,some x1) s_) hx hv) (Bp hm (hn (k2,some x2) s_) hJ iJ)).mono ?_
 rintro e w' ⟨v,rfl,h1,h2⟩
 obtain⟨aw,q1,q2,q3⟩:=EU hm h2 (k:=k) (hn (k,none) s_) h1 (fF _);exact⟨aw,v,rfl,q1,q3,q2⟩
theorem Hr{o:Oper}{y:Operand}{f:FuncId}{post:aj}{k1 a:Nat}{x1:Obj}{res:Value}(ho:dx o.op=some y)(eQ:gz prog f=true)(hx:qi x1 a)(SL:∀ v∈post,flat v=true)(A0:flat res=true)
  (h:∀ w va,iL w va a->Calls prog f (va::post).toArray w λe w'=>e=.returned res/\Below w.heap.size w w') :
  cD prog Bs o (.func (.func f) #[] #[]::sl k1 (nd base a)::post) [(k1,some x1)] res []:=by
 refine jM (fi:=[]) (ca:=[]) ho eQ λι cc w hm hn args' aY=>?_;rw[jw,jn]at aY;cases aY with
 |cons hv hp=>
 rw[nJ hp SL];refine(h w _ (Bp hm (hn _ (aU ..)) hx hv)).mono ?_
 rintro e w' ⟨rfl,h2⟩
 exact⟨ι,res,rfl,Map.le.refl _,.same A0,hm.call h2⟩
theorem NN{o:Oper}{y:Operand}{f:FuncId}{k1 k2 a b:Nat}{x1 x2:Obj}{res:Value}(ho:dx o.op=some y)(eQ:gz prog f=true)(hx:qi x1 a)(hJ:qi x2 b)(A0:flat res=true)
  (h:∀ w va vb,iL w va a->iL w vb b->Calls prog f #[va,vb] w λe w'=>e=.returned res/\Below w.heap.size w w') :
  cD prog Bs o [.func (.func f) #[] #[],sl k1 (nd base a),sl k2 (nd base b)] [(k1,some x1),(k2,some x2)] res []:=by
 refine jM (fi:=[]) (ca:=[]) ho eQ λι cc w hm hn args' aY=>?_;rw[jw,jn]at aY;obtain⟨va,vb,rfl,hv,iJ⟩:=jI aY;refine(h w va vb (Bp hm (hn (k1,some x1) s_) hx hv) (Bp hm (hn (k2,some x2) s_) hJ iJ)).mono ?_
 rintro e w' ⟨rfl,h2⟩
 exact⟨ι,res,rfl,Map.le.refl _,.same A0,hm.call h2⟩
end
def pC(a:Nat):Value:=.string (BA (cq a))
def Fh(neg:Bool)(a:Nat):Value:=.agg #[.bool (neg&&decide (a≠0)),pC a]
theorem qT(a:Nat):((BA (cq a)).toList==(ByteArray.mk #[]).toList)=decide (a=0):=by rw[E2,oQ];exact aI4
theorem aAt{w:World}{va:Value}{a:Nat}{neg:Bool}(gn:iL w va a)(h1:nd base a<35184372088832):
  Calls prog 149 #[va,.bool neg] w λe w'=>e=.returned (Fh neg a)/\Below w.heap.size w w':=by
 have hl:∀ s∈[cE.row va (nd base a) (al (ae base (nd base a) a)),.plain (.bool neg)],s.OK w:=by
  intro s hs;simp at hs;rcases hs with rfl|rfl
  ·exact⟨gn,fF _⟩
  ·exact rfl
 cases neg with
 |false=>
  exact lO (Q:=λe w'=>e=.returned (Fh false a)/\Below w.heap.size w w') mixed func149 [cE.row va (nd base a) (al (ae base (nd base a) a)),.plain (.bool false)] hl 100 (N:=15) k_
   (rs:=[(.step 7 (av f149 7) _ _ _ _ (Hr (y:=.func 176) (k1:=0) (post:=[]) k_ k_ (xq a) n_ rfl λw va h=>aAf h h1):aX prog (aa.at w) 15)])
   (v:=.agg #[.bool false,pC a]) (ms:=[]) k_ λaw bZ v' w' hc bj _ _=>⟨by rw[hc.eY rfl];rfl,bj.base⟩
 |true=>
  have e:(!((BA (cq a)).toList==(ByteArray.mk #[]).toList))=decide (a≠0):=by rw[qT];simp
  exact lO (Q:=λe w'=>e=.returned (Fh true a)/\Below w.heap.size w w') mixed func149 [cE.row va (nd base a) (al (ae base (nd base a) a)),.plain (.bool true)] hl 100 (N:=15) k_
   (rs:=[(.step 7 (av f149 7) _ _ _ _ (Hr (y:=.func 176) (k1:=0) (post:=[]) k_ k_ (xq a) n_ rfl λw va h=>aAf h h1):aX prog (aa.at w) 15),.rw 11 (.bool (!((BA (cq a)).toList==(ByteArray.mk #[]).toList))) (.bool (decide (a≠0))) (by rw[e])])
   (v:=.agg #[.bool (decide (a≠0)),pC a]) (ms:=[]) k_ λaw bZ v' w' hc bj _ _=>⟨by rw[hc.eY rfl];simp[Fh],bj.base⟩
section
variable{Bs:aa}{n a k:Nat}
theorem aJy{B L X Y i d e:Nat}(h:i+1<L)(h0:d=Y/B^i%B)(h1:e=Y/B^(i+1)%B)(ho:∀ t,t≠i->t≠i+1->X/B^t%B=Y/B^t%B):((ae B L X).set i d).set (i+1) e=ae B L Y:=by
 refine NO λt=>?_;rw[List.getElem?_set,List.getElem?_set];by_cases ht:t<L
 ·rw[eB ht,eB ht];by_cases h2:i+1=t
  ·subst h2;rw[ax rfl,ax (by simp[oR];omega),h1]
  ·rw[au h2];by_cases h3:i=t
   ·subst h3;rw[ax rfl,ax (by rw[oR];omega),h0]
   ·rw[au h3,ho t (λe=>h3 e.symm) (λe=>h2 e.symm)]
 ·have e1:(ae B L X)[t]?=none:=wP (by rw[oR];omega);have e2:(ae B L Y)[t]?=none:=wP (by rw[oR];omega);rw[e1,e2,au o_,au o_]
theorem aJz{x c k:Nat}(hk:k<=31)(hx:x<base)(hc:c<2^k):(c||| (x*2^k%base))=(c+x*2^k)%base/\(c+x*2^k)/base=x*2^k/base/\x*2^k/base<2^k:=by
 obtain⟨m,hm⟩:∃ m,base=m*2^k:=⟨2^(32-k),by rw[<-eD,show 32-k+k=32 by omega]⟩;have hp:0<2^k:=cK d_;have pD:0<m:=by
  rcases oy m with e|e
  ·rw[e,lN]at hm;exact absurd hm d_
  ·exact e
 have e1:x*2^k%base=x%m*2^k:=by rw[hm,aAu]
 have e2:x*2^k/base=x/m:=by rw[hm,aAv _ _ hp]
 have e3:(c+x*2^k)/base=x/m:=by rw[hm,cS m,<-kQ,pA _ _ hp,mA hc,kh]
 have e4:(c+x*2^k)%base=c+x%m*2^k:=by
  have h1:=jm (c+x*2^k) base;rw[e3]at h1;have h2:=jm x m;have h3:x*2^k=base*(x/m)+x%m*2^k:=by
   rw[hm]
   conv=>lhs;rw[<-h2]
   rw[fE,Bq]
  generalize base*(x/m)=z at h1 h3;omega
 refine⟨?_,e3.trans e2.symm,?_⟩
 ·have:=Nw (i:=k) hc (x%m);rw[e1,e4,Nat.or_comm,cS,<-this];omega
 ·rw[e2,iK pD,cS,<-hm];exact hx
theorem aJA{i:Nat}(hk:k<=31):(a%base^i*2^k)/base^i%base=(a%base^i*2^k)/base^i/\(a%base^i*2^k)/base^i<2^k:=by
 have hp:0<base^i:=cK d_;have h1:(a%base^i*2^k)/base^i<2^k:=by rw[iK hp,cS];exact Zt (cL _ hp) (cK d_)
 refine⟨dK (cC h1 ?_),h1⟩;exact dh (c9 d_ hk) d_
theorem aJB{i:Nat}:(a%base^(i+1)*2^k)/base^i=(a%base^i*2^k)/base^i+a/base^i%base*2^k:=by have hp:0<base^i:=cK d_;rw[pz,fE,Bq,pA _ _ hp]
def sB(n a k i:Nat):aR:=[(14,vI i),(13,vI n),(12,sl 0 n),(5,sl 1 (n+1)),(1,vI k)]
def oX(n a k i:Nat):aH:=[(0,.view (al (ae base n a))),(1,.row (al (ae base (n+1) (a%base^i*2^k))) 176 1)]
theorem Tg{i:Nat}(hi:i<n)(hk:k<=31)(h63:n<35184372088832):
  ag prog Bs 40 (aF (af f204 0)) (sB n a k i) (oX n a k i) 2 ⟨.normal,sB n a k (i+1),oX n a k (i+1),2⟩:=by
 have hx:=hZ (B:=base) d_ a i;obtain⟨s1,s2⟩:=aJA (a:=a) (k:=k) (i:=i) hk;have s3:=aJB (a:=a) (k:=k) (i:=i);have jf:(al (ae base (n+1) (a%base^i*2^k)))[i]?=some (aW ((a%base^i*2^k)/base^i)):=by rw[<-s1];exact kS (eB o_)
 have ju:∀ d e,d=(a%base^(i+1)*2^k)/base^i%base->e=(a%base^(i+1)*2^k)/base^(i+1)%base->((ae base (n+1) (a%base^i*2^k)).set i d).set (i+1) e=ae base (n+1) (a%base^(i+1)*2^k):=by
  intro d e hd he;refine aJy o_ hd he λt h1 h2=>?_;rcases eL t i with h|h
  ·have e1:a%base^(i+1)*2^k=gp base i (a%base^i*2^k) ((a%base^i*2^k)/base^i+a/base^i%base*2^k):=by unfold gp;rw[pz,fE,fE,<-ux,Nat.mod_add_div',Bq]
   rw[e1,Tb d_ h]
  ·have hp:0<base^i:=cK d_;have b1:a%base^i*2^k<base^(i+1):=by rw[dy];exact aAw (cL _ hp) (dh (c9 d_ hk) d_) d_
   have b2:a%base^(i+1)*2^k<base^(i+2):=by rw[dy _ (i+1)];exact aAw (cL _ (cK d_)) (dh (c9 d_ hk) d_) d_
   rw[qQ b1 o_ d_,qQ b2 o_ d_]
 generalize hc:(a%base^i*2^k)/base^i=c at *;generalize Hs:a/base^i%base=x at *;obtain⟨t1,t2,t3⟩:=aJz hk hx s2;have hd:(c||| x*2^k%base)=(a%base^(i+1)*2^k)/base^i%base:=by rw[s3,t1]
 have he:x*2^k/base=(a%base^(i+1)*2^k)/base^(i+1)%base:=by
  have e5:∀ Z:Nat,Z/base^(i+1)=Z/base^i/base:=λZ=>by rw[dy,kQ]
  rw[e5,s3,t2];exact(dK (cC t3 (dh (c9 d_ hk) d_))).symm
 have ju:=ju _ _ hd he;have h64:x*2^k<18446744073709551616:=by have h1:x*2^k<=(base-1)*2^31:=y8 o_ (c9 d_ hk);exact e8 h1 d_
 have w25:IntKind.u32.wrap ((x:Int)*2^(min k IntKind.u32.bits))=((x*2^k%base:Nat):Int):=by
  have e:(x:Int)*2^k=((x*2^k:Nat):Int):=by simp
  rw[show min k IntKind.u32.bits=k from oq (by show k<=32;omega),nP,e];unfold base;omega
 have w34:IntKind.u64.wrap ((x:Int)*2^(min k IntKind.u64.bits))=((x*2^k:Nat):Int):=by
  have e:(x:Int)*2^k=((x*2^k:Nat):Int):=by simp
  rw[show min k IntKind.u64.bits=k from oq (by show k<=64;omega),j5,e];omega
 have q1:x*2^k%base<base:=cL _ d_;have q2:c<base:=cC s2 (dh (c9 d_ hk) d_);have q3:x*2^k/base<base:=cC t3 (dh (c9 d_ hk) d_);have Kh:e6 prog 176 (al (ae base (n+1) (a%base^i*2^k))) i (aW (c||| x*2^k%base))=some (al ((ae base (n+1) (a%base^i*2^k)).set i (c||| x*2^k%base))):=by rw[yV _ _ _ (by simp[al,oR];omega),yW]
 have Th:e6 prog 176 (al ((ae base (n+1) (a%base^i*2^k)).set i (c||| x*2^k%base))) (i+1) (aW (x*2^k/base))=some (al (ae base (n+1) (a%base^(i+1)*2^k))):=by rw[yV _ _ _ (by simp[al,oR];omega),yW,ju]
 generalize x*2^k=y at *;generalize ll:(c||| y%base)=d at *;exact aC [.lt 15 i n true (by simp[hi]),.ix f204 17 0 n i hi k_,.ld f204 18 176 0 i (.view (al (ae base n a))) (aW x) rfl (by rw[fP,<-Hs];exact kS (eB hi)) k_,.ix f204 21 1 (n+1) i o_ k_,.ld f204 22 176 1 i (.row (al (ae base (n+1) (a%base^i*2^k))) 176 1) (aW c) rfl (by rw[fP];exact jf) k_,.shl f204 25 .u32 (x:Int) ((y%base:Nat):Int) k w25 k_,.quo 26 .u32 _ ((d:Nat):Int) ((SI q2 q1).trans (by rw[ll])),.ix f204 27 1 (n+1) i o_ k_,.st f204 100027 176 1 i (.row (al (ae base (n+1) (a%base^i*2^k))) 176 1) (aW d) (.row (al ((ae base (n+1) (a%base^i*2^k)).set i d)) 176 1) rfl Kh rfl k_,.sum 30 i 1 (i+1) rfl o_,.wr 32 .u64 (x:Int) (x:Int) (by rw[j5];unfold base at hx;omega),.shl f204 34 .u64 (x:Int) (y:Int) k w34 k_,.quo 35 .u64 ((y:Int).fdiv ((2:Int)^32)) ((y/base:Nat):Int) (by rw[r6 _ d_];unfold base;omega),.wr 36 .u32 ((y/base:Nat):Int) ((y/base:Nat):Int) (by rw[nP];unfold base at q3 ⊢;omega),.ix f204 37 1 (n+1) (i+1) o_ k_,.st f204 100037 176 1 (i+1) (.row (al ((ae base (n+1) (a%base^i*2^k)).set i d)) 176 1) (aW (y/base)) (.row (al (ae base (n+1) (a%base^(i+1)*2^k))) 176 1) rfl Th rfl k_,.sum 38 i 1 (i+1) rfl o_]
theorem Ti(hk:k<=31)(h63:n<35184372088832):
  ag prog Bs 40 (.block 0 (af f204 0)) (sB n a k 0) (oX n a k 0) 2 ⟨.normal,sB n a k n,oX n a k n,2⟩:=
 bT (cd (b:=aF (af f204 0)) (r:=⟨.exit 0,sB n a k n,oX n a k n,2⟩) n (sB n a k) (oX n a k) (λi t _=>j0 (l:=oX n a k i) (m:=oX n a k 0) rfl t) (λi hi=>Tg hi hk h63)
  (aC [.lt 15 n n false s_]) n_)
end
def aAx(w w':World)(v:Value)(n a:Nat):Prop:=w'.ownsRow w.heap.size 176 1 v n (al (ae base n a))
theorem aJC{w:World}{va:Value}{a k:Nat}(gn:iL w va a)(hk:k<=31)(h1:nd base a<35184372088832):
  Calls prog 204 #[va,vI k] w λe w'=>∃ v,e=.returned v/\aAx w w' v (nd base a+1) (a*2^k)/\Below w.heap.size w w':=by
 have ak:=dU (B:=base) d_ a;have hl:∀ s∈[cE.row va (nd base a) (al (ae base (nd base a) a)),.plain (vI k)],s.OK w:=by
  intro s hs;simp at hs;rcases hs with rfl|rfl
  ·exact⟨gn,fF _⟩
  ·exact rfl
 unfold iL at gn;generalize nd base a=n at *;have aY:a%base^n=a:=dK ak
 refine lO (Q:=λe w'=>∃ v,e=.returned v/\aAx w w' v (n+1) (a*2^k)/\Below w.heap.size w w') mixed func204 [cE.row va n (al (ae base n a)),.plain (vI k)] hl 100 (N:=40) k_
  (rs:=[(aX.sum 10 n 1 (n+1) rfl o_:aX prog (aa.at w) 40),.qd f204 11 1 (n+1) 176 4 (aW 0) (al (ae base (n+1) (a%base^0*2^k))) (by rw[r7,tB,lN,SO,EZ]) rfl rfl o_ (by simp[maxLen];omega) k_,.code 0 _ _ _ _ _ (Ti (n:=n) (a:=a) hk h1)])
  (v:=sl 1 (n+1)) (ms:=[(1,.row (al (ae base (n+1) (a%base^n*2^k))) 176 1)]) k_ λaw bZ v' w' hc bj dE _=>⟨v',rfl,?_,bj.base⟩
 have:=vC bj (dE _ (aU ..)) hc (by simp[al,oR]) (fF _);rw[kB (by simp[al,oR]),aY]at this;exact this
def bl(x:Nat):Nat:=if x=0 then 0 else x.log2+1
theorem Tj{x k:Nat}(h:2^k<=x):bl x=bl (x/2^k)+k:=by
 have hp:0<2^k:=cK d_;have hx:x≠0:=by omega
 have hq:0<x/2^k:=NP h hp;unfold bl;rw[au hx,au o_];have h1:=aAy (n:=x/2^k) o_;have h2:=Nat.lt_log2_self (n:=x/2^k);have e:x.log2=(x/2^k).log2+k:=by
  rw[Nat.log2_eq_iff hx];constructor
  ·rw[eD];exact(C4 hp).1 h1
  ·rw[show(x/2^k).log2+k+1=((x/2^k).log2+1)+k by omega,eD];exact(iK hp).1 h2
 omega
theorem aAz{x n:Nat}(h:x<2^n):bl x<=n:=by
 unfold bl;split
 ·omega
 ·rename_i hx;have:=aAy hx;rcases eL x.log2 n with h1|h1
  ·omega
  ·have:=c9 (show 0<2 by decide) h1;omega
theorem aJD{x:Nat}(h:x≠0):∃ k,bl x=k+1/\2^k<=x/\x<2^(k+1):=by refine⟨x.log2,by unfold bl;rw[au h],aAy h,Nat.lt_log2_self⟩
section
variable{P:Program}{B:aa}{N:Nat}
theorem aJE{o:Oper}(ho:Hc P o=true){kd:IntKind}{s:ByteArray}{i:Nat}{c:UInt8}(hc:s[i]?=some c):cD P B o [.string s,.int kd i] [] (.int .u8 (c.toNat:Int)) []:=by
 unfold Hc at ho;split at ho
 ·rename_i t p q bW;split at ho
  ·rename_i ht;refine(Cq (λu hu=>by simp at hu;rcases hu with rfl|rfl<;>rfl) rfl λρ fV w _=>?_).step;rw[bW]at fV;simp[Op.operands]at fV;have h0:(0:Int)<=(i:Int):=by omega
   simp[execOp,bW,fV.1,fV.2,Instr.index,asIntOf,iS ht,h0,hc]
  ·cases ho
 ·cases ho
def aX.NQ(fn:Func)(key:Nat)(kd:IntKind)(s:ByteArray)(i:Nat)(c:UInt8)(hc:s[i]?=some c)(ho:Hc P (av fn key)=true):aX P B N:=
 .step key (av fn key) [.string s,.int kd i] [] (.int .u8 (c.toNat:Int)) [] (aJE ho hc)
end
noncomputable def Ht:ByteArray:=match (av f193 16).op with|.index _ (.const (.string s)) _=>s|_=>default
theorem aJF:∀ i,i<256->Ht[i]?=some (UInt8.ofNat (bl i)):=by decide +kernel
theorem aJG{x:Nat}(hx:x<base):aE prog 193 [aW x] (vI (bl x)):=by
 have fin:∀ z,z<256->∃ c:UInt8,Ht[z]?=some c/\c.toNat=bl z:=λz hz=>⟨_,aJF z hz,by have:=aAz (x:=z) (n:=8) hz;rw[NF];exact dK o_⟩
 have w8:∀ z,z<256->IntKind.u8.wrap ((z:Nat):Int)=(z:Int):=λz h=>by rw[aAe];omega
 have shr:∀(z k:Nat),(z:Int).fdiv ((2:Int)^k)=((z/2^k:Nat):Int):=λz k=>by rw[r6 _ (Hm d_),tC,Hn];rfl
 by_cases h1:65536<=x
 ·have e1:=Tj (k:=16) h1;obtain⟨y,hy⟩:∃ y,y=x/2^16:=⟨_,rfl⟩;have GM:y<65536:=by rw[hy];unfold base at hx;omega
  by_cases h2:256<=y
  ·have e2:=Tj (x:=y) (k:=8) h2;obtain⟨z,hz⟩:∃ z,z=y/2^8:=⟨_,rfl⟩;have Br:z<256:=by rw[hz];omega
   obtain⟨c,c1,c2⟩:=fin z Br;have e:bl x=24+c.toNat:=by rw[e1,<-hy,e2,<-hz,c2];omega
   rw[e];exact aM func193 (λ_=>[.ge 4 x 65536 true (by simp[h1]),.quo 6 .u32 ((x:Int).fdiv ((2:Int)^16)) (y:Int) (by rw[shr,hy]),.ge 8 y 256 true (by simp[h2]),.quo 10 .u32 ((y:Int).fdiv ((2:Int)^8)) (z:Int) (by rw[shr,hz]),.wr 15 .u8 (z:Int) (z:Int) (w8 z Br),.NQ f193 16 .u8 Ht z c c1 k_,.wr 17 .i64 (c.toNat:Int) (c.toNat:Int) (by rw[db];have:=c.toNat_lt;omega),.sum 18 24 c.toNat (24+c.toNat) rfl (by have:=c.toNat_lt;omega)])
  ·obtain⟨c,c1,c2⟩:=fin y o_;have e:bl x=16+c.toNat:=by rw[e1,<-hy,c2];omega
   rw[e];exact aM func193 (λ_=>[.ge 4 x 65536 true (by simp[h1]),.quo 6 .u32 ((x:Int).fdiv ((2:Int)^16)) (y:Int) (by rw[shr,hy]),.ge 8 y 256 false (by simp;omega),.wr 15 .u8 (y:Int) (y:Int) (w8 y o_),.NQ f193 16 .u8 Ht y c c1 k_,.wr 17 .i64 (c.toNat:Int) (c.toNat:Int) (by rw[db];have:=c.toNat_lt;omega),.sum 18 16 c.toNat (16+c.toNat) rfl (by have:=c.toNat_lt;omega)])
 ·by_cases h2:256<=x
  ·have e2:=Tj (x:=x) (k:=8) h2;obtain⟨z,hz⟩:∃ z,z=x/2^8:=⟨_,rfl⟩;have Br:z<256:=by rw[hz];omega
   obtain⟨c,c1,c2⟩:=fin z Br;have e:bl x=8+c.toNat:=by rw[e2,<-hz,c2];omega
   rw[e];exact aM func193 (λ_=>[.ge 4 x 65536 false (by simp;omega),.ge 8 x 256 true (by simp[h2]),.quo 10 .u32 ((x:Int).fdiv ((2:Int)^8)) (z:Int) (by rw[shr,hz]),.wr 15 .u8 (z:Int) (z:Int) (w8 z Br),.NQ f193 16 .u8 Ht z c c1 k_,.wr 17 .i64 (c.toNat:Int) (c.toNat:Int) (by rw[db];have:=c.toNat_lt;omega),.sum 18 8 c.toNat (8+c.toNat) rfl (by have:=c.toNat_lt;omega)])
  ·obtain⟨c,c1,c2⟩:=fin x o_;have e:bl x=0+c.toNat:=by rw[c2];omega
   rw[e];exact aM func193 (λ_=>[.ge 4 x 65536 false (by simp;omega),.ge 8 x 256 false (by simp;omega),.wr 15 .u8 (x:Int) (x:Int) (w8 x o_),.NQ f193 16 .u8 Ht x c c1 k_,.wr 17 .i64 (c.toNat:Int) (c.toNat:Int) (by rw[db];have:=c.toNat_lt;omega),.sum 18 0 c.toNat (0+c.toNat) rfl (by have:=c.toNat_lt;omega)])
theorem aJH{x:Nat}(hx:x<base):aE prog 203 [aW x] (vI (32-bl x)):=
 aM func203 (λ_=>[(aJG hx).at 4,.e7 5 32 (bl x) (32-bl x) (by have:=aAz (x:=x) (n:=32) hx;omega) o_])
def qj(x:Nat):Value:=.int .u64 (x:Int)
theorem qU{x:Nat}(h:x<18446744073709551616):IntKind.u64.wrap (x:Int)=(x:Int):=by rw[j5];omega
theorem Tk{x:Nat}(h:x<base):IntKind.u64.wrap ((x:Int)*2^32)=((x*base:Nat):Int):=by
 have e:(x:Int)*2^32=((x*base:Nat):Int):=by rw[om];rfl
 rw[e];exact qU (by have:=Bn (k:=base) h d_;exact cC this d_)
theorem Tl{x y:Nat}(hx:x<base)(hy:y<base):IntKind.u64.wrap (((BitVec.ofInt IntKind.u64.bits ((x*base:Nat):Int))||| (BitVec.ofInt IntKind.u64.bits (y:Int))).toNat:Int)=((x*base+y:Nat):Int):=by
 have h1:x*base<18446744073709551616:=by have:=Bn (k:=base) hx d_;exact cC this d_
 have h2:=Nw (i:=32) hy x;rw[SV h1 (mC hy d_),cS x base];exact cM _ h2.symm
section
variable{Bs:aa}{j m L R V T v1 v2 u2:Nat}
def us(j m:Nat):Value:=.slice (some ⟨0,j,some 7⟩) (m+1) j
def kT(j m q r:Nat):aR:=[(7,qj q),(8,qj r),(5,vI m),(0,us j m),(1,sl 1 m)]
def ik(L R m V:Nat):aH:=[(0,.row (al (ae base L R)) 176 1),(1,.view (al (ae base m V)))]
structure DG(j e L R V T v1 v2 u2:Nat):Prop where
 ds:mD base e (R/base^j) V T u2 v1 v2
 hL:j+(e+2)+1<=L
 hV:V<base^(e+2)
 h63:L<35184372088832
section
variable{e:Nat}(h:DG j e L R V T v1 v2 u2)
include h
theorem DG.hR:R/base^j<base^(e+3):=by have h1:=h.ds.hU;have h2:V*base<=base^(e+2)*base:=fo _ (je h.hV);rw[<-dy]at h2;exact cC h1 h2
theorem DG.ud{i:Nat}(hi:i<=e+2):(al (ae base L R))[j+i]?=some (aW (R/base^j/base^i%base)):=by rw[<-Hq];exact kS (eB (by have:=h.hL;omega))
omit h in
theorem DG.vd{i:Nat}(hi:i<e+2):(al (ae base (e+2) V))[i]?=some (aW (V/base^i%base)):=kS (eB hi)
theorem DG.Tm:V/base^(e+1)%base=v1:=by rw[h.ds.kO];exact EV h.hV
theorem DG.aAA:R/base^j/base^(e+2)%base*base+R/base^j/base^(e+1)%base=T:=by rw[EV (h.hR),h.ds.hT,<-xd]
theorem DG.u2d:R/base^j/base^e%base=u2:=h.ds.hu.symm
theorem DG.v2d:V/base^e%base=v2:=h.ds.iJ.symm
end
noncomputable def Tn{e:Nat}(h:DG j e L R V T v1 v2 u2)(q r:Nat)(Hu:q<base)(hr:r<base)(tr:Bool)(hq:tr=decide (r*base+u2<q*v2))(more:bI prog Bs 159):bI prog Bs 159:=
 have iJ:v2<base:=by rw[h.ds.iJ];exact cL _ d_
 have fD:u2<base:=by rw[h.ds.hu];exact cL _ d_
 have hp:q*v2<18446744073709551616:=cC (qe Hu iJ) d_;
  .ge 48 q 4294967296 false (by simp;exact Hu)::.e7 53 (e+2) 2 e rfl (by have:=h.hL;have:=h.h63;omega)::.ix f205 54 1 (e+2) e o_ k_::
  .ld f205 55 176 1 e (.view (al (ae base (e+2) V))) (aW v2) rfl (by rw[fP,<-h.v2d];exact DG.vd o_) k_::.wr 56 .u64 (v2:Int) (v2:Int) (qU (mC iJ d_))::
  .wr 57 .u64 ((q:Int)*(v2:Int)) ((q*v2:Nat):Int) (by rw[<-om];exact qU hp)::.wr 59 .u64 ((r:Int)*2^32) ((r*base:Nat):Int) (Tk hr)::
  .e7 62 (e+2) 2 e rfl (by have:=h.hL;have:=h.h63;omega)::.w9 f205 63 0 j (e+3) j e o_ k_::
  .ld f205 64 176 0 (j+e) (.row (al (ae base L R)) 176 1) (aW u2) rfl (by rw[fP,<-h.u2d];exact h.ud o_) k_::.wr 65 .u64 (u2:Int) (u2:Int) (qU (mC fD d_))::
  .quo 66 .u64 _ ((r*base+u2:Nat):Int) (Tl hr fD)::.gt 67 (q*v2) (r*base+u2) tr hq.symm::more
noncomputable def NR{e:Nat}(h:DG j e L R V T v1 v2 u2)(q r:Nat)(hq:0<q/\q<18446744073709551616)(hr:r<base)(tr:Bool)(ht:tr=decide (base<=r+v1)):bI prog Bs 159:=
 have kO:v1<base:=h.ds.C3;
 [.wr 70 .u64 ((q:Int)-1) ((q-1:Nat):Int) (by rw[j5];omega),.e7 74 (e+2) 1 (e+1) rfl (by have:=h.hL;have:=h.h63;omega),.ix f205 75 1 (e+2) (e+1) o_ k_,.ld f205 76 176 1 (e+1) (.view (al (ae base (e+2) V))) (aW v1) rfl (by rw[fP,<-h.Tm];exact DG.vd o_) k_,.wr 77 .u64 (v1:Int) (v1:Int) (qU (mC kO d_)),.wr 78 .u64 ((r:Int)+(v1:Int)) ((r+v1:Nat):Int) (by rw[<-vJ];exact qU (by unfold base at hr kO;omega)),.ge 80 (r+v1) 4294967296 tr ht.symm]
section
variable{e:Nat}(h:DG j e L R V T v1 v2 u2)
include h
theorem aAB{q r:Nat}(Hu:q<base)(hr:r<base)(hq:q*v2<=r*base+u2):
  ag prog Bs 159 (aF (af f205 0)) (kT j (e+2) q r) (ik L R (e+2) V) 2 ⟨.exit 0,kT j (e+2) q r,ik L R (e+2) V,2⟩:=
 aC (Tn h q r Hu hr false (by simp;omega) [])
theorem aJI{q r:Nat}(hq:0<q/\q<18446744073709551616)(hr:r<base)(hc:base<=q\/r*base+u2<q*v2)(ht:r+v1<base):
  ag prog Bs 159 (aF (af f205 0)) (kT j (e+2) q r) (ik L R (e+2) V) 2 ⟨.normal,kT j (e+2) (q-1) (r+v1),ik L R (e+2) V,2⟩:=by
 by_cases hb:base<=q
 ·exact aC (.ge 48 q 4294967296 true (by simp;exact hb)::NR h q r hq hr false (by simp;omega))
 ·exact aC (Tn h q r o_ hr true (by simp[hc.resolve_left hb]) (NR h q r hq hr false (by simp;omega)))
theorem aAC{q r:Nat}(hq:0<q/\q<18446744073709551616)(hr:r<base)(hc:base<=q\/r*base+u2<q*v2)(ht:base<=r+v1):
  ag prog Bs 159 (aF (af f205 0)) (kT j (e+2) q r) (ik L R (e+2) V) 2 ⟨.exit 0,kT j (e+2) (q-1) (r+v1),ik L R (e+2) V,2⟩:=by
 by_cases hb:base<=q
 ·exact aC (.ge 48 q 4294967296 true (by simp;exact hb)::NR h q r hq hr true (by simp;omega))
 ·exact aC (Tn h q r o_ hr true (by simp[hc.resolve_left hb]) (NR h q r hq hr true (by simp;omega)))
theorem aJJ:∃ q r,ag prog Bs 159 (.block 0 (af f205 0)) (kT j (e+2) (T/v1) (T%v1)) (ik L R (e+2) V) 2 ⟨.normal,kT j (e+2) q r,ik L R (e+2) V,2⟩/\q<base/\q*V<R/base^j+V/\R/base^j/V<=q:=by
 have kO:v1<base:=h.ds.C3;have xt:=h.ds.top;have Fi:0<v1:=by unfold base at xt;omega
 have nh:T%v1<v1:=cL _ Fi;have g0:=h.ds.start;have sm:∀{q r},Bm (R/base^j) V T v1 q r->q<18446744073709551616:=λg=>e8 (h.ds.aJn g) d_;have one:∀{q r q' r':Nat},ag prog Bs 159 (.loop (aF (af f205 0))) (kT j (e+2) q r) (ik L R (e+2) V) 2 ⟨.exit 0,kT j (e+2) q' r',ik L R (e+2) V,2⟩->
   ag prog Bs 159 (.block 0 (af f205 0)) (kT j (e+2) q r) (ik L R (e+2) V) 2 ⟨.normal,kT j (e+2) q' r',ik L R (e+2) V,2⟩:=λg=>bT (id:=0) g
 have zero:∀{q r:Nat} {o:mz},o.ex≠.normal->ag prog Bs 159 (aF (af f205 0)) (kT j (e+2) q r) (ik L R (e+2) V) 2 o->ag prog Bs 159 (.loop (aF (af f205 0))) (kT j (e+2) q r) (ik L R (e+2) V) 2 o:=λ{q r o} ho g=>
  cd (P:=prog) (B:=Bs) (N:=159) (b:=aF (af f205 0)) (next:=2) 0 (λ_=>kT j (e+2) q r) (λ_=>ik L R (e+2) V) (λ_ _ _=>Iff.rfl) (λi hi=>by omega) g ho
 generalize T/v1=q0 at *;generalize T%v1=r0 at *;by_cases c1:base<=q0\/r0*base+u2<q0*v2
 ·obtain⟨p1,g1⟩:=h.ds.less g0 c1;by_cases t1:base<=r0+v1
  ·obtain⟨a1,a2⟩:=h.ds.fin g1 (.inr t1);exact⟨_,_,one (zero n_ (aAC h ⟨p1,sm g0⟩ o_ c1 t1)),a1,a2,g1.le⟩
  ·have t1:=Nat.not_le.1 t1;have two:∀{o:mz},o.ex≠.normal->ag prog Bs 159 (aF (af f205 0)) (kT j (e+2) (q0-1) (r0+v1)) (ik L R (e+2) V) 2 o->ag prog Bs 159 (.loop (aF (af f205 0))) (kT j (e+2) q0 r0) (ik L R (e+2) V) 2 o:=λ{o} ho g=>
    cd (P:=prog) (B:=Bs) (N:=159) (b:=aF (af f205 0)) (next:=2) 1 (λi=>if i=0 then kT j (e+2) q0 r0 else kT j (e+2) (q0-1) (r0+v1)) (λ_=>ik L R (e+2) V) (λ_ _ _=>Iff.rfl) (λi hi=>by
     have:i=0:=by omega
     subst this;exact aJI h ⟨p1,sm g0⟩ o_ c1 t1) g ho
   by_cases c2:base<=q0-1\/(r0+v1)*base+u2<(q0-1)*v2
   ·obtain⟨p2,g2⟩:=h.ds.less g1 c2;have t2:=h.ds.aJm r0;obtain⟨a1,a2⟩:=h.ds.fin g2 (.inr t2);exact⟨_,_,one (two n_ (aAC h ⟨p2,sm g1⟩ t1 c2 t2)),a1,a2,g2.le⟩
   ·have Bt:q0-1<base/\(q0-1)*v2<=(r0+v1)*base+u2:=by
     constructor
     ·exact Nat.not_le.1 λhh=>c2 (.inl hh)
     ·exact Kf.1 λhh=>c2 (.inr hh)
    obtain⟨a1,a2⟩:=h.ds.fin g1 (.inl Bt);exact⟨_,_,one (two n_ (aAB h Bt.1 t1 Bt.2)),a1,a2,g1.le⟩
 ·have Bu:q0<base/\q0*v2<=r0*base+u2:=by
   constructor
   ·exact Nat.not_le.1 λhh=>c1 (.inl hh)
   ·exact Kf.1 λhh=>c1 (.inr hh)
  obtain⟨a1,a2⟩:=h.ds.fin g0 (.inl Bu);exact⟨_,_,one (zero n_ (aAB h Bu.1 o_ Bu.2)),a1,a2,g0.le⟩
end
end
section
variable{Bs:aa}{j L R V T v1 v2 u2:Nat}
theorem Hv{L i R S t:Nat}(ht:t<L)(h:i<=t):(al (c8 base L i S R))[t]?=some (aW (R/base^t%base)):=kS (CG ht h)
theorem Ki{L i R S:Nat}(hi:i<L){d:Nat}(hd:d=S/base^i%base):e6 prog 176 (al (c8 base L i S R)) i (aW d)=some (al (c8 base L (i+1) S R)):=by rw[yV _ i _ (by simp[al,xc];omega),yW,yU hi hd]
def ga(j m R V q:Nat):Nat:=gp base j R (fZ base m (R/base^j) V q)
def C7(j m R V q i:Nat):aR:=
 [(83,vI i),(82,vI m),(81,sl 1 m),(7,qj q),(9,qj (oA base q V i)),(10,aW (oV base (R/base^j) V q i)),(5,vI m),(0,us j m),(1,sl 1 m)]
def Bv(j m L R V q i:Nat):aH:=[(0,.row (al (c8 base L (j+i) (ga j m R V q) R)) 176 1),(1,.view (al (ae base m V)))]
section
variable{e q:Nat}(h:DG j e L R V T v1 v2 u2)(hq:q<base)(nL:q*V<R/base^j+V)
include h hq nL
omit hq in
theorem DG.qle:q*V<=R/base^j+base^(e+3):=by have h1:V<=base^(e+3):=dh (je h.hV) (c9 d_ o_);omega
omit hq in
theorem DG.sub{i:Nat}(hi:i<=e+2):aE prog 221 [aW (R/base^j/base^i%base),aW ((oA base q V i+q*(V/base^i%base))%base),aW (oV base (R/base^j) V q i)]
  (.tuple #[aW (ga j (e+2) R V q/base^(j+i)%base),aW (oV base (R/base^j) V q (i+1))]):=by
 have hb:oV base (R/base^j) V q i<=1:=Ni _ _ _;have:=ZG (x:=R/base^j/base^i%base) (y:=(oA base q V i+q*(V/base^i%base))%base) (b:=oV base (R/base^j) V q i) (cL _ d_) (cL _ d_) hb;rw[aJu d_ (h.qle nL) hi,aJv d_]at this;unfold ga;rw[xo d_];exact this
theorem aJK{i:Nat}(hi:i<e+2):
  ag prog Bs 159 (aF (af f205 2)) (C7 j (e+2) R V q i) (Bv j (e+2) L R V q i) 2 ⟨.normal,C7 j (e+2) R V q (i+1),Bv j (e+2) L R V q (i+1),2⟩:=by
 have hL:=h.hL;have h63:=h.h63;have xg:=h.sub nL (show i<=e+2 by omega);have hc:=aAk (B:=base) d_ hq V i;have vz:=aJp (B:=base) d_ q V i;have hv:V/base^i%base<base:=cL _ d_;have bM:e6 prog 176 (al (c8 base L (j+i) (ga j (e+2) R V q) R)) (j+i) (aW (ga j (e+2) R V q/base^(j+i)%base))=some (al (c8 base L (j+(i+1)) (ga j (e+2) R V q) R)):=Ki o_ rfl;have To:=DG.vd (V:=V) hi;have Tp:(al (c8 base L (j+i) (ga j (e+2) R V q) R))[j+i]?=some (aW (R/base^j/base^i%base)):=by rw[<-Hq];exact Hv o_ (bt _)
 generalize R/base^j/base^i%base=x at *;generalize V/base^i%base=y at *;generalize hC:oA base q V i=C at *;have hp:q*y<18446744069414584321:=by have h1:q*y<=(base-1)*(base-1):=y8 o_ o_;exact e8 h1 d_
 have hs:C+q*y<18446744073709551616:=by unfold base at hc;omega
 have e1:C7 j (e+2) R V q i=[(83,vI i),(82,vI (e+2)),(81,sl 1 (e+2)),(7,qj q),(9,qj C),(10,aW (oV base (R/base^j) V q i)),(5,vI (e+2)),(0,us j (e+2)),(1,sl 1 (e+2))]:=by unfold C7;rw[hC]
 rw[e1];generalize hP:q*y=W at *;exact aC [.lt 84 i (e+2) true (by simp[hi]),.ix f205 86 1 (e+2) i hi k_,.ld f205 87 176 1 i (.view (al (ae base (e+2) V))) (aW y) rfl (by rw[fP];exact To) k_,.wr 91 .u64 (y:Int) (y:Int) (qU (mC hv d_)),.wr 92 .u64 ((q:Int)*(y:Int)) (W:Int) (by rw[<-om,hP];exact qU o_),.wr 93 .u64 ((C:Int)+(W:Int)) ((C+W:Nat):Int) (by rw[<-vJ];exact qU hs),.w9 f205 99 0 j (e+3) j i o_ k_,.ld f205 100 176 0 (j+i) (.row (al (c8 base L (j+i) (ga j (e+2) R V q) R)) 176 1) (aW x) rfl (by rw[fP];exact Tp) k_,.wr 102 .u32 ((C+W:Nat):Int) (((C+W)%base:Nat):Int) (by rw[nP];unfold base;omega),xg.at 104,.w9 f205 107 0 j (e+3) j i o_ k_,.st f205 100107 176 0 (j+i) (.row (al (c8 base L (j+i) (ga j (e+2) R V q) R)) 176 1) (aW (ga j (e+2) R V q/base^(j+i)%base)) (.row (al (c8 base L (j+(i+1)) (ga j (e+2) R V q) R)) 176 1) rfl bM rfl k_,.quo 109 .u64 (((C+W:Nat):Int).fdiv ((2:Int)^32)) ((oA base q V (i+1):Nat):Int) (by rw[r6 _ d_,<-vz];unfold base;omega),.sum 110 i 1 (i+1) rfl o_]
omit h hq nL in
theorem aJL:Bv j (e+2) L R V q 0=ik L R (e+2) V:=by unfold Bv ik ga;rw[jv,NL d_]
theorem aJM:ag prog Bs 159 (.block 2 (af f205 2)) (C7 j (e+2) R V q 0) (ik L R (e+2) V) 2 ⟨.normal,C7 j (e+2) R V q (e+2),Bv j (e+2) L R V q (e+2),2⟩:=by
 rw[<-aJL (q:=q)];exact bT (id:=2) (cd (b:=aF (af f205 2)) (r:=⟨.exit 2,C7 j (e+2) R V q (e+2),Bv j (e+2) L R V q (e+2),2⟩) (e+2) (C7 j (e+2) R V q) (Bv j (e+2) L R V q) (λi t _=>j0 (l:=Bv j (e+2) L R V q i) (m:=Bv j (e+2) L R V q 0) rfl t)
  (λi hi=>aJK h hq nL hi) (aC [.lt 84 (e+2) (e+2) false s_]) n_)
end
def nT(j m R V q:Nat):Nat:=gp base j R ((fZ base m (R/base^j) V q+V)%base^(m+1))
def Hw(j m R V q i:Nat):aR:=
 [(131,vI i),(130,vI m),(129,sl 1 m),(13,aW (eR base (fZ base m (R/base^j) V q) V i)),(7,qj (q-1)),(5,vI m),(0,us j m),(1,sl 1 m)]
def Bw(j m L R V q i:Nat):aH:=[(0,.row (al (c8 base L (j+i) (nT j m R V q) (ga j m R V q))) 176 1),(1,.view (al (ae base m V)))]
section
variable{e q:Nat}(h:DG j e L R V T v1 v2 u2)
include h
theorem aJN{i:Nat}(hi:i<e+2):
  ag prog Bs 159 (aF (af f205 4)) (Hw j (e+2) R V q i) (Bw j (e+2) L R V q i) 2 ⟨.normal,Hw j (e+2) R V q (i+1),Bw j (e+2) L R V q (i+1),2⟩:=by
 have hL:=h.hL;have h63:=h.h63;have hc:=A9 (B:=base) d_ (fZ base (e+2) (R/base^j) V q) V i;have yY:=JZ (x:=fZ base (e+2) (R/base^j) V q/base^i%base) (y:=V/base^i%base) (c:=eR base (fZ base (e+2) (R/base^j) V q) V i) (cL _ d_) (cL _ d_) (e8 hc d_);rw[Te d_ (show i<=e+2 by omega),EW d_]at yY;have bM:e6 prog 176 (al (c8 base L (j+i) (nT j (e+2) R V q) (ga j (e+2) R V q))) (j+i) (aW ((fZ base (e+2) (R/base^j) V q+V)%base^(e+2+1)/base^i%base))=some (al (c8 base L (j+(i+1)) (nT j (e+2) R V q) (ga j (e+2) R V q))):=
  Ki o_ (by unfold nT;rw[xo d_])
 have To:=DG.vd (V:=V) hi;have Tp:(al (c8 base L (j+i) (nT j (e+2) R V q) (ga j (e+2) R V q)))[j+i]?=some (aW (fZ base (e+2) (R/base^j) V q/base^i%base)):=by have:=Hv (L:=L) (i:=j+i) (R:=ga j (e+2) R V q) (S:=nT j (e+2) R V q) (t:=j+i) o_ (bt _);rw[this];unfold ga;rw[xo d_]
 exact aC [.lt 132 i (e+2) true (by simp[hi]),.ix f205 134 1 (e+2) i hi k_,.ld f205 135 176 1 i (.view (al (ae base (e+2) V))) (aW (V/base^i%base)) rfl (by rw[fP];exact To) k_,.w9 f205 141 0 j (e+3) j i o_ k_,.ld f205 142 176 0 (j+i) (.row (al (c8 base L (j+i) (nT j (e+2) R V q) (ga j (e+2) R V q))) 176 1) (aW (fZ base (e+2) (R/base^j) V q/base^i%base)) rfl (by rw[fP];exact Tp) k_,yY.at 145,.w9 f205 148 0 j (e+3) j i o_ k_,.st f205 100148 176 0 (j+i) (.row (al (c8 base L (j+i) (nT j (e+2) R V q) (ga j (e+2) R V q))) 176 1) (aW ((fZ base (e+2) (R/base^j) V q+V)%base^(e+2+1)/base^i%base)) (.row (al (c8 base L (j+(i+1)) (nT j (e+2) R V q) (ga j (e+2) R V q))) 176 1) rfl bM rfl k_,.sum 149 i 1 (i+1) rfl o_]
omit h in
theorem aJO:Bw j (e+2) L R V q 0=ik L (ga j (e+2) R V q) (e+2) V:=by unfold Bw ik nT;rw[jv,<-aAl (B:=base) d_ j R (fZ base (e+2) (R/base^j) V q)];unfold ga;rw[NL d_]
theorem aJP:ag prog Bs 159 (.block 4 (af f205 4)) (Hw j (e+2) R V q 0) (ik L (ga j (e+2) R V q) (e+2) V) 2 ⟨.normal,Hw j (e+2) R V q (e+2),Bw j (e+2) L R V q (e+2),2⟩:=by
 rw[<-aJO (q:=q)];exact bT (id:=4) (cd (b:=aF (af f205 4)) (r:=⟨.exit 4,Hw j (e+2) R V q (e+2),Bw j (e+2) L R V q (e+2),2⟩) (e+2) (Hw j (e+2) R V q) (Bw j (e+2) L R V q) (λi t _=>j0 (l:=Bw j (e+2) L R V q i) (m:=Bw j (e+2) L R V q 0) rfl t)
  (λi hi=>aJN h hi) (aC [.lt 132 (e+2) (e+2) false s_]) n_)
end
noncomputable def aAD{e q r:Nat}(h:DG j e L R V T v1 v2 u2)(hq:q<base)(nL:q*V<R/base^j+V)
  (hg:ag prog Bs 159 (.block 0 (af f205 0)) (kT j (e+2) (T/v1) (T%v1)) (ik L R (e+2) V) 2 ⟨.normal,kT j (e+2) q r,ik L R (e+2) V,2⟩) (more:bI prog Bs 159):bI prog Bs 159:=
 have hL:=h.hL;have h63:=h.h63;have hx:R/base^j/base^(e+2)%base<base:=cL _ d_;have hy:R/base^j/base^(e+1)%base<base:=cL _ d_;have kO:v1<base:=h.ds.C3;have Fi:(v1:Int)≠0:=by have:=h.ds.top;unfold base at this;omega
 have hT:T<18446744073709551616:=by
  rw[<-h.aAA];have:R/base^j/base^(e+2)%base*base<=(base-1)*base:=fo _ o_;have e3:(base-1)*base=18446744069414584320:=by decide
  rw[e3]at this;clear e3;unfold base at *;omega
 have hc:=aAk (B:=base) d_ hq V (e+2);have h0:V/base^(e+2)%base=0:=qQ h.hV (bt _) d_;have xg:=h.sub nL (bt (e+2))
 have aJQ:aE prog 221 [aW (R/base^j/base^(e+2)%base),aW (oA base q V (e+2)),aW (oV base (R/base^j) V q (e+2))]
   (.tuple #[aW (ga j (e+2) R V q/base^(j+(e+2))%base),aW (oV base (R/base^j) V q (e+3))]):=by
  rw[h0,Nat.mul_zero,jv (oA base q V (e+2)),dK hc]at xg;exact xg
 have jf:(al (c8 base L (j+(e+2)) (ga j (e+2) R V q) R))[j+(e+2)]?=some (aW (R/base^j/base^(e+2)%base)):=by rw[<-Hq];exact Hv o_ (bt _)
 have bM:e6 prog 176 (al (c8 base L (j+(e+2)) (ga j (e+2) R V q) R)) (j+(e+2)) (aW (ga j (e+2) R V q/base^(j+(e+2))%base))=some (al (ae base L (ga j (e+2) R V q))):=by
  rw[Ki o_ rfl,show j+(e+2)+1=j+(e+3)by omega,Fg d_]
  ·have:=h.hR;have h2:=Hp (B:=base) d_ (j:=j) R this;rw[aJq]at h2;exact h2
  ·exact Hp d_ R (Tc d_);
 .w9 f205 20 0 j (e+3) j (e+2) o_ k_::.ld f205 21 176 0 (j+(e+2)) (.row (al (ae base L R)) 176 1) (aW (R/base^j/base^(e+2)%base)) rfl (by rw[fP];exact h.ud (bt _)) k_::
 .wr 22 .u64 ((R/base^j/base^(e+2)%base:Nat):Int) ((R/base^j/base^(e+2)%base:Nat):Int) (qU (mC hx d_))::
 .wr 23 .u64 (((R/base^j/base^(e+2)%base:Nat):Int)*2^32) ((R/base^j/base^(e+2)%base*base:Nat):Int) (Tk hx)::.e7 26 (e+2) 1 (e+1) rfl o_::
 .w9 f205 27 0 j (e+3) j (e+1) o_ k_::.ld f205 28 176 0 (j+(e+1)) (.row (al (ae base L R)) 176 1) (aW (R/base^j/base^(e+1)%base)) rfl (by rw[fP];exact h.ud o_) k_::
 .wr 29 .u64 ((R/base^j/base^(e+1)%base:Nat):Int) ((R/base^j/base^(e+1)%base:Nat):Int) (qU (mC hy d_))::.quo 30 .u64 _ ((T:Nat):Int) ((Tl hx hy).trans (by rw[h.aAA]))::
 .e7 34 (e+2) 1 (e+1) rfl o_::.ix f205 35 1 (e+2) (e+1) o_ k_::.ld f205 36 176 1 (e+1) (.view (al (ae base (e+2) V))) (aW v1) rfl (by rw[fP,<-h.Tm];exact DG.vd o_) k_::
 .wr 37 .u64 (v1:Int) (v1:Int) (qU (mC kO d_))::.qh f205 38 .u64 (T:Int) v1 ((T/v1:Nat):Int) Fi (by rw[y9 o_,<-tC];exact qU (e8 (tD _ _) hT)) k_::
 .e7 42 (e+2) 1 (e+1) rfl o_::.ix f205 43 1 (e+2) (e+1) o_ k_::.ld f205 44 176 1 (e+1) (.view (al (ae base (e+2) V))) (aW v1) rfl (by rw[fP,<-h.Tm];exact DG.vd o_) k_::
 .wr 45 .u64 (v1:Int) (v1:Int) (qU (mC kO d_))::.xh f205 46 .u64 (T:Int) v1 ((T%v1:Nat):Int) Fi (by rw[zf o_];rfl) k_::
 .code 0 _ _ _ _ _ hg::.rw 9 (.int .u64 0) (qj (oA base q V 0)) (by rw[aJo];rfl)::.rw 10 (.int .u32 0) (aW (oV base (R/base^j) V q 0)) (by unfold oV;rw[SE];rfl)::
 .code 2 _ _ _ _ _ (aJM h hq nL)::.w9 f205 116 0 j (e+3) j (e+2) o_ k_::.ld f205 117 176 0 (j+(e+2)) (.row (al (c8 base L (j+(e+2)) (ga j (e+2) R V q) R)) 176 1) (aW (R/base^j/base^(e+2)%base)) rfl (by rw[fP];exact jf) k_::
 .wr 119 .u32 ((oA base q V (e+2):Nat):Int) ((oA base q V (e+2):Nat):Int) (by rw[nP];unfold base at hc ⊢;omega)::aJQ.at 121::.w9 f205 124 0 j (e+3) j (e+2) o_ k_::
 .st f205 100124 176 0 (j+(e+2)) (.row (al (c8 base L (j+(e+2)) (ga j (e+2) R V q) R)) 176 1) (aW (ga j (e+2) R V q/base^(j+(e+2))%base)) (.row (al (ae base L (ga j (e+2) R V q))) 176 1) rfl bM rfl k_::more
theorem aJR{w:World}{g cap c' e:Nat}{cur:Array Value}{vv:Value}(h:DG j e L R V T v1 v2 u2)(hg:w.heap[g]?=some (.cells cur 176 (0,0)))(hn:e+3<=c')(mO:j+c'=cap)(jJ:cap<=maxLen)(bw:cur.size=cap*1)
  (hc:cur.toList.take (al (ae base L R)).length=al (ae base L R)) (hv:cO w vv (e+2) (al (ae base (e+2) V))) (aV:∀ b o c,vv=.slice (some ⟨b,o,none⟩) (e+2) c->b≠g) :
  Calls prog 205 #[.slice (some ⟨g,j,none⟩) (e+3) c',vv] w λex w'=>ex=.returned (aW (R/base^j/V))/\Ba g w w'/\∃ fU,w'.heap[g]?=some (.cells fU 176 (0,0))/\fU.size=cap*1/\
   fU.toList.take (al (ae base L (gp base j R (R/base^j%V)))).length=al (ae base L (gp base j R (R/base^j%V))):=by
 obtain⟨q,r,uK,hq,nL,hle⟩:=aJJ (Bs:=aa.vE w g) h;have hU:=h.ds.hU;have lq:=aJx (B:=base) d_ hq h.hV hU;have hL:=h.hL;have h63:=h.h63;have aVx:q<18446744073709551616:=mC hq d_;have key:∀(qq:Nat) (S:Nat) (rs:bI prog (aa.vE w g) 159),qq=R/base^j/V->S=gp base j R (R/base^j%V)->
   nN (fW (P:=prog) f205 100 (us j (e+2)::rZ 1 [cE.row vv (e+2) (al (ae base (e+2) V))]) ((0,.row (al (ae base L R)) 176 1)::uE 1 [cE.row vv (e+2) (al (ae base (e+2) V))]) (tx 1 [cE.row vv (e+2) (al (ae base (e+2) V))]) rs) [(0,.row (al (ae base L S)) 176 1)] =
    nO (fW f205 100 (us j (e+2)::rZ 1 [cE.row vv (e+2) (al (ae base (e+2) V))]) ((0,.row (al (ae base L R)) 176 1)::uE 1 [cE.row vv (e+2) (al (ae base (e+2) V))]) (tx 1 [cE.row vv (e+2) (al (ae base (e+2) V))]) rs) (aW qq) [(0,.row (al (ae base L S)) 176 1)]->
   Calls prog 205 #[.slice (some ⟨g,j,none⟩) (e+3) c',vv] w λex w'=>ex=.returned (aW (R/base^j/V))/\Ba g w w'/\∃ fU,w'.heap[g]?=some (.cells fU 176 (0,0))/\fU.size=cap*1/\
    fU.toList.take (al (ae base L (gp base j R (R/base^j%V)))).length=al (ae base L (gp base j R (R/base^j%V))):=by
  rintro qq S rs rfl rfl EJ
  exact aJe (ms:=[]) (cells':=al (ae base L (gp base j R (R/base^j%V)))) (v:=aW (R/base^j/V)) mixed func205 hg jJ bw hc (fF _) (fF _) hn mO [cE.row vv (e+2) (al (ae base (e+2) V))]
   (λs hs=>by simp at hs;subst hs;exact⟨hv,fF _⟩) (λs hs=>by simp at hs;subst hs;exact aV) 100 (N:=159) k_ EJ λaw S9 v' w' _ kg h1 h2 _ _=>⟨by rw[kg.eY rfl],h1,h2⟩
 by_cases hb:R/base^j<q*V
 ·rw[ax hb]at lq;obtain⟨e1,e2⟩:=aAo (B:=base) (m:=e+2) d_ h.hV hU nL hb;have e3:nT j (e+2) R V q=gp base j R (R/base^j%V):=by unfold nT;rw[e2]
  have h0:V/base^(e+2)%base=0:=qQ h.hV (bt _) d_;have Kj:=Te (B:=base) (m:=e+2) (V:=V) (D:=fZ base (e+2) (R/base^j) V q) d_ (bt (e+2));rw[h0,jv (fZ base (e+2) (R/base^j) V q/base^(e+2)%base)]at Kj;have jf:(al (c8 base L (j+(e+2)) (nT j (e+2) R V q) (ga j (e+2) R V q)))[j+(e+2)]?=some (aW (fZ base (e+2) (R/base^j) V q/base^(e+2)%base)):=by have:=Hv (L:=L) (i:=j+(e+2)) (R:=ga j (e+2) R V q) (S:=nT j (e+2) R V q) (t:=j+(e+2)) o_ (bt _);rw[this];unfold ga;rw[xo d_]
  have bM:e6 prog 176 (al (c8 base L (j+(e+2)) (nT j (e+2) R V q) (ga j (e+2) R V q))) (j+(e+2)) (aW ((fZ base (e+2) (R/base^j) V q+V)%base^(e+2+1)/base^(e+2)%base))=some (al (ae base L (nT j (e+2) R V q))):=by
   rw[Ki o_ (by unfold nT;rw[xo d_]),show j+(e+2)+1=j+(e+3)by omega,Fg d_]
   ·exact Hp d_ R (Tc d_)
   ·exact Hp d_ R (cL _ (cK d_))
  have hd:fZ base (e+2) (R/base^j) V q/base^(e+2)%base<base:=cL _ d_;have gA:=A9 (B:=base) d_ (fZ base (e+2) (R/base^j) V q) V (e+2);have hbk:=aJP (Bs:=aa.vE w g) (q:=q) h;have uL:q-1=R/base^j/V:=by rw[e1,NK]
  have mZ:0<q:=by rw[e1];exact Tq _
  refine key (q-1) (nT j (e+2) R V q) (aAD h hq nL uK [.rw 126 (.bool (((oV base (R/base^j) V q (e+3):Nat):Int)!=0)) (.bool true) (by rw[show e+3=e+2+1 from rfl,lq];rfl),.wr 128 .u64 ((q:Int)-1) ((q-1:Nat):Int) (by rw[j5];omega),.rw 13 (.int .u32 0) (aW (eR base (fZ base (e+2) (R/base^j) V q) V 0)) (by rw[Nh];rfl),.code 4 _ _ _ _ _ hbk,.w9 f205 152 0 j (e+3) j (e+2) o_ k_,.ld f205 153 176 0 (j+(e+2)) (.row (al (c8 base L (j+(e+2)) (nT j (e+2) R V q) (ga j (e+2) R V q))) 176 1) (aW (fZ base (e+2) (R/base^j) V q/base^(e+2)%base)) rfl (by rw[fP];exact jf) k_,.wr 155 .u32 (((fZ base (e+2) (R/base^j) V q/base^(e+2)%base:Nat):Int)+((eR base (fZ base (e+2) (R/base^j) V q) V (e+2):Nat):Int)) (((fZ base (e+2) (R/base^j) V q+V)%base^(e+2+1)/base^(e+2)%base:Nat):Int)
    (by rw[<-Kj,<-vJ,nP];unfold base;omega),.w9 f205 156 0 j (e+3) j (e+2) o_ k_,
   .st f205 100156 176 0 (j+(e+2)) (.row (al (c8 base L (j+(e+2)) (nT j (e+2) R V q) (ga j (e+2) R V q))) 176 1) (aW ((fZ base (e+2) (R/base^j) V q+V)%base^(e+2+1)/base^(e+2)%base)) (.row (al (ae base L (nT j (e+2) R V q))) 176 1) rfl bM rfl k_,
   .wr 158 .u32 ((q-1:Nat):Int) ((q-1:Nat):Int) (by rw[nP];unfold base at hq;omega)]) uL e3 k_
 ·rw[au hb]at lq;obtain⟨e1,e2⟩:=aAn (B:=base) (m:=e+2) d_ h.hV hU hle hb;have e3:ga j (e+2) R V q=gp base j R (R/base^j%V):=by unfold ga;rw[e2]
  exact key q (ga j (e+2) R V q) (aAD h hq nL uK [.rw 126 (.bool (((oV base (R/base^j) V q (e+3):Nat):Int)!=0)) (.bool false) (by rw[show e+3=e+2+1 from rfl,lq];rfl),.wr 158 .u32 (q:Int) (q:Int) (by rw[nP];unfold base at hq;omega)]) e1 e3 k_
end
section
variable{Bs:aa}{N:Nat}
theorem NS{o:Oper}{y:Operand}(ho:dx o.op=some y){k n M a:Nat}{x:Obj}(hx:x.reads=true)(hc:x.cells=al (ae base M a))(hnM:n<=M)(ha:a<base^n)(h63:n<=9223372036854775807){d:Nat}(hd:nd base a=d):
  cD prog Bs o [.func (.func 175) #[] #[],sl k n] [(k,some x)] (sl k d) []:=by
 subst hd;refine jM (fi:=[]) (ca:=[]) ho k_ λι c w hm hn args' dj=>?_;obtain⟨v,rfl,h1⟩:=ml dj;have hk:c k=some x:=hn _ (aU ..);have hr:=oP (len:=n) hm hk hx (by rw[hc];exact fF _) (λh=>h) h1;have e:(al (ae base M a)).take n=al (ae base n a):=by unfold al;rw[<-CD,JU hnM]
 rw[hc,mB,e]at hr;refine(Zz hr ha h63).mono ?_
 rintro e w' ⟨rfl,hb⟩
 refine⟨ι,_,rfl,Map.le.refl _,?_,hm.call hb⟩;have iD:=jl (B:=base) d_ ha;rcases h1.iw rfl with ⟨q1,q2,_,_,q5⟩|⟨b,oo,cap,c',q1,q2,q3,q5⟩
 ·rw[q5];have:nd base a=0:=by omega
  rw[this];exact .slcN q1
 ·rw[q5];exact .slc q1 o_ q3
theorem aAE{o:Oper}{y:Operand}(ho:dx o.op=some y){k1 a k n:Nat}{x1:Obj}(hx:qi x1 a)(hk:k<=31)(h1:nd base a<35184372088832)(mw:nd base a=n)(kn:Nat):
  cD prog Bs o [.func (.func 204) #[] #[],sl k1 n,vI k] [(k1,some x1),(kn,none)] (sl kn (n+1)) [(kn,.row (al (ae base (n+1) (a*2^k))) 176 1)]:=by
 subst mw;refine jM (fi:=[]) (ca:=[]) ho k_ λι cc w hm hn args' aY=>?_;rw[jw,jn]at aY;obtain⟨va,vb,rfl,hv,iJ⟩:=jI aY;rw[iJ.eY rfl];refine(aJC (Bp hm (hn _ (aU ..)) hx hv) hk h1).mono ?_
 rintro e w' ⟨v,rfl,h1,h2⟩
 obtain⟨aw,q1,q2,q3⟩:=EU hm h2 (k:=kn) (hn _ (bE _ (aU ..))) h1 (fF _);exact⟨aw,v,rfl,q1,q3,q2⟩
def aX.part{P:Program}{B:aa}(fn:Func)(key k n l h s m off:Nat)(yG:l*s=off)(hh:h<=n)(hm:l+m=h)(h0:0<m)(ho:r5 P (av fn key)=some (true,true,s)):aX P B N:=
 .step key (av fn key) [sl k n,vI l,vI h] [] (.slice (some ⟨k,off,some 7⟩) m l) [] (by
  subst yG;have:=GZ (B:=B) ho (k:=k) (off:=0) (n:=n) (cc:=0) (l:=l) (h:=h) n_ n_ o_ hh (.inl o_);have e1:h-l=m:=by omega
  rw[e1,kh,kh]at this;exact this)
end
structure DV(e L A V:Nat):Prop where
 hV:V<base^(e+2)
 top:base<=2*(V/base^(e+1))
 hL:e+2+1<=L
 hA:A<V*base^(L-(e+2))
 h63:L<35184372088832
theorem DV.pos{e L A V:Nat}(h:DV e L A V):0<V:=by
 rcases oy V with e1|e1
 ·have:=h.hA;rw[e1,lN]at this;omega
 ·exact e1
theorem DV.dg{e L A V j:Nat}(h:DV e L A V)(hj:j+(e+2)+1<=L):
  DG j e L (A%(V*base^(j+1))) V (A%(V*base^(j+1))/base^j/base^(e+1)) (V/base^(e+1)) (V/base^e%base) (A%(V*base^(j+1))/base^j/base^e%base) where
 ds:={ hB:=by decide,hU:=aAr d_ h.pos A j,hT:=rfl,hu:=rfl,kO:=rfl,iJ:=rfl,top:=h.top,C3:=by have:=h.hV;rw[iK (cK d_),cS,<-dy];exact this }
 hL:=hj
 hV:=h.hV
 h63:=h.h63
section
variable{Bs:aa}{e L A V M:Nat}
def Hx(e L p j:Nat):aR:=[(13,dq j),(12,sl 4 p),(10,sl 3 L),(9,sl 2 (e+2)),(11,vI (e+2))]
def Bx(L A V M p j:Nat):aH:=[(3,.row (al (ae base L (A%(V*base^j)))) 176 1),(4,.row (al (gG base p j (A/V))) 176 1),(2,.row (al (ae base M V)) 176 1)]
theorem aJS(h:DV e L A V)(hM:e+2<=M){p j:Nat}(hp:p+(e+2)=L)(hj:j<p):
  ag prog Bs 110 (aF (af f173 0)) (Hx e L p (j+1)) (Bx L A V M p (j+1)) 5 ⟨.normal,Hx e L p j,Bx L A V M p j,5⟩:=by
 have h63:=h.h63;have hdg:=h.dg (j:=j) o_;have hr:=aAp (B:=base) d_ A V j;have hq:=aAq (B:=base) A V j;have bM:e6 prog 176 (al (gG base p (j+1) (A/V))) j (aW (A/V/base^j%base))=some (al (gG base p j (A/V))):=by rw[yV _ _ _ (by simp[al,Nl];exact hj),yW,Np hj rfl]
 have C8:(al (ae base M V)).take (e+2)=al (ae base (e+2) V):=by unfold al;rw[<-CD,JU hM]
 have hw:cD prog Bs (av f173 76) [.func (.func 205) #[] #[],.slice (some ⟨3,j,some 7⟩) (e+3) j,sl 2 (e+2)] [(3,some (.row (al (ae base L (A%(V*base^(j+1))))) 176 1)),(2,some (.row (al (ae base M V)) 176 1))]
   (aW (A/V/base^j%base)) [(3,.row (al (ae base L (A%(V*base^j)))) 176 1)]:=by
  refine aJg (x:=.func 205) (Ta:=e+2) k_ k_ d_ o_ (fF _) (fF _) rfl rfl (fF _) o_ λw g cap cur c' v2 hg lJ mO jJ bw hc hv aV=>?_;have hv:cO w v2 (e+2) ((al (ae base M V)).take (e+2)):=hv;rw[C8]at hv;have:=aJR hdg hg lJ mO jJ bw hc hv aV;rw[hq,hr]at this;exact this
 exact aC [.rw 62 (dq (j+1)) (vI j) (dY j),.ge 63 j 0 true s_,.rw 67 (dq (j+1)) (vI j) (dY j),.rw 69 (dq (j+1)) (vI j) (dY j),.rw 70 (dq (j+1)) (vI j) (dY j),.sum 72 j (e+2) (j+(e+2)) rfl o_,.sum 73 (j+(e+2)) 1 (j+(e+3)) rfl o_,.part f173 74 3 L j (j+(e+3)) 1 (e+3) j (fX j) o_ rfl o_ k_,.step 76 _ _ _ _ _ hw,.ix f173 77 4 p j hj k_,.st f173 100077 176 4 j (.row (al (gG base p (j+1) (A/V))) 176 1) (aW (A/V/base^j%base)) (.row (al (gG base p j (A/V))) 176 1) rfl bM rfl k_,.rw 64 (dq (j+1)) (vI j) (dY j),.wr 65 .i64 ((j:Int)-1) ((j:Int)-1) (oU o_)]
theorem aJT(h:DV e L A V)(hM:e+2<=M){p:Nat}(hp:p+(e+2)=L):
  ag prog Bs 110 (.block 0 (af f173 0)) (Hx e L p p) (Bx L A V M p p) 5 ⟨.normal,Hx e L p 0,Bx L A V M p 0,5⟩:=by
 have:=cd (P:=prog) (B:=Bs) (N:=110) (b:=aF (af f173 0)) (next:=5) (r:=⟨.exit 0,Hx e L p 0,Bx L A V M p 0,5⟩) p (λi=>Hx e L p (p-i)) (λi=>Bx L A V M p (p-i)) (λi t _=>j0 (l:=Bx L A V M p (p-i)) (m:=Bx L A V M p (p-0)) rfl t)
  (λi hi=>by
   have e1:p-i=(p-(i+1))+1:=by omega
   simp only[e1];exact aJS h hM hp o_)
  (by simp only[vG];exact aC [.rw 63 (.bool (decide (((0:Nat):Int)-1>=0))) (.bool false) rfl]) n_
 exact bT (id:=0) this
section
variable{m X k p:Nat}
def Hy(m L k i:Nat):aR:=[(83,vI i),(82,vI m),(14,sl 3 m),(10,sl 3 L),(8,vI k)]
def zi(L X k i:Nat):aH:=[(3,.row (al (c8 base L i (X/2^k) X)) 176 1)]
theorem aJU{i:Nat}(hi:i<m)(hmL:m+1<=L)(hk:k<=31)(h63:L<35184372088832):
  ag prog Bs 110 (aF (af f173 2)) (Hy m L k i) (zi L X k i) 5 ⟨.normal,Hy m L k (i+1),zi L X k (i+1),5⟩:=by
 have vm:(al (c8 base L i (X/2^k) X))[i+1]?=some (aW (X/base^(i+1)%base)):=Hv o_ o_;have qJ:(al (c8 base L i (X/2^k) X))[i]?=some (aW (X/base^i%base)):=Hv o_ o_;have hd:=aAs (B:=base) (k:=k) (X:=X) (i:=i) d_ ⟨2^(32-k),by rw[<-eD,show k+(32-k)=32 by omega]⟩;have bM:e6 prog 176 (al (c8 base L i (X/2^k) X)) i (aW (X/2^k/base^i%base))=some (al (c8 base L (i+1) (X/2^k) X)):=Ki o_ rfl;have hx:X/base^(i+1)%base<base:=cL _ d_;have hy:X/base^i%base<base:=cL _ d_;generalize X/base^(i+1)%base=x at *;generalize X/base^i%base=y at *;have hb:(x*base+y)/2^k<18446744073709551616:=e8 (tD _ _) (by unfold base at *;omega);have ll:=Tl hx hy;have hs:((x*base+y:Nat):Int).fdiv (2^(min k IntKind.u64.bits))=(((x*base+y)/2^k:Nat):Int):=by rw[show min k IntKind.u64.bits=k from oq (by show k<=64;omega),r6 _ (Hm d_),tC,Hn];rfl
 generalize (x*base+y)/2^k=z at *;exact aC [.lt 84 i m true (by simp[hi]),.sum 90 i 1 (i+1) rfl o_,.ix f173 91 3 L (i+1) o_ k_,.ld f173 92 176 3 (i+1) (.row (al (c8 base L i (X/2^k) X)) 176 1) (aW x) rfl (by rw[fP];exact vm) k_,.wr 93 .u64 (x:Int) (x:Int) (qU (mC hx d_)),.wr 94 .u64 ((x:Int)*2^32) ((x*base:Nat):Int) (Tk hx),.ix f173 97 3 L i o_ k_,.ld f173 98 176 3 i (.row (al (c8 base L i (X/2^k) X)) 176 1) (aW y) rfl (by rw[fP];exact qJ) k_,.wr 99 .u64 (y:Int) (y:Int) (qU (mC hy d_)),.quo 100 .u64 _ ((x*base+y:Nat):Int) ll,.shr f173 102 .u64 ((x*base+y:Nat):Int) (z:Int) k hs k_,.wr 103 .u32 (z:Int) ((X/2^k/base^i%base:Nat):Int) (by rw[nP,<-hd];unfold base;omega),.ix f173 104 3 m i hi k_,.st f173 100104 176 3 i (.row (al (c8 base L i (X/2^k) X)) 176 1) (aW (X/2^k/base^i%base)) (.row (al (c8 base L (i+1) (X/2^k) X)) 176 1) rfl bM rfl k_,.sum 105 i 1 (i+1) rfl o_]
theorem aJV(hX:X<base^m)(hmL:m+1<=L)(hk:k<=31)(h63:L<35184372088832):
  ag prog Bs 110 (.block 2 (af f173 2)) (Hy m L k 0) [(3,.row (al (ae base L X)) 176 1)] 5 ⟨.normal,Hy m L k m,[(3,.row (al (ae base L (X/2^k))) 176 1)],5⟩:=by
 have e0:zi L X k 0=[(3,.row (al (ae base L X)) 176 1)]:=by unfold zi c8 ae;simp
 have e1:zi L X k m=[(3,.row (al (ae base L (X/2^k))) 176 1)]:=by unfold zi;rw[Fg d_ hX (e8 (tD _ _) hX)]
 rw[<-e0,<-e1];exact bT (id:=2) (cd (b:=aF (af f173 2)) (r:=⟨.exit 2,Hy m L k m,zi L X k m,5⟩) m (Hy m L k) (zi L X k) (λi t _=>j0 (l:=zi L X k i) (m:=zi L X k 0) rfl t)
  (λi hi=>aJU hi hmL hk h63) (aC [.lt 84 m m false s_]) n_)
end
end
section
variable{Bs:aa}{N:Nat}
theorem aJW{o:Oper}{y:Operand}(ho:dx o.op=some y){k1 a d n:Nat}{x1:Obj}(hx:qi x1 a)(hd:0<d)(mY:d<base)(h1:nd base a<35184372088832)(mw:nd base a=n)(kn:Nat):
  cD prog Bs o [.func (.func 202) #[] #[],sl k1 n,aW d] [(k1,some x1),(kn,none)] (.tuple #[sl kn (nd base (a/d)),aW (a%d)]) [(kn,oW (a/d))]:=by
 subst mw;refine jM (fi:=[]) (ca:=[]) ho k_ λι cc w hm hn args' aY=>?_;rw[jw,jn]at aY;obtain⟨va,vb,rfl,hv,iJ⟩:=jI aY;rw[iJ.eY rfl];refine(aIN (Bp hm (hn _ (aU ..)) hx hv) hd mY h1).mono ?_
 rintro e w' ⟨v,rfl,h1,h2⟩
 obtain⟨aw,q1,q2,q3⟩:=EU hm h2 (k:=kn) (hn _ (bE _ (aU ..))) h1 (fF _);exact⟨aw,_,rfl,q1,.tup (.cons q3 (.cons (.same rfl) .nil)),q2⟩
end
theorem aAF{a:Nat}(h:a<base):ae base 1 a=[a]:=by simp[ae,dK h]
theorem Tr{w:World}{va vb:Value}{a b:Nat}(gn:iL w va a)(lp:iL w vb b)(b9:a<b)(h1:nd base a<35184372088832)(h2:nd base b<35184372088832):
  Calls prog 173 #[va,vb] w λe w'=>e=.returned (.tuple #[.slice none 0 0,va])/\Below w.heap.size w w':=by
 have hl:∀ s∈[cE.row va (nd base a) (al (ae base (nd base a) a)),cE.row vb (nd base b) (al (ae base (nd base b) b))],s.OK w:=by
  intro s hs;simp at hs;rcases hs with rfl|rfl
  ·exact⟨gn,fF _⟩
  ·exact⟨lp,fF _⟩
 have hc:nR a b<0:=by have:=@J9 a b;omega
 refine lO (Q:=λe w'=>e=.returned (.tuple #[.slice none 0 0,va])/\Below w.heap.size w w') mixed func173 [cE.row va (nd base a) (al (ae base (nd base a) a)),cE.row vb (nd base b) (al (ae base (nd base b) b))] hl 100 (N:=110) k_
  (rs:=[(.step 18 (av f173 18) _ _ _ _ (NN (y:=.func 201) (k1:=0) (k2:=1) k_ k_ (xq a) (xq b) rfl λw va vb ha hb=>NA ha hb h1 h2):aX prog (aa.at w) 110),.rw 19 (.bool (decide (nR a b<0))) (.bool true) (by rw[aB hc])])
  (v:=.tuple #[.slice none 0 0,sl 0 (nd base a)]) (ms:=[]) k_ λaw bZ v' w' kg bj _ dj=>⟨?_,bj.base⟩
 obtain⟨cP,rfl,aY⟩:=kg.um;obtain⟨p,q,hp,h3,h4⟩:=jI aY;cases dj with
 |cons h5 _=>
 have:q=va:=JO h4 h5;have e:cP=#[p,q]:=vu.1 (by rw[hp]);rw[e,h3.eY rfl,this]
theorem Ts{w:World}{va vb:Value}{a b:Nat}(gn:iL w va a)(lp:iL w vb b)(b9:b<=a)(kU:b≠0)(hb:b<base)(h1:nd base a<35184372088832):
  Calls prog 173 #[va,vb] w λe w'=>∃ vq vr,e=.returned (.tuple #[vq,vr])/\jO w w' vq (a/b)/\jO w w' vr (a%b)/\Below w.heap.size w w':=by
 have c7:nd base b=1:=by have h3:=jl (B:=base) (n:=1) d_ (by rw[CV];exact hb);have h4:=uF (B:=base) d_ kU;omega
 have Fj:cO w vb 1 (al (ae base 1 b)):=by have:=lp;unfold iL at this;rw[c7]at this;exact this
 have hl:∀ s∈[cE.row va (nd base a) (al (ae base (nd base a) a)),cE.row vb 1 (al (ae base 1 b))],s.OK w:=by
  intro s hs;simp at hs;rcases hs with rfl|rfl
  ·exact⟨gn,fF _⟩
  ·exact⟨Fj,fF _⟩
 have hc:¬nR a b<0:=by have:=@J9 a b;omega
 have uN:qi (.view (al (ae base 1 b))) b:=by have:=xq b;rw[c7]at this;exact this
 have hr:a%b<base:=mC (cL _ (tA kU)) hb;have Tt:cD prog (aa.at w) (av f173 18) [.func (.func 201) #[] #[],sl 0 (nd base a),sl 1 1] [(0,some (.view (al (ae base (nd base a) a)))),(1,some (.view (al (ae base 1 b))))] (.int .i64 (nR a b)) []:=by have:=NN (Bs:=aa.at w) (o:=av f173 18) (f:=201) (y:=.func 201) (k1:=0) (k2:=1) (res:=.int .i64 (nR a b)) k_ k_ (xq a) uN rfl λw va vb ha hb=>NA ha hb h1 o_;rw[c7]at this;exact this
 refine lO (Q:=λe w'=>∃ vq vr,e=.returned (.tuple #[vq,vr])/\jO w w' vq (a/b)/\jO w w' vr (a%b)/\Below w.heap.size w w') mixed func173 [cE.row va (nd base a) (al (ae base (nd base a) a)),cE.row vb 1 (al (ae base 1 b))] hl 100 (N:=110) k_
  (rs:=[(.step 18 (av f173 18) _ _ _ _ Tt:aX prog (aa.at w) 110),.rw 19 (.bool (decide (nR a b<0))) (.bool false) (by rw[aJ hc]),.ld f173 28 176 1 0 (.view (al (ae base 1 b))) (aW b) rfl (by rw[fP,aAF hb];rfl) k_,.step 29 (av f173 29) _ _ _ _ (aJW (y:=.func 202) (k1:=0) k_ (xq a) (tA kU) hb h1 rfl 2),.bs f173 34 3 1 176 1 [0] (aW 0) [aW (a%b)] #[aW (a%b)] (.row (al (ae base 1 (a%b))) 176 1) (by rw[aAF hr];rfl) (λv hv=>by simp at hv;subst hv;rfl) (λv hv=>by simp at hv;subst hv;rfl) k_ rfl o_ o_ k_,.step 35 (av f173 35) _ _ _ _ (NS (y:=.func 175) (k:=3) (n:=1) (M:=1) (a:=a%b) (x:=.row (al (ae base 1 (a%b))) 176 1) k_ rfl rfl (bt 1) (by rw[CV];exact hr) o_ rfl)])
  (v:=.tuple #[sl 2 (nd base (a/b)),sl 3 (nd base (a%b))]) (ms:=[(2,oW (a/b)),(3,.row (al (ae base 1 (a%b))) 176 1)]) k_ λaw bZ v' w' kg bj dE _=>?_
 obtain⟨cP,rfl,aY⟩:=kg.um;obtain⟨p,q,hp,h3,h4⟩:=jI aY;have e:cP=#[p,q]:=vu.1 (by rw[hp]);subst e;exact⟨p,q,rfl,xf bj (dE _ (aU ..)) (dU d_ _) h3,xf bj (dE _ (bE _ (aU ..))) (by rw[CV];exact hr) h4,bj.base⟩
theorem norm{a b e:Nat}(b9:b<=a)(hb:nd base b=e+2)(h1:nd base a<35184372088831):
  ∃ k,k<=31/\32-bl (b/base^(e+1)%base)=k/\DV e (nd base a+1) (a*2^k) (b*2^k)/\nd base (b*2^k)=e+2/\b*2^k<base^(e+3):=by
 have ak:=dU (B:=base) d_ b;rw[hb]at ak;have dT:base^(e+1)<=b:=Zq d_ o_;have hp:0<base^(e+1):=cK d_;have hd:b/base^(e+1)%base=b/base^(e+1):=EV ak;obtain⟨d,lT⟩:∃ d,d=b/base^(e+1):=⟨_,rfl⟩;have mY:d<base:=by rw[lT,<-hd];exact cL _ d_
 have C9:d≠0:=by have:=NP dT hp;omega
 obtain⟨t,t1,t2,t3⟩:=aJD C9;have ht:t<=31:=by
  rcases eL t 32 with h|h
  ·omega
  ·have:=c9 (show 0<2 by decide) h;have e32:(2:Nat)^32=base:=by decide
   omega
 have fN:0<2^(31-t):=cK d_;have hV1:d*2^(31-t)<=b*2^(31-t)/base^(e+1):=by rw[C4 hp,Bq];refine fo _ ?_;rw[lT];exact C5 _ _
 have xt:base<=2*(b*2^(31-t)/base^(e+1)):=by
  have h3:2^t*2^(31-t)<=d*2^(31-t):=fo _ t2;rw[<-eD,show t+(31-t)=31 by omega]at h3;have e31:base=2*2^31:=by decide
  omega
 have xn:b*2^(31-t)<base^(e+2):=by
  have h3:b<(d+1)*base^(e+1):=by rw[lT];exact(iK hp).1 (Bo _)
  have h4:(d+1)*2^(31-t)<=base:=by have:(d+1)*2^(31-t)<=2^(t+1)*2^(31-t):=fo _ t3;rw[<-eD,show t+1+(31-t)=32 by omega]at this;exact this
  have h5:b*2^(31-t)<(d+1)*base^(e+1)*2^(31-t):=Bn h3 fN;rw[Bq]at h5;have h6:(d+1)*2^(31-t)*base^(e+1)<=base*base^(e+1):=fo _ h4;rw[cS base,<-dy]at h6;exact cC h5 h6
 have Fk:e+2<=nd base a:=by rw[<-hb];exact iU d_ b9
 refine⟨31-t,by omega,by rw[hd,<-lT,t1];omega,{ hV:=xn,top:=xt,hL:=by omega,hA:=?_,h63:=by omega },?_,cC xn (c9 d_ o_)⟩
 ·have ha:=dU (B:=base) d_ a;have h3:a*2^(31-t)<base^nd base a*2^(31-t):=Bn ha fN;have h4:2^(31-t)*base^(e+1)<=b*2^(31-t):=by rw[cS];exact fo _ dT
  have h5:2^(31-t)*base^(e+1)*base^(nd base a+1-(e+2))<=b*2^(31-t)*base^(nd base a+1-(e+2)):=fo _ h4;rw[fO,<-eD,show e+1+(nd base a+1-(e+2))=nd base a by omega,cS]at h5;exact cC h3 h5
 ·refine Z7 (jl d_ xn) ?_;rw[<-hb];exact iU d_ (E5 _ fN)
theorem Tu{w:World}{va vb:Value}{a b e:Nat}(gn:iL w va a)(lp:iL w vb b)(b9:b<=a)(hb:nd base b=e+2)(h1:nd base a<35184372088831):
  Calls prog 173 #[va,vb] w λe w'=>∃ vq vr,e=.returned (.tuple #[vq,vr])/\jO w w' vq (a/b)/\jO w w' vr (a%b)/\Below w.heap.size w w':=by
 obtain⟨k,hk,hlz,qk,NT,hV3⟩:=norm b9 hb h1;have mR:nd base b<35184372088831:=e8 (iU d_ b9) h1;have ak:=dU (B:=base) d_ b;have aVy:=dU (B:=base) d_ a;rw[hb]at ak;have wT:0<2^k:=cK d_;have Kk:0<b:=by
  rcases oy b with h|h
  ·rw[h,pw]at hb;omega
  ·exact h
 have Fj:cO w vb (e+2) (al (ae base (e+2) b)):=by have:=lp;unfold iL at this;rw[hb]at this;exact this
 have hl:∀ s∈[cE.row va (nd base a) (al (ae base (nd base a) a)),cE.row vb (e+2) (al (ae base (e+2) b))],s.OK w:=by
  intro s hs;simp at hs;rcases hs with rfl|rfl
  ·exact⟨gn,fF _⟩
  ·exact⟨Fj,fF _⟩
 have hc:¬nR a b<0:=by have:=@J9 a b;omega
 have uN:qi (.view (al (ae base (e+2) b))) b:=by have:=xq b;rw[hb]at this;exact this
 have Tt:cD prog (aa.at w) (av f173 18) [.func (.func 201) #[] #[],sl 0 (nd base a),sl 1 (e+2)] [(0,some (.view (al (ae base (nd base a) a)))),(1,some (.view (al (ae base (e+2) b))))] (.int .i64 (nR a b)) []:=by have:=NN (Bs:=aa.at w) (o:=av f173 18) (f:=201) (y:=.func 201) (k1:=0) (k2:=1) (res:=.int .i64 (nR a b)) k_ k_ (xq a) uN rfl λw va vb ha hb=>NA ha hb o_ o_;rw[hb]at this;exact this
 have Fk:e+2<=nd base a:=by rw[<-hb];exact iU d_ b9
 have aVz:nd base a=nd base a:=rfl;have lz:=aJH (x:=b/base^(e+1)%base) (cL _ d_);rw[hlz]at lz;have gm:2<=e+2:=by omega
 obtain⟨p,hp⟩:∃ p,p+(e+2)=nd base a+1:=⟨nd base a+1-(e+2),by omega⟩;have NU:=aJT (Bs:=aa.at w) (M:=e+3) qk o_ hp;have hA:=qk.hA;rw[show nd base a+1-(e+2)=p by omega]at hA;have Tv:a*2^k%(b*2^k*base^p)=a*2^k:=dK hA;have Tw:a*2^k%(b*2^k*base^0)=a%b*2^k:=by rw[r7,fX,aAu]
 have hQ:a*2^k/(b*2^k)=a/b:=aAv _ _ wT;have aJX:a%b*2^k<base^(e+2):=by refine cC (Bn (cL _ Kk) wT) (je qk.hV)
 have yL:=aJV (Bs:=aa.at w) (L:=nd base a+1) (k:=k) aJX o_ hk o_;rw[SH _ wT]at yL;have Kl:a/b<base^p:=by rw[<-hQ,iK qk.pos,cS (base^p)];exact hA
 have Hz:a%b<base^(e+2):=mC (cL _ Kk) ak;unfold Bx at NU;rw[Tv,Tw,hQ,Nn,JY]at NU;generalize hn:nd base a=n at *
 refine lO (Q:=λe w'=>∃ vq vr,e=.returned (.tuple #[vq,vr])/\jO w w' vq (a/b)/\jO w w' vr (a%b)/\Below w.heap.size w w') mixed func173 [cE.row va n (al (ae base n a)),cE.row vb (e+2) (al (ae base (e+2) b))] hl 100 (N:=110) k_
  (rs:=[(.step 18 (av f173 18) _ _ _ _ Tt:aX prog (aa.at w) 110),.rw 19 (.bool (decide (nR a b<0))) (.bool false) (by rw[aJ hc]),.fv 23 (e+2) 1 false s_,.e7 39 (e+2) 1 (e+1) rfl o_,.ix f173 40 1 (e+2) (e+1) o_ k_,.ld f173 41 176 1 (e+1) (.view (al (ae base (e+2) b))) (aW (b/base^(e+1)%base)) rfl (by rw[fP];exact DG.vd o_) k_,lz.at 42,.step 45 (av f173 45) _ _ _ _ (aAE (y:=.func 204) (k1:=1) k_ uN hk o_ hb 2),.step 46 (av f173 46) _ _ _ _ (NS (y:=.func 175) (k:=2) (n:=e+3) (M:=e+3) (a:=b*2^k) (x:=.row (al (ae base (e+3) (b*2^k))) 176 1) k_ rfl rfl (bt _) hV3 o_ NT),.step 49 (av f173 49) _ _ _ _ (aAE (y:=.func 204) (k1:=0) (x1:=.view (al (ae base n a))) k_ (by have:=xq a;rw[hn]at this;exact this) hk o_ hn 3),.e7 55 (n+1) (e+2) p o_ o_,.qd f173 56 4 p 176 4 (aW 0) (al (List.replicate p 0)) (EZ _) rfl rfl o_ (by simp[maxLen];omega) k_,.e7 60 (n+1) (e+2) p o_ o_,.wr 61 .i64 ((p:Int)-1) ((p:Int)-1) (oU o_),.code 0 _ _ _ _ _ NU,.upto f173 80 3 (n+1) (e+2) 1 o_ k_,.code 2 _ _ _ _ _ yL,.step 107 (av f173 107) _ _ _ _ (NS (y:=.func 175) (k:=4) (n:=p) (M:=p) (a:=a/b) (x:=.row (al (ae base p (a/b))) 176 1) k_ rfl rfl (bt _) Kl o_ rfl),.step 109 (av f173 109) _ _ _ _ (NS (y:=.func 175) (k:=3) (n:=e+2) (M:=n+1) (a:=a%b) (x:=.row (al (ae base (n+1) (a%b))) 176 1) k_ rfl rfl o_ Hz o_ rfl)])
  (v:=.tuple #[sl 4 (nd base (a/b)),sl 3 (nd base (a%b))]) (ms:=[(4,.row (al (ae base p (a/b))) 176 1),(3,.row (al (ae base (n+1) (a%b))) 176 1)]) k_ λaw bZ v' w' kg bj dE _=>?_
 obtain⟨cP,rfl,aY⟩:=kg.um;obtain⟨p,q,hp,h3,h4⟩:=jI aY;have e:cP=#[p,q]:=vu.1 (by rw[hp]);subst e;exact⟨p,q,rfl,xf bj (dE _ (aU ..)) Kl h3,xf bj (dE _ (bE _ (aU ..))) (cC Hz (c9 d_ o_)) h4,bj.base⟩
def sv(neg:Bool)(m:Nat):Value:=.agg #[.bool neg,pC m]
def sg(neg:Bool)(m:Nat):Int:=if neg then -(m:Int)else m
def bN(z:Int):Value:=sv (decide (z<0)) z.natAbs
theorem uO(neg:Bool)(m:Nat):Fh neg m=bN (sg neg m):=by
 cases neg
 ·have e:decide ((m:Int)<0)=false:=by simp
  show Value.agg #[.bool false,pC m]=Value.agg #[.bool (decide ((m:Int)<0)),pC (m:Int).natAbs];rw[e];rfl
 ·have e:(decide (-(m:Int)<0))=decide (m≠0):=by rw[oQ];omega
  show Value.agg #[.bool (decide (m≠0)),pC m]=Value.agg #[.bool (decide (-(m:Int)<0)),pC (-(m:Int)).natAbs];rw[e,Km];rfl
theorem sC{C:Int->Value->Prop}(h0:∀ m:Nat,C m (sv false m))(h1:∀ m:Nat,m≠0->C (-(m:Int)) (sv true m))(z:Int):C z (bN z):=by
 by_cases hz:z<0
 ·obtain⟨m,rfl⟩:∃ m:Nat,z=-(m:Int):=⟨z.natAbs,by omega⟩;have:=h1 m o_;have e:bN (-(m:Int))=sv true m:=by unfold bN;rw[aB hz,Km];rfl
  rw[e];exact this
 ·obtain⟨m,rfl⟩:∃ m:Nat,z=(m:Int):=⟨z.natAbs,by omega⟩;have e:bN (m:Int)=sv false m:=by unfold bN;rw[aJ hz];rfl
  rw[e];exact h0 m
theorem xu{m n:Nat}(h:m<2^n):nd base m<=n:=jl d_ (cC h (aAG d_ n))
theorem vK{m n:Nat}(h:m<2^n):nd 256 m<=n:=jl d_ (cC h (aAG d_ n))
theorem aAH{w:World}{m n:Nat}(h:m<2^n)(hn:n<=1099511627776):Calls prog 172 #[pC m] w λe w'=>∃ v,e=.returned v/\jO w w' v m/\Below w.heap.size w w':=by have e:kD (BA (cq m))=m:=Fb m;have:=aIF (w:=w) (s:=BA (cq m)) (by rw[oT,tE];have:=vK h;omega);rw[e]at this;exact this
section
variable{Bs:aa}{N:Nat}
def aX.of(fn:Func)(key k m n:Nat)(h:m<2^n)(hn:n<=1099511627776){y:Operand}(ho:dx (av fn key).op=some y):aX prog Bs N:=
 .step key (av fn key) [.func (.func 172) #[] #[],pC m] [(k,none)] (sl k (nd base m)) [(k,oW m)] (NM ho k_ (λv hv=>by simp at hv;subst hv;rfl) (λ_=>aAH h hn) k)
def aX.add(fn:Func)(key k k1 k2 a b:Nat)(h1:nd base a<35184372088832)(h2:nd base b<35184372088832){y:Operand}(ho:dx (av fn key).op=some y):aX prog Bs N:=
 .step key (av fn key) _ _ _ _ (Tf (f:=209) (k1:=k1) (k2:=k2) ho k_ (nS a) (nS b) (λ_ _ _ ha hb=>aId ha hb h1 h2) k)
def aX.less(fn:Func)(key k k1 k2 a b:Nat)(b9:b<=a)(h1:nd base a<35184372088832){y:Operand}(ho:dx (av fn key).op=some y):aX prog Bs N:=
 .step key (av fn key) _ _ _ _ (Tf (f:=210) (k1:=k1) (k2:=k2) ho k_ (nS a) (nS b) (λ_ _ _ ha hb=>aIi ha hb b9 h1) k)
def aX.mul(fn:Func)(key k k1 k2 a b:Nat)(h1:nd base a<1099511627777)(h2:nd base b<1099511627777){y:Operand}(ho:dx (av fn key).op=some y):aX prog Bs N:=
 .step key (av fn key) _ _ _ _ (Tf (f:=217) (k1:=k1) (k2:=k2) ho k_ (nS a) (nS b) (λ_ _ _ ha hb=>aIv ha hb o_) k)
def aX.cmp(fn:Func)(key k1 k2 a b:Nat)(h1:nd base a<35184372088832)(h2:nd base b<35184372088832){y:Operand}(ho:dx (av fn key).op=some y):aX prog Bs N:=
 .step key (av fn key) _ _ _ _ (NN (f:=201) (k1:=k1) (k2:=k2) (res:=.int .i64 (nR a b)) ho k_ (nS a) (nS b) rfl λ_ _ _ ha hb=>NA ha hb h1 h2)
def aX.tF(fn:Func)(key k a:Nat)(x:Obj)(hx:qi x a)(neg:Bool)(h1:nd base a<35184372088832){y:Operand}(ho:dx (av fn key).op=some y):aX prog Bs N:=
 .step key (av fn key) _ _ _ _ (Hr (f:=149) (k1:=k) (post:=[.bool neg]) (res:=Fh neg a) ho k_ hx (λv hv=>by simp at hv;subst hv;rfl) rfl λ_ _ h=>aAt h h1)
end
def xw(neg:Bool):List UInt8->Bool
 |[]=>!neg
 |c::_=>decide (c≠0)
theorem zj(neg:Bool)(l:List UInt8):aE prog 107 [.agg #[.bool neg,.string (BA l)]] (.bool (xw neg l)):=by
 cases l with
 |nil=>exact aM func107 (λ_=>[.rw 5 (.bool ((BA []).toList==(ByteArray.mk #[]).toList)) (.bool true) (by rw[E2];rfl)])
 |cons c l=>
  have e:(((c.toNat:Nat):Int)!=0)=decide (c≠0):=by
   by_cases h:c=0
   ·subst h;rfl
   ·rw[aB h,uG];intro h2;exact h (Ny.1 (by simpa using h2))
  exact aM func107 (λ_=>[.rw 5 (.bool ((BA (c::l)).toList==(ByteArray.mk #[]).toList)) (.bool false) (by rw[E2];rfl),.sx f107 11 (BA (c::l)) 0 c (by rw[J6];rfl) k_,.rw 12 (.bool (((c.toNat:Nat):Int)!=0)) (.bool (decide (c≠0))) (by rw[e])])
theorem cY(neg:Bool){m:Nat}(h:neg=true->m≠0):aE prog 107 [sv neg m] (.bool true):=by
 have:=zj neg (cq m);have e:xw neg (cq m)=true:=by
  by_cases hm:m=0
  ·subst hm;rw[CZ];cases neg
   ·rfl
   ·exact absurd rfl (h rfl)
  ·obtain⟨c,l,h1,h2⟩:=NG hm;rw[h1];exact aB h2
 rw[e]at this;exact this
theorem kV{z:Int}(h:z.natAbs<9223372036854775808):aE prog 110 [.int .i64 z] (bN z):=by
 have iD:nd base z.natAbs<35184372088832:=by have:=xu (m:=z.natAbs) (n:=63) o_;omega
 by_cases hz:z<0
 ·have e:=uO true z.natAbs;have e2:sg true z.natAbs=z:=by show -((z.natAbs:Nat):Int)=z;omega
  rw[e2]at e;rw[<-e];exact aM func110 (λ_=>[.rw 4 (.bool (decide (z<0))) (.bool true) (by rw[aB hz]),.wr 6 .u64 z (z+18446744073709551616) (by rw[j5];omega),.wr 7 .u64 (0-(z+18446744073709551616)) (z.natAbs:Int) (by rw[j5];omega),.step 8 (av f110 8) _ _ _ _ (NM (y:=.func 148) (args:=[.int .u64 (z.natAbs:Int)]) k_ k_ (λv hv=>by simp at hv;subst hv;rfl) (λ_=>SZ (n:=z.natAbs) o_) 1),.tF f110 9 1 z.natAbs (oW z.natAbs) (nS _) true iD (y:=.func 149) k_])
 ·have e:=uO false z.natAbs;have e2:sg false z.natAbs=z:=by show((z.natAbs:Nat):Int)=z;omega
  rw[e2]at e;rw[<-e];exact aM func110 (λ_=>[.rw 4 (.bool (decide (z<0))) (.bool false) (by rw[aJ hz]),.wr 11 .u64 z (z.natAbs:Int) (by rw[j5];omega),.step 12 (av f110 12) _ _ _ _ (NM (y:=.func 148) (args:=[.int .u64 (z.natAbs:Int)]) k_ k_ (λv hv=>by simp at hv;subst hv;rfl) (λ_=>SZ (n:=z.natAbs) o_) 1),.tF f110 13 1 z.natAbs (oW z.natAbs) (nS _) false iD (y:=.func 149) k_])
theorem sD(z:Int):aE prog 108 [bN z] (.int .i64 z.sign):=by
 refine sC (C:=λz v=>aE prog 108 [v] (.int .i64 z.sign)) (λm=>?_) (λm hm=>?_) z
 ·by_cases h:m=0
  ·subst h;exact aM func108 (λ_=>[(cY false (m:=0) n_).at 5,.rw 10 (.bool ((BA (cq 0)).toList==(ByteArray.mk #[]).toList)) (.bool true) (by rw[qT];rfl)])
  ·have e:((m:Nat):Int).sign=1:=Bz o_;rw[e];exact aM func108 (λ_=>[(cY false (m:=m) n_).at 5,.rw 10 (.bool ((BA (cq m)).toList==(ByteArray.mk #[]).toList)) (.bool false) (by rw[qT,aJ h])])
 ·have e:(-(m:Int)).sign=-1:=Fl o_;rw[e];exact aM func108 (λ_=>[(cY true (m:=m) (λ_=>hm)).at 5,.rw 10 (.bool ((BA (cq m)).toList==(ByteArray.mk #[]).toList)) (.bool false) (by rw[qT,aJ hm])])
theorem oB(z:Int):aE prog 208 [bN z] (bN (-z)):=by
 refine sC (C:=λz v=>aE prog 208 [v] (bN (-z))) (λm=>?_) (λm hm=>?_) z
 ·have e:=uO true m;rw[<-show sg true m=-(m:Int)from rfl,<-e];have e:(!((BA (cq m)).toList==(ByteArray.mk #[]).toList))=decide (m≠0):=by rw[qT];simp
  exact aM func208 (λ_=>[(cY false (m:=m) n_).at 4,.rw 13 (.bool (!((BA (cq m)).toList==(ByteArray.mk #[]).toList))) (.bool (decide (m≠0))) (by rw[e])])
 ·have e:=uO false m;rw[Kn,<-show sg false m=(m:Int)from rfl,<-e];exact aM func208 (λ_=>[(cY true (m:=m) (λ_=>hm)).at 4])
theorem Tx{n1 n2:Bool}{m1 m2 p q:Nat}(v1:n1=true->m1≠0)(v2:n2=true->m2≠0)(h1:m1<2^p)(h2:m2<2^q)(hp:p<=1099511627776)(hq:q<=1099511627776):
  aE prog 180 [sv n1 m1,sv n2 m2] (bN (sg n1 m1+sg n2 m2)):=by
 have b1:=xu h1;have b2:=xu h2;have same:∀ n:Bool,n1=n->n2=n->aE prog 180 [sv n1 m1,sv n2 m2] (bN (sg n1 m1+sg n2 m2)):=by
  rintro n rfl rfl
  have bs:nd base (m1+m2)<35184372088832:=by
   have:=xu (m:=m1+m2) (n:=p+q+1) (by have e1:=c9 (show 0<2 by decide) (show p<=p+q by omega);have e2:=c9 (show 0<2 by decide) (show q<=p+q by omega);rw[dy];omega)
   omega
  have e:sg n2 m1+sg n2 m2=sg n2 (m1+m2):=by cases n2<;>simp[sg]<;>omega
  rw[e,<-uO];cases n2
  ·exact aM func180 (λ_=>[(cY _ v1).at 8,(cY _ v2).at 12,.of f180 18 3 m1 p h1 hp (y:=.func 172) k_,.of f180 21 4 m2 q h2 hq (y:=.func 172) k_,.add f180 30 5 3 4 m1 m2 o_ o_ (y:=.func 209) k_,.tF f180 33 5 (m1+m2) (oW (m1+m2)) (nS _) false bs (y:=.func 149) k_])
  ·exact aM func180 (λ_=>[(cY _ v1).at 8,(cY _ v2).at 12,.of f180 18 3 m1 p h1 hp (y:=.func 172) k_,.of f180 21 4 m2 q h2 hq (y:=.func 172) k_,.add f180 30 5 3 4 m1 m2 o_ o_ (y:=.func 209) k_,.tF f180 33 5 (m1+m2) (oW (m1+m2)) (nS _) true bs (y:=.func 149) k_])
 have diff:n1≠n2->aE prog 180 [sv n1 m1,sv n2 m2] (bN (sg n1 m1+sg n2 m2)):=by
  intro aV;by_cases dT:m2<=m1
  ·have bs:nd base (m1-m2)<35184372088832:=by have:=iU (B:=base) d_ (BB m1 m2);omega
   have e:sg n1 m1+sg n2 m2=sg n1 (m1-m2):=by cases n1<;>cases n2<;>simp[sg]at aV ⊢<;>omega
   have hc:decide (nR m1 m2>=0)=true:=aB (J9.2 dT);rw[e,<-uO];cases n1<;>cases n2<;>first|exact absurd rfl aV|skip
   ·exact aM func180 (λ_=>[(cY _ v1).at 8,(cY _ v2).at 12,.of f180 18 3 m1 p h1 hp (y:=.func 172) k_,.of f180 21 4 m2 q h2 hq (y:=.func 172) k_,.cmp f180 37 3 4 m1 m2 o_ o_ (y:=.func 201) k_,.rw 38 (.bool (decide (nR m1 m2>=0))) (.bool true) (by rw[hc]),.less f180 41 5 3 4 m1 m2 dT o_ (y:=.func 210) k_,.tF f180 44 5 (m1-m2) (oW (m1-m2)) (nS _) false bs (y:=.func 149) k_])
   ·exact aM func180 (λ_=>[(cY _ v1).at 8,(cY _ v2).at 12,.of f180 18 3 m1 p h1 hp (y:=.func 172) k_,.of f180 21 4 m2 q h2 hq (y:=.func 172) k_,.cmp f180 37 3 4 m1 m2 o_ o_ (y:=.func 201) k_,.rw 38 (.bool (decide (nR m1 m2>=0))) (.bool true) (by rw[hc]),.less f180 41 5 3 4 m1 m2 dT o_ (y:=.func 210) k_,.tF f180 44 5 (m1-m2) (oW (m1-m2)) (nS _) true bs (y:=.func 149) k_])
  ·have bs:nd base (m2-m1)<35184372088832:=by have:=iU (B:=base) d_ (BB m2 m1);omega
   have e:sg n1 m1+sg n2 m2=sg n2 (m2-m1):=by cases n1<;>cases n2<;>simp[sg]at aV ⊢<;>omega
   have hc:decide (nR m1 m2>=0)=false:=aJ (λh=>dT (J9.1 h));rw[e,<-uO];cases n1<;>cases n2<;>first|exact absurd rfl aV|skip
   ·exact aM func180 (λ_=>[(cY _ v1).at 8,(cY _ v2).at 12,.of f180 18 3 m1 p h1 hp (y:=.func 172) k_,.of f180 21 4 m2 q h2 hq (y:=.func 172) k_,.cmp f180 37 3 4 m1 m2 o_ o_ (y:=.func 201) k_,.rw 38 (.bool (decide (nR m1 m2>=0))) (.bool false) (by rw[hc]),.less f180 47 5 4 3 m2 m1 o_ o_ (y:=.func 210) k_,.tF f180 50 5 (m2-m1) (oW (m2-m1)) (nS _) true bs (y:=.func 149) k_])
   ·exact aM func180 (λ_=>[(cY _ v1).at 8,(cY _ v2).at 12,.of f180 18 3 m1 p h1 hp (y:=.func 172) k_,.of f180 21 4 m2 q h2 hq (y:=.func 172) k_,.cmp f180 37 3 4 m1 m2 o_ o_ (y:=.func 201) k_,.rw 38 (.bool (decide (nR m1 m2>=0))) (.bool false) (by rw[hc]),.less f180 47 5 4 3 m2 m1 o_ o_ (y:=.func 210) k_,.tF f180 50 5 (m2-m1) (oW (m2-m1)) (nS _) false bs (y:=.func 149) k_])
 by_cases h:n1=n2
 ·exact same n2 h rfl
 ·exact diff h
theorem Fm{C:Int->Int->Value->Value->Prop}(h:∀(n1 n2:Bool) (m1 m2:Nat),(n1=true->m1≠0)->(n2=true->m2≠0)->C (sg n1 m1) (sg n2 m2) (sv n1 m1) (sv n2 m2))(x y:Int):C x y (bN x) (bN y):=
 sC (C:=λx v=>C x y v (bN y)) (λm=>sC (C:=λy u=>C m y (sv false m) u) (λk=>h false false m k n_ n_) (λk hk=>h false true m k n_ (λ_=>hk)) y)
  (λm hm=>sC (C:=λy u=>C (-(m:Int)) y (sv true m) u) (λk=>h true false m k (λ_=>hm) n_) (λk hk=>h true true m k (λ_=>hm) (λ_=>hk)) y) x
theorem ql(n:Bool)(m:Nat):(sg n m).natAbs=m:=by cases n<;>simp[sg]
theorem zk{x y:Int}{p q:Nat}(h1:x.natAbs<2^p)(h2:y.natAbs<2^q)(hp:p<=1099511627776)(hq:q<=1099511627776):aE prog 180 [bN x,bN y] (bN (x+y)):=by revert h1 h2;refine Fm (C:=λx y v u=>x.natAbs<2^p->y.natAbs<2^q->aE prog 180 [v,u] (bN (x+y))) (λn1 n2 m1 m2 v1 v2 h1 h2=>?_) x y;rw[ql]at h1 h2;exact Tx v1 v2 h1 h2 hp hq
theorem oY(z:Int):aE prog 107 [bN z] (.bool true):=
 sC (C:=λ_ v=>aE prog 107 [v] (.bool true)) (λ_=>cY false n_) (λ_ hm=>cY true λ_=>hm) z
theorem Fo{x y:Int}{p q:Nat}(h1:x.natAbs<2^p)(h2:y.natAbs<2^q)(hp:p<=1099511627776)(hq:q<=1099511627776):aE prog 179 [bN x,bN y] (bN (x-y)):=
 aM func179 (λ_=>[(oY x).at 6,(oY y).at 10,(oB y).at 16,(zk h1 (by rw[Km];exact h2) hp hq).at 17])
theorem Ty{x y:Int}{p q:Nat}(h1:x.natAbs<2^p)(h2:y.natAbs<2^q)(hp:p<=1099511627776)(hq:q<=1099511627776):aE prog 207 [bN x,bN y] (.int .i64 (x-y).sign):=
 aM func207 (λ_=>[(Fo h1 h2 hp hq).at 7,(sD (x-y)).at 8])
theorem ni{x y:Int}{p q:Nat}(h1:x.natAbs<2^p)(h2:y.natAbs<2^q)(hp:p<=1099511627776)(hq:q<=1099511627776):aE prog 195 [bN x,bN y] (bN (x*y)):=by
 revert h1 h2;refine Fm (C:=λx y v u=>x.natAbs<2^p->y.natAbs<2^q->aE prog 195 [v,u] (bN (x*y))) (λn1 n2 m1 m2 v1 v2 h1 h2=>?_) x y;rw[ql]at h1 h2;have b1:=xu h1;have b2:=xu h2;have bs:nd base (m1*m2)<35184372088832:=by have:=xu (m:=m1*m2) (n:=p+q) (by rw[eD];exact qe h1 h2);omega
 have e:sg n1 m1*sg n2 m2=sg (n1 !=n2) (m1*m2):=by cases n1<;>cases n2<;>simp[sg,HA,HB]
 rw[e,<-uO];cases n1<;>cases n2
 ·exact aM func195 (λ_=>[(cY _ v1).at 6,(cY _ v2).at 10,.of f195 16 3 m1 p h1 hp (y:=.func 172) k_,.of f195 19 4 m2 q h2 hq (y:=.func 172) k_,.mul f195 20 5 3 4 m1 m2 o_ o_ (y:=.func 217) k_,.tF f195 26 5 (m1*m2) (oW (m1*m2)) (nS _) false bs (y:=.func 149) k_])
 ·exact aM func195 (λ_=>[(cY _ v1).at 6,(cY _ v2).at 10,.of f195 16 3 m1 p h1 hp (y:=.func 172) k_,.of f195 19 4 m2 q h2 hq (y:=.func 172) k_,.mul f195 20 5 3 4 m1 m2 o_ o_ (y:=.func 217) k_,.tF f195 26 5 (m1*m2) (oW (m1*m2)) (nS _) true bs (y:=.func 149) k_])
 ·exact aM func195 (λ_=>[(cY _ v1).at 6,(cY _ v2).at 10,.of f195 16 3 m1 p h1 hp (y:=.func 172) k_,.of f195 19 4 m2 q h2 hq (y:=.func 172) k_,.mul f195 20 5 3 4 m1 m2 o_ o_ (y:=.func 217) k_,.tF f195 26 5 (m1*m2) (oW (m1*m2)) (nS _) true bs (y:=.func 149) k_])
 ·exact aM func195 (λ_=>[(cY _ v1).at 6,(cY _ v2).at 10,.of f195 16 3 m1 p h1 hp (y:=.func 172) k_,.of f195 19 4 m2 q h2 hq (y:=.func 172) k_,.mul f195 20 5 3 4 m1 m2 o_ o_ (y:=.func 217) k_,.tF f195 26 5 (m1*m2) (oW (m1*m2)) (nS _) false bs (y:=.func 149) k_])
section
variable{Bs:aa}{N:Nat}
theorem NV{ι:Map}{c:Nat->Option Obj}{w:World}(hm:aO Bs ι c w){k n size g0:Nat}{ty:TypeId}{v:Value}{xs:aj}(hk:c k=none)(h:w.ownsRow g0 ty size v n xs)(cQ:∀ u∈xs,flat u=true)
  (dr:∀ j y b o cap,c j=some y->y.owns=true->ι j=some (.at b o cap)->b<g0) :
  ∃ aw,Map.le ι aw/\aO Bs aw (aZ c k (.view xs)) w/\aG aw (.slice (some ⟨k,0,some 7⟩) n 0) v:=by
 refine yP hm hk (.Zm h) cQ λb o c' e j y o' aQ hj hy he=>?_;have h1:=dr j y b o' aQ hj hy he;rcases h.2 with ⟨h2,_⟩|⟨g,cap,cur,h2,h3,_⟩
 ·rw[h2]at e;cases e
 ·rw[h2]at e;injection e with e1 e2;injection e1 with e1;injection e1 with e1;omega
def kk(a:Nat):Obj:=.view (al (ae base (nd base a) a))
theorem NW{ι:Map}{c:Nat->Option Obj}{w:World}(hm:aO Bs ι c w):∀ j y b o cap,c j=some y->y.owns=true->ι j=some (.at b o cap)->b<w.heap.size:=λj y b o cap h1 h2 h3=>(hm.own j y b o cap h1 h2 h3).1
theorem aAI{ι aw:Map}{c:Nat->Option Obj}{w:World}{g0 k:Nat}{xs:aj}(hm:aO Bs ι c w)(hle:Map.le ι aw)(h:∀ j y b o cap,c j=some y->y.owns=true->ι j=some (.at b o cap)->b<g0):
  ∀ j y b o cap,aZ c k (.view xs) j=some y->y.owns=true->aw j=some (.at b o cap)->b<g0:=by
 intro j y b o cap hj hy hb;unfold aZ at hj;by_cases bO:j=k
 ·rw[ax bO]at hj;injection hj with hj;subst hj;cases hy
 ·rw[au bO]at hj;obtain⟨l,e1,_⟩:=hm.born j y hj;have:=hle j l e1;rw[hb]at this;injection this with this;subst this;exact h j y b o cap hj hy e1
theorem aJY{o:Oper}{y:Operand}{f:FuncId}{args:aj}{c:Nat}(ho:dx o.op=some y)(eQ:gz prog f=true)(dj:∀ v∈args,flat v=true)
  (h:∀ w,Calls prog f args.toArray w λe w'=>∃ v,e=.returned v/\jO w w' v c/\Below w.heap.size w w') (k:Nat) :
  cD prog Bs o (.func (.func f) #[] #[]::args) [(k,none)] (sl k (nd base c)) [(k,kk c)]:=by
 refine jM (fi:=[]) (ca:=[]) ho eQ λι cc w hm hn args' aY=>?_;rw[jw,jn]at aY;rw[nJ aY dj];refine(h w).mono ?_
 rintro e w' ⟨v,rfl,h1,h2⟩
 obtain⟨aw,q1,q2,q3⟩:=Zn hm h2 (k:=k) (hn _ (aU ..)) h1 (fF _);exact⟨aw,v,rfl,q1,q3,q2⟩
def aX.zn(fn:Func)(key k m n:Nat)(h:m<2^n)(hn:n<=1099511627776){y:Operand}(ho:dx (av fn key).op=some y):aX prog Bs N:=
 .step key (av fn key) [.func (.func 172) #[] #[],pC m] [(k,none)] (sl k (nd base m)) [(k,kk m)] (aJY ho k_ (λv hv=>by simp at hv;subst hv;rfl) (λ_=>aAH h hn) k)
theorem uP(a:Nat):qi (kk a) a:=xq a
theorem NX{o:Oper}{y:Operand}(ho:dx o.op=some y){k1 k2 kq kr a b:Nat}(hk:kr≠kq){x1 x2:Obj}(uN:qi x1 a)(kO:x1.gw=true)(hJ:qi x2 b)(kU:b≠0)(h1:nd base a<35184372088831)(h2:nd base b<35184372088831):
  cD prog Bs o [.func (.func 173) #[] #[],sl k1 (nd base a),sl k2 (nd base b)] [(k1,some x1),(k2,some x2),(kq,none),(kr,none)] (.tuple #[sl kq (nd base (a/b)),sl kr (nd base (a%b))]) [(kr,kk (a%b)),(kq,kk (a/b))]:=by
 refine jM (fi:=[]) (ca:=[]) ho k_ λι c w hm hn args' aY=>?_;rw[jw,jn]at aY;obtain⟨va,vb,rfl,hv,iJ⟩:=jI aY;have iC:c k1=some x1:=hn (k1,some x1) s_;have fN:c k2=some x2:=hn (k2,some x2) s_;have Ko:c kq=none:=hn (kq,none) s_;have Tz:c kr=none:=hn (kr,none) s_;have ha:=Bp hm iC uN hv;have hb:=Bp hm fN hJ iJ;have fin:∀(w':World) (vq vr:Value),Below w.heap.size w w'->(∃ bP,Map.le ι bP/\aO Bs bP (aZ c kq (kk (a/b))) w'/\aG bP (sl kq (nd base (a/b))) vq/\∃ dH,Map.le bP dH/\aO Bs dH (aZ (aZ c kq (kk (a/b))) kr (kk (a%b))) w'/\aG dH (sl kr (nd base (a%b))) vr)->
   ∃ aw v',Ending.returned (.tuple #[vq,vr])=.returned v'/\Map.le ι aw/\aG aw (.tuple #[sl kq (nd base (a/b)),sl kr (nd base (a%b))]) v'/\aO Bs aw (lI c [(kr,kk (a%b)),(kq,kk (a/b))]) w':=by
  rintro w' vq vr fT ⟨bP,q1,q2,q3,dH,s1,s2,s3⟩
  exact⟨dH,_,rfl,q1.trans s1,.tup (.cons (q3.mono s1) (.cons s3 .nil)),s2⟩
 have Kp:∀ x,aZ c kq x kr=none:=λx=>by unfold aZ;rw[au hk];exact Tz
 have new:∀(w':World) (vq vr:Value),Below w.heap.size w w'->jO w w' vq (a/b)->jO w w' vr (a%b)->(∃ bP,Map.le ι bP/\aO Bs bP (aZ c kq (kk (a/b))) w'/\aG bP (sl kq (nd base (a/b))) vq/\∃ dH,Map.le bP dH/\aO Bs dH (aZ (aZ c kq (kk (a/b))) kr (kk (a%b))) w'/\aG dH (sl kr (nd base (a%b))) vr):=by intro w' vq vr fT h3 h4;have bj:=hm.call fT;obtain⟨bP,q1,q2,q3⟩:=NV bj Ko h3 (fF _) (NW hm);obtain⟨dH,s1,s2,s3⟩:=NV q2 (Kp _) h4 (fF _) (aAI bj q1 (NW hm));exact⟨bP,q1,q2,q3,dH,s1,s2,s3⟩
 by_cases b9:a<b
 ·have e1:a/b=0:=mA b9;have e2:a%b=a:=dK b9;refine(Tr ha hb b9 o_ o_).mono ?_
  rintro e w' ⟨rfl,fT⟩
  refine fin w' _ _ fT ?_;have bj:=hm.call fT;obtain⟨bP,q1,q2,q3⟩:=yP (xs:=[]) (n:=0) (v:=.slice none 0 0) bj Ko (.inl ⟨rfl,rfl,rfl⟩) n_ n_;have ez:kk (a/b)=.view []:=by unfold kk;rw[e1,pw];rfl
  have en:nd base (a/b)=0:=by rw[e1,pw]
  rw[ez,en,e2];have TA:cO w' va (nd base a) (al (ae base (nd base a) a)):=cO.gM ha fT;obtain⟨dH,s1,s2,s3⟩:=yP q2 (Kp _) TA (fF _) (λb o c' e j y o' aQ hj hy he=>by
   have Bl:c j=some y:=by
    unfold aZ at hj;by_cases bO:j=kq
    ·rw[ax bO]at hj;injection hj with hj;subst hj;cases hy
    ·rw[au bO]at hj;exact hj
   obtain⟨l,e1,_⟩:=hm.born j y Bl;have e2:=q1 j l e1;rw[he]at e2;injection e2 with e2;subst e2;subst e;rcases hv.iw rfl with ⟨_,_,_,_,e⟩|⟨b',o2,rM,c2,gm,_,_,e⟩
   ·cases e
   ·injection e with e _ _;injection e with e;injection e with e _ _;subst e;exact(hm.seen k1 x1 _ _ _ iC kO gm).2 j y _ _ Bl hy e1)
  exact⟨bP,q1,q2,q3,dH,s1,s2,s3⟩
 ·have Kq:b<=a:=Kf.1 b9;have go:Calls prog 173 #[va,vb] w λe w'=>∃ vq vr,e=.returned (.tuple #[vq,vr])/\jO w w' vq (a/b)/\jO w w' vr (a%b)/\Below w.heap.size w w':=by
   by_cases ak:b<base
   ·exact Ts ha hb Kq kU ak o_
   ·have h3:2<=nd base b:=by
     rcases eL (nd base b) 2 with h|h
     ·have h4:=dU (B:=base) d_ b;have h5:base^nd base b<=base^1:=c9 d_ o_;rw[CV]at h5;omega
     ·exact h
    exact Tu (e:=nd base b-2) ha hb Kq o_ h1
  refine go.mono ?_
  rintro e w' ⟨vq,vr,rfl,h3,h4,fT⟩
  exact fin w' _ _ fT (new w' vq vr fT h3 h4)
end
def eu(x y:Nat):Nat->Nat×Nat
 |0=>(x,y)
 |i+1=>((eu x y i).2,(eu x y i).1%(eu x y i).2)
theorem Kr(x y:Nat):∀ i,Nat.gcd (eu x y i).1 (eu x y i).2=Nat.gcd x y
 |0=>rfl
 |i+1=>by rw[<-Kr x y i];show Nat.gcd (eu x y i).2 ((eu x y i).1%(eu x y i).2)=_;rw[HC,<-Nat.gcd_rec,HC]
theorem TB(x y:Nat):∀ i,(eu x y i).1<=max x y/\(eu x y i).2<=max x y
 |0=>⟨Nat.le_max_left ..,Nat.le_max_right ..⟩
 |i+1=>by obtain⟨h1,h2⟩:=TB x y i;exact⟨h2,dh (JX _ _) h1⟩
theorem NY(x y:Nat)(p:Nat->Nat->Bool)(hp:∀ u v,p u v=true->v≠0):∃ n,p (eu x y n).1 (eu x y n).2=false/\∀ i,i<n->p (eu x y i).1 (eu x y i).2=true:=by
 have key:∃ n,p (eu x y n).1 (eu x y n).2=false:=by
  apply gP;intro gC;have all:∀ i,p (eu x y i).1 (eu x y i).2=true:=λi=>by
   cases h:p (eu x y i).1 (eu x y i).2 with
   |true=>rfl
   |false=>exact absurd ⟨i,h⟩ gC
  have dec:∀ i,(eu x y i).2+i<=y:=by
   intro i;induction i with
   |zero=>exact bt _
   |succ i ih=>
    have h0:=hp _ _ (all i);have h1:(eu x y (i+1)).2<(eu x y i).2:=cL _ (tA h0);omega
  have h1:=dec (y+1);omega
 obtain⟨n,hn⟩:=key;obtain⟨e,h1,h2,h3⟩:=yT (λi=>p (eu x y i).1 (eu x y i).2=false) n hn;exact⟨e,h2,λi hi=>by
  cases h:p (eu x y i).1 (eu x y i).2 with
  |true=>rfl
  |false=>exact absurd h (h3 i hi)⟩
def zo(u v:Nat):Bool:=decide (2<nd base v)||(decide (2<nd base u)&&decide (0<nd base v))
section
variable{Bs:aa}
def Da(u v:Nat):aR:=[(5,sl 5 (nd base u)),(6,sl 6 (nd base v))]
def BC(u v:Nat):List Obj:=[kk u,kk v]
theorem aJZ{u v:Nat}(h:zo u v=true)(h0:v≠0)(h1:nd base u<35184372088831)(h2:nd base v<35184372088831):
  ag prog Bs 65 (aF (af f147 0)) (Da u v) ([]++marks 5 (BC u v)) 7 ⟨.normal,ij 5 [some 6,some 8] (Da v (u%v)),[]++dV [some 6,some 8] (BC v (u%v)),9⟩:=by
 have hd:=NX (Bs:=Bs) (o:=av f147 42) (y:=.func 173) k_ (k1:=5) (k2:=6) (kq:=7) (kr:=8) d_ (uP u) rfl (uP v) h0 h1 h2;unfold zo at h;by_cases c1:2<nd base v
 ·exact aC [.gt 28 (nd base v) 2 true (by simp[c1]),.step 42 _ _ _ _ _ hd]
 ·simp[c1]at h;exact aC [.gt 28 (nd base v) 2 false (by simp;omega),.gt 32 (nd base u) 2 true (by simp[h.1]),.gt 36 (nd base v) 0 true (by simp[h.2]),.step 42 _ _ _ _ _ hd]
theorem aJ0{u v:Nat}(h:zo u v=false):
  ag prog Bs 65 (aF (af f147 0)) (Da u v) ([]++marks 5 (BC u v)) 7 ⟨.exit 0,Da u v,marks 5 (BC u v),7⟩:=by
 unfold zo at h;by_cases c1:2<nd base v
 ·simp[c1]at h
 ·by_cases c2:2<nd base u
  ·by_cases c3:0<nd base v
   ·simp[c2,c3]at h
   ·exact aC [.gt 28 (nd base v) 2 false (by simp;omega),.gt 32 (nd base u) 2 true (by simp[c2]),.gt 36 (nd base v) 0 false (by simp;omega)]
  ·exact aC [.gt 28 (nd base v) 2 false (by simp;omega),.gt 32 (nd base u) 2 false (by simp;omega)]
theorem aJ1{x y n:Nat}(hn:zo (eu x y n).1 (eu x y n).2=false)(hi:∀ i,i<n->zo (eu x y i).1 (eu x y i).2=true)(h1:nd base (max x y)<35184372088831):
  ag prog Bs 65 (.block 0 (af f147 0)) (ij 5 [some 3,some 4] (Da x y)) ([]++dV [some 3,some 4] (BC x y)) 5 ⟨.normal,Da (eu x y n).1 (eu x y n).2,marks 5 (BC (eu x y n).1 (eu x y n).2),7⟩:=by
 have:=su (P:=prog) (B:=Bs) (N:=65) (b:=aF (af f147 0)) (next:=5) (p:=2) (r:=⟨.exit 0,Da (eu x y n).1 (eu x y n).2,marks 5 (BC (eu x y n).1 (eu x y n).2),7⟩) n (λi=>Da (eu x y i).1 (eu x y i).2) (λ_=>[]) (λi=>BC (eu x y i).1 (eu x y i).2) [some 3,some 4] (λ_ _=>rfl)
  (λi _=>⟨λq hq=>(by cases hq),λz hz=>by simp[BC]at hz;rcases hz with rfl|rfl<;>exact Hi (fF _)⟩) k_ k_
  (λi ak=>⟨[some 6,some 8],9,k_,by have hg:=hi i ak;have hle:=TB x y i;refine aJZ hg (λe=>?_) (e8 (iU d_ hle.1) h1) (e8 (iU d_ hle.2) h1);rw[e]at hg;unfold zo at hg;rw[pw]at hg;simp at hg⟩) (aJ0 hn) n_
 exact bT (id:=0) this
def xx(u v:Nat):aR:=[(9,qj u),(10,qj v)]
theorem TC{x y:Nat}:∃ g,g=Nat.gcd x y/\ag prog Bs 65 (.block 2 (af f147 2)) (xx x y) [] 7 ⟨.normal,[(9,qj g)],[],7⟩:=by
 obtain⟨n,hn,hi⟩:=NY x y (λ_ v=>decide (v≠0)) (λu v h=>kW h);have hz:(eu x y n).2=0:=by have:=HD hn;omega
 have hg:=Kr x y n;rw[hz,TD]at hg;refine⟨_,hg,bT (id:=2) (cd (P:=prog) (B:=Bs) (N:=65) (b:=aF (af f147 2)) (next:=7) (r:=⟨.exit 2,[(9,qj (eu x y n).1)],[],7⟩) n (λi=>xx (eu x y i).1 (eu x y i).2) (λ_=>[]) (λ_ _ _=>Iff.rfl) (λi ak=>?_) ?_ n_)⟩
 ·have h0:(eu x y i).2≠0:=kW (hi i ak);show ag _ _ _ _ (xx (eu x y i).1 (eu x y i).2) [] 7 ⟨.normal,xx (eu x y i).2 ((eu x y i).1%(eu x y i).2),[],7⟩;generalize (eu x y i).1=u at *;generalize (eu x y i).2=v at *;exact aC [.rw 57 (.bool ((v:Int)!=0)) (.bool true) (by congr 1;rw[uG];omega),.xh f147 61 .u64 (u:Int) v ((u%v:Nat):Int) o_ (by rw[zf o_];rfl) k_]
 ·rw[hz];exact aC [.rw 57 (.bool (((0:Nat):Int)!=0)) (.bool false) rfl]
end
theorem TE{n1 n2:Bool}{m1 m2 p q:Nat}(v1:n1=true->m1≠0)(v2:n2=true->m2≠0)(h1:m1<2^p)(h2:m2<2^q)(hp:p<=1099511627776)(hq:q<=1099511627776):
  aE prog 147 [sv n1 m1,sv n2 m2] (bN (Nat.gcd m1 m2:Nat)):=by
 have b1:=xu h1;have b2:=xu h2;have bm:nd base (max m1 m2)<35184372088831:=by rcases NZ m1 m2 with h|h<;>simp[h]<;>omega
 obtain⟨n,hn,hi⟩:=NY m1 m2 zo (λu v h e=>by rw[e]at h;unfold zo at h;rw[pw]at h;simp at h)
 have hg:=Kr m1 m2 n;have hle:=TB m1 m2 n;have hl:=λw=>aJ1 (Bs:=aa.at w) hn hi bm;have bU:nd base (eu m1 m2 n).1<35184372088831:=e8 (iU d_ hle.1) bm;have bV:nd base (eu m1 m2 n).2<35184372088831:=e8 (iU d_ hle.2) bm;rw[<-hg];generalize (eu m1 m2 n).1=U at *;generalize (eu m1 m2 n).2=V at *;have e:=uO false (Nat.gcd U V);rw[show sg false (Nat.gcd U V)=((Nat.gcd U V:Nat):Int)from rfl]at e;rw[<-e];by_cases hV:V=0
 ·subst hV;rw[TD];exact aM func147 (λw=>[(cY n1 v1).at 12,(cY n2 v2).at 16,.zn f147 22 3 m1 p h1 hp (y:=.func 172) k_,.zn f147 25 4 m2 q h2 hq (y:=.func 172) k_,.code 0 _ _ _ _ _ (hl w),.rw 49 (.bool (((nd base 0:Nat):Int)==0)) (.bool true) (by rw[pw];rfl),.tF f147 51 5 U (kk U) (uP U) false o_ (y:=.func 149) k_])
 ·have qR:=uF (B:=base) d_ hV;unfold zo at hn;have c1:nd base V<=2/\nd base U<=2:=by simp at hn;exact⟨hn.1,Kf.1 λh=>by have:=hn.2 h;omega⟩
  have aAJ:∀ t,nd base t<=2->t<18446744073709551616:=λt ht=>by have h1:=dU (B:=base) d_ t;have h2:base^nd base t<=base^2:=c9 d_ ht;exact cC h1 (dh h2 d_)
  have aJ2:=aAJ U c1.2;have aAK:=aAJ V c1.1;have N0:∀ w,∃ g,g=Nat.gcd U V/\ag prog (aa.at w) 65 (.block 2 (af f147 2)) (xx U V) [] 7 ⟨.normal,[(9,qj g)],[],7⟩:=λw=>TC;have N0:∀ w,ag prog (aa.at w) 65 (.block 2 (af f147 2)) (xx U V) [] 7 ⟨.normal,[(9,qj (Nat.gcd U V))],[],7⟩:=λw=>by obtain⟨g,rfl,h⟩:=N0 w;exact h
  have aJ3:Nat.gcd U V<18446744073709551616:=e8 (Nat.gcd_le_right U (tA hV)) aAK;have bG:nd base (Nat.gcd U V)<35184372088832:=by have:=iU (B:=base) d_ (Nat.gcd_le_right U (tA hV));omega
  exact aM func147 (λw=>[(cY n1 v1).at 12,(cY n2 v2).at 16,.zn f147 22 3 m1 p h1 hp (y:=.func 172) k_,.zn f147 25 4 m2 q h2 hq (y:=.func 172) k_,.code 0 _ _ _ _ _ (hl w),.fv 49 (nd base V) 0 false (by simp;omega),.step 53 (av f147 53) _ _ _ _ (Hr (f:=174) (y:=.func 174) (k1:=5) (post:=[]) (res:=qj U) k_ k_ (uP U) n_ rfl λ_ _ h=>ZW h aJ2 o_),.step 55 (av f147 55) _ _ _ _ (Hr (f:=174) (y:=.func 174) (k1:=6) (post:=[]) (res:=qj V) k_ k_ (uP V) n_ rfl λ_ _ h=>ZW h aAK o_),.code 2 _ _ _ _ _ (N0 w),.step 63 (av f147 63) _ _ _ _ (NM (y:=.func 148) (args:=[qj (Nat.gcd U V)]) k_ k_ (λv hv=>by simp at hv;subst hv;rfl) (λ_=>SZ aJ3) 7),.tF f147 64 7 (Nat.gcd U V) (oW (Nat.gcd U V)) (nS _) false bG (y:=.func 149) k_])
theorem Ks{x y:Int}{p q:Nat}(h1:x.natAbs<2^p)(h2:y.natAbs<2^q)(hp:p<=1099511627776)(hq:q<=1099511627776):aE prog 147 [bN x,bN y] (bN (Nat.gcd x.natAbs y.natAbs:Nat)):=by revert h1 h2;refine Fm (C:=λx y v u=>x.natAbs<2^p->y.natAbs<2^q->aE prog 147 [v,u] (bN (Nat.gcd x.natAbs y.natAbs:Nat))) (λn1 n2 m1 m2 v1 v2 h1 h2=>?_) x y;rw[ql]at h1 h2;rw[ql,ql];exact TE v1 v2 h1 h2 hp hq
theorem N1{a b q r:Int}(h:a=q*b+r)(hr:(0<b/\0<=r/\r<b)\/(b<0/\b<r/\r<=0)):a.fdiv b=q/\a.fmod b=r:=by
 have key:a.fdiv b=q:=by
  rcases hr with ⟨h1,h2,h3⟩|⟨h1,h2,h3⟩
  ·rw[r6 _ o_,h,Int.add_comm,aAL _ _ o_,Int.ediv_eq_zero_of_lt h2 h3];omega
  ·have e:a.fdiv b=(-a).fdiv (-b):=(Int.neg_fdiv_neg a b).symm;have e2:-a=-r+q*-b:=by rw[h,HB];omega
   rw[e,r6 _ o_,e2,aAL _ _ o_,Int.ediv_eq_zero_of_lt o_ o_];omega
 refine⟨key,?_⟩;have:=Int.mul_fdiv_add_fmod a b;rw[key,TF]at this;omega
section
variable{Bs:aa}{N:Nat}
def aX.HE(fn:Func)(key k a:Nat)(x:Obj)(hx:qi x a)(neg:Bool)(h1:nd base a<35184372088832){y:Operand}(ho:dx (av fn key).op=some y):aX prog Bs N:=
 .step key (av fn key) _ _ _ _ (Hr (f:=149) (k1:=k) (post:=[.bool neg]) (res:=bN (sg neg a)) ho k_ hx (λv hv=>by simp at hv;subst hv;rfl) rfl λ_ _ h=>by rw[<-uO];exact aAt h h1)
end
theorem TG{x y:Int}{p q:Nat}(hy:y≠0)(h1:x.natAbs<2^p)(h2:y.natAbs<2^q)(hp:p<=1099511627774)(hq:q<=1099511627774):
  aE prog 227 [bN x,bN y] (.tuple #[bN (x.fdiv y),bN (x.fmod y),.int .i64 0]):=by
 obtain⟨m1,c7⟩:∃ m,m=x.natAbs:=⟨_,rfl⟩;obtain⟨m2,dC⟩:∃ m,m=y.natAbs:=⟨_,rfl⟩;rw[<-c7]at h1;rw[<-dC]at h2;have HF:m2≠0:=by omega
 have b1:=xu h1;have b2:=xu h2;obtain⟨s,hs⟩:∃ s,s=(decide (x<0)!=decide (y<0)):=⟨_,rfl⟩;obtain⟨n1,Cz⟩:∃ n,n=decide (x<0):=⟨_,rfl⟩;obtain⟨Q,hQ⟩:∃ Q,Q=m1/m2:=⟨_,rfl⟩;obtain⟨R,hR⟩:∃ R,R=m1%m2:=⟨_,rfl⟩;have Ku:m1=Q*m2+R:=by rw[hQ,hR,cS];exact(jm _ _).symm
 have zp:R<m2:=by rw[hR];exact cL _ (tA HF)
 have TH:Q<=m1:=by rw[hQ];exact tD _ _
 have bQ:nd base (m1/m2)<35184372088832:=by have:=iU (B:=base) d_ TH;rw[<-hQ];omega
 have bR:nd base (m1%m2)<35184372088832:=by have:=iU (B:=base) d_ (je zp);rw[<-hR];omega
 have ex:x=sg n1 m1:=by rw[Cz,c7];unfold sg;by_cases h:x<0<;>simp[h]<;>omega
 have ey:y=sg (n1 !=s) m2:=by rw[Cz,hs,dC];unfold sg;by_cases h:x<0<;>by_cases h':y<0<;>simp[h,h']<;>omega
 have Kv:(decide (x<0)!=decide (y<0))=s:=hs.symm;have v1:=oY x;have v2:=oY y;have TI:((BA (cq y.natAbs)).toList==(ByteArray.mk #[]).toList)=false:=by rw[qT,<-dC,aJ HF]
 have TJ:(!((BA (cq (sg n1 R).natAbs)).toList==(ByteArray.mk #[]).toList))=decide (R≠0):=by rw[qT,ql];simp
 have pX:x.natAbs<2^p:=by rw[<-c7];exact h1
 have vL:y.natAbs<2^q:=by rw[<-dC];exact h2
 rw[show m1/m2=Q from hQ.symm]at bQ;rw[show m1%m2=R from hR.symm]at bR;have hd:∀ w,cD prog (aa.at w) (av f227 33) [.func (.func 173) #[] #[],sl 4 (nd base x.natAbs),sl 5 (nd base y.natAbs)] [(4,some (kk x.natAbs)),(5,some (kk y.natAbs)),(6,none),(7,none)] (.tuple #[sl 6 (nd base Q),sl 7 (nd base R)]) [(7,kk R),(6,kk Q)]:=λw=>by have:=NX (Bs:=aa.at w) (o:=av f227 33) (y:=.func 173) k_ (k1:=4) (k2:=5) (kq:=6) (kr:=7) d_ (uP x.natAbs) rfl (uP y.natAbs) o_ (by rw[<-c7];omega) (by rw[<-dC];omega);rw[<-c7,<-dC,<-hQ,<-hR]at this;rw[<-c7,<-dC];exact this
 have TK:(Value.bool (decide (x<0)))=.bool n1:=by rw[Cz]
 by_cases N2:R≠0/\s=true
 ·obtain⟨jA,bM⟩:=N2;have fin:=N1 (a:=x) (b:=y) (q:=sg s Q-1) (r:=sg n1 R+y) (by
    rw[ex,ey,bM,Ku];have e:sg true Q=-(Q:Int):=rfl;rw[e];have fQ:((Q*m2:Nat):Int)=(Q:Int)*m2:=om ..;cases n1<;>simp only[sg,N3,N4,J2,qG,uJ,uI,vJ,fQ,Int.sub_mul,HA,HB,Kn,N5]<;>omega)
   (by
    rw[ey,bM];cases n1
    ·right;simp only[sg,N3,qG,uJ,uI];omega
    ·left;simp only[sg,N4,J2,qG,uJ,uI];omega)
  rw[fin.1,fin.2];have s1:(sg s Q).natAbs<2^p:=by rw[ql];omega
  have s2:(1:Int).natAbs<2^1:=by decide
  have s3:(sg n1 R).natAbs<2^q:=by rw[ql];omega
  have sb:=Fo (x:=sg s Q) (y:=1) s1 s2 o_ o_;have ad:=zk (x:=sg n1 R) (y:=y) s3 vL o_ o_;exact aM func227 (λw=>[v1.at 11,v2.at 15,.rw 23 (.bool ((BA (cq y.natAbs)).toList==(ByteArray.mk #[]).toList)) (.bool false) (by rw[TI]),.zn f227 29 4 x.natAbs p pX o_ (y:=.func 172) k_,.zn f227 32 5 y.natAbs q vL o_ (y:=.func 172) k_,.step 33 _ _ _ _ _ (hd w),.rw 41 (.bool (decide (x<0)!=decide (y<0))) (.bool s) (by rw[Kv]),.HE f227 42 6 Q (kk Q) (uP Q) s bQ (y:=.func 149) k_,.rw 45 (.bool (decide (x<0))) (.bool n1) TK,.HE f227 46 7 R (kk R) (uP R) n1 bR (y:=.func 149) k_,.rw 49 (.bool (!((BA (cq (sg n1 R).natAbs)).toList==(ByteArray.mk #[]).toList))) (.bool true) (by rw[TJ,aB jA]),.rw 55 (.bool (decide (x<0)!=decide (y<0))) (.bool true) (by rw[Kv,bM]),(kV (z:=1) d_).at 58,sb.at 59,ad.at 62])
 ·have fin:=N1 (a:=x) (b:=y) (q:=sg s Q) (r:=sg n1 R) (by
    rw[ex,ey,Ku];have fQ:((Q*m2:Nat):Int)=(Q:Int)*m2:=om ..;cases n1<;>cases s<;>simp only[sg,N3,N4,J2,Ns,qG,uJ,uI,vJ,fQ,HA,HB,Kn]<;>omega)
   (by
    rw[ey];cases n1<;>cases s
    ·left;simp only[sg,N3,uJ,uI];omega
    ·right;have jA:R=0:=gP λh=>N2 ⟨h,rfl⟩;simp only[sg,N3,qG,uJ,uI];omega
    ·right;simp only[sg,N4,Ns,qG];omega
    ·left;have jA:R=0:=gP λh=>N2 ⟨h,rfl⟩;simp only[sg,N4,J2,qG,uJ,uI];omega)
  rw[fin.1,fin.2];by_cases jA:R=0
  ·exact aM func227 (λw=>[v1.at 11,v2.at 15,.rw 23 (.bool ((BA (cq y.natAbs)).toList==(ByteArray.mk #[]).toList)) (.bool false) (by rw[TI]),.zn f227 29 4 x.natAbs p pX o_ (y:=.func 172) k_,.zn f227 32 5 y.natAbs q vL o_ (y:=.func 172) k_,.step 33 _ _ _ _ _ (hd w),.rw 41 (.bool (decide (x<0)!=decide (y<0))) (.bool s) (by rw[Kv]),.HE f227 42 6 Q (kk Q) (uP Q) s bQ (y:=.func 149) k_,.rw 45 (.bool (decide (x<0))) (.bool n1) TK,.HE f227 46 7 R (kk R) (uP R) n1 bR (y:=.func 149) k_,.rw 49 (.bool (!((BA (cq (sg n1 R).natAbs)).toList==(ByteArray.mk #[]).toList))) (.bool false) (by rw[TJ,aJ (λh=>h jA)])])
  ·have bM:s=false:=by
    cases s
    ·rfl
    ·exact absurd ⟨jA,rfl⟩ N2
   exact aM func227 (λw=>[v1.at 11,v2.at 15,.rw 23 (.bool ((BA (cq y.natAbs)).toList==(ByteArray.mk #[]).toList)) (.bool false) (by rw[TI]),.zn f227 29 4 x.natAbs p pX o_ (y:=.func 172) k_,.zn f227 32 5 y.natAbs q vL o_ (y:=.func 172) k_,.step 33 _ _ _ _ _ (hd w),.rw 41 (.bool (decide (x<0)!=decide (y<0))) (.bool s) (by rw[Kv]),.HE f227 42 6 Q (kk Q) (uP Q) s bQ (y:=.func 149) k_,.rw 45 (.bool (decide (x<0))) (.bool n1) TK,.HE f227 46 7 R (kk R) (uP R) n1 bR (y:=.func 149) k_,.rw 49 (.bool (!((BA (cq (sg n1 R).natAbs)).toList==(ByteArray.mk #[]).toList))) (.bool true) (by rw[TJ,aB jA]),.rw 55 (.bool (decide (x<0)!=decide (y<0))) (.bool false) (by rw[Kv,bM])])
section
variable{P:Program}{B:aa}{N:Nat}
def Fp(o:Oper):Option (Bool×TypeId):=match o.op with|.binOp .eql t _ _ _=>some (true,t)|.binOp .neq t _ _ _=>some (false,t)|_=>none
theorem aAM{op:BinOp}{t:TypeId}{x y:Operand}{xs ys:Array Value}(hg:P.eqGuardType P.depth t=false)(w:World):(eqGuard op t x y (.agg xs) (.agg ys)).run P w=.ok () w:=by unfold eqGuard;cases op<;>simp[hg]
theorem N6{o:Oper}{t:TypeId}{neg:Bool}{m D:Nat}{xs ys:Array Value}{lx ly:List Lit}{r:Bool}(ho:Fp o=some (neg,t))(hm:m<=10000)(hk:P.keyTypeAt m t=true)(hg:P.eqGuardType P.depth t=false)
  (hfx:(Value.agg xs).formed P t=true) (hfy:(Value.agg ys).formed P t=true) (hx:P.keyLits D t xs.toList=some lx) (hy:P.keyLits D t ys.toList=some ly) (Ye:flat (.agg xs)=true) (Jx:flat (.agg ys)=true)
  (hr:(if neg then r else !r)=true↔lx=ly):cD P B o [.agg xs,.agg ys] [] (.bool r) []:=by
 refine(Cq (λu hu=>by simp at hu;rcases hu with rfl|rfl<;>assumption) rfl λρ fV w _=>?_).step;obtain⟨r',e1,e2⟩:=run_equalIn_deep (10000-m) m t hk w D D (.agg xs) (.agg ys) lx ly hfx hfy hx hy;rw[show 10000-m+m=10000 by omega]at e1;have e1:(Op.equal t (.agg xs) (.agg ys)).run P w=.ok r' w:=e1;unfold Fp at ho;split at ho
 ·rename_i t' p q t2 bW;injection ho with ho;injection ho with h1 h2;subst h1;subst h2;rw[bW]at fV;simp[Op.operands]at fV;have e3:r'=r:=by rw[<-e2]at hr;cases r<;>cases r'<;>simp at hr ⊢
  have ox:=aAM (op:=.eql) (x:=p) (y:=q) (xs:=xs) (ys:=ys) hg w;simp only[execOp,bW,fV.1,fV.2];simp[ox,binOp,e1,e3]
 ·rename_i t' p q t2 bW;injection ho with ho;injection ho with h1 h2;subst h1;subst h2;rw[bW]at fV;simp[Op.operands]at fV;have e3:(!r')=r:=by rw[<-e2]at hr;cases r<;>cases r'<;>simp at hr ⊢
  have ox:=aAM (op:=.neq) (x:=p) (y:=q) (xs:=xs) (ys:=ys) hg w;simp only[execOp,bW,fV.1,fV.2];simp[ox,binOp,e1,e3]
 ·cases ho
theorem aAN{β:Type}(f:TypeId->Nat->Option β):∀(l:List Field) {m:List (TypeId×Nat)},l.map (λg=>(g.type,g.offset))=m->(l.mapM λg=>f g.type g.offset)=m.mapM λp=>f p.1 p.2
 |[],m,h=>by subst h;rfl
 |g::l,m,h=>by subst h;simp only[qO,JR];rw[aAN f l rfl]
theorem N7 {t : TypeId} {fs : Array Field} {l : List (TypeId × Nat)} {cs : aj} (hu : P.underlying t = some (.struct fs)) (hf : fs.toList.map (fun g => (g.type, g.offset)) = l) (hn : fs.all (fun g => g.name != "_") = true) (hl : cs.length = P.cellsOf t) (d : Nat) :
  P.keyLits (d+1) t cs=(l.mapM λp=>P.keyLits d p.1 ((cs.drop p.2).take (P.cellsOf p.1))).map List.flatten:=by
 conv=>lhs;unfold Program.keyLits
 rw[hu];dsimp only;rw[ax ⟨hl,hn⟩,aAN (λa b=>P.keyLits d a ((cs.drop b).take (P.cellsOf a))) fs.toList hf]
theorem aJ4{t e:TypeId}{n:Nat}{cs:aj}(hu:P.underlying t=some (.array n e))(hl:cs.length=P.cellsOf t)(d:Nat):
  P.keyLits (d+1) t cs=((List.range n).mapM λi=>P.keyLits d e ((cs.drop (i*P.cellsOf e)).take (P.cellsOf e))).map List.flatten:=by
 conv=>lhs;unfold Program.keyLits
 rw[hu];dsimp only;rw[ax hl]
theorem aJ5{t:TypeId}(hu:P.underlying t=some .bool)(b:Bool)(d:Nat):P.keyLits (d+1) t [.bool b]=some [.bool b]:=by unfold Program.keyLits;rw[hu]
theorem aJ6{t:TypeId}(hu:P.underlying t=some .string)(s:ByteArray)(hs:s.size<=maxLen)(d:Nat):P.keyLits (d+1) t [.string s]=some [.string s.data.toList]:=by unfold Program.keyLits;rw[hu];dsimp only;rw[ax hs]
end
section
class CR (F:Type) extends Add F,Mul F,Neg F,Sub F,Zero F,One F where
 add_assoc:∀ a b c:F,a+b+c=a+(b+c)
 add_comm:∀ a b:F,a+b=b+a
 zero_add:∀ a:F,0+a=a
 neg_add:∀ a:F,-a+a=0
 mul_assoc:∀ a b c:F,a*b*c=a*(b*c)
 mul_comm:∀ a b:F,a*b=b*a
 one_mul:∀ a:F,1*a=a
 mul_add:∀ a b c:F,a*(b+c)=a*b+a*c
 sub_def:∀ a b:F,a-b=a+-b
namespace CR
variable{F:Type}[CR F]
theorem add_zero(a:F):a+0=a:=by rw[add_comm,zero_add]
theorem add_neg(a:F):a+-a=0:=by rw[add_comm,neg_add]
theorem mul_one(a:F):a*1=a:=by rw[mul_comm,one_mul]
theorem add_mul(a b c:F):(a+b)*c=a*c+b*c:=by rw[mul_comm,mul_add,mul_comm c a,mul_comm c b]
theorem add_left_comm(a b c:F):a+(b+c)=b+(a+c):=by rw[<-add_assoc,add_comm a b,add_assoc]
theorem mul_left_comm(a b c:F):a*(b*c)=b*(a*c):=by rw[<-mul_assoc,mul_comm a b,mul_assoc]
theorem add_left_cancel{a b c:F}(h:a+b=a+c):b=c:=by have:=cM (λx=>-a+x) h;simpa only[<-add_assoc,neg_add,zero_add]using this
theorem mul_zero(a:F):a*0=0:=by apply add_left_cancel (a:=a*0);rw[<-mul_add,zero_add,add_zero]
theorem zero_mul(a:F):0*a=0:=by rw[mul_comm,mul_zero]
theorem HG{a b:F}(h:a+b=0):b=-a:=add_left_cancel (a:=a) (by rw[h,add_neg])
theorem neg_mul(a b:F):-a*b=-(a*b):=HG (by rw[<-add_mul,add_neg,zero_mul])
theorem mul_neg(a b:F):a*-b=-(a*b):=by rw[mul_comm,neg_mul,mul_comm]
theorem neg_neg(a:F):- -a=a:=(HG (neg_add a)).symm
theorem Db(a b:F):-(a+b)=-a+-b:=
 (HG (by rw[add_assoc,add_left_comm b,<-add_assoc,add_neg,zero_add,add_neg])).symm
theorem neg_zero:-(0:F)=0:=(HG (zero_add 0)).symm
def ofNat:Nat->F
 |0=>0
 |n+1=>ofNat n+1
def ofInt:Int->F
 |.ofNat n=>ofNat n
 |.negSucc n=>-ofNat (n+1)
theorem ofNat_add(a b:Nat):(ofNat (a+b):F)=ofNat a+ofNat b:=by
 induction b with
 |zero=>simp[ofNat,add_zero]
 |succ b ih=>rw[<-ux];simp only[ofNat];rw[ih,add_assoc]
theorem ofNat_mul(a b:Nat):(ofNat (a*b):F)=ofNat a*ofNat b:=by
 induction b with
 |zero=>simp[ofNat,mul_zero]
 |succ b ih=>rw[Nj,ofNat_add,ih];simp only[ofNat];rw[mul_add,mul_one]
theorem ofInt_sub(a b:Nat):(ofInt ((a:Int)-b):F)=ofNat a+-ofNat b:=by
 rcases NZ b a with h|h
 ·obtain⟨c,rfl⟩:=Nat.le.dest h;rw[show((b+c:Nat):Int)-b=Int.ofNat c by simp[vJ];omega];simp only[ofInt];rw[ofNat_add,add_comm (ofNat b),add_assoc,add_neg,add_zero]
 ·obtain⟨c,rfl⟩:=Nat.le.dest h;cases c with
  |zero=>rw[show(a:Int)-((a+0:Nat):Int)=Int.ofNat 0 by simp];simp[ofInt,ofNat,add_neg]
  |succ c=>
   rw[show(a:Int)-((a+(c+1):Nat):Int)=Int.negSucc c by omega];simp only[ofInt];rw[ofNat_add a (c+1),Db,<-add_assoc,add_neg,zero_add]
theorem ofInt_neg(a:Int):(ofInt (-a):F)=-ofInt a:=by
 cases a with
 |ofNat n=>
  cases n with
  |zero=>simp[ofInt,ofNat,neg_zero]
  |succ n=>rfl
 |negSucc n=>rw[show -(Int.negSucc n)=Int.ofNat (n+1)from rfl];simp only[ofInt];rw[neg_neg]
theorem sC(a:Int):∃ m n:Nat,a=(m:Int)-n:=by
 cases a with
 |ofNat m=>exact⟨m,0,by simp⟩
 |negSucc n=>exact⟨0,n+1,by omega⟩
theorem ofInt_add(a b:Int):(ofInt (a+b):F)=ofInt a+ofInt b:=by obtain⟨m,n,rfl⟩:=sC a;obtain⟨p,q,rfl⟩:=sC b;rw[show(m:Int)-n+(p-q)=((m+p:Nat):Int)-(n+q:Nat)by omega];rw[ofInt_sub,ofInt_sub,ofInt_sub,ofNat_add,ofNat_add,Db];simp only[add_assoc,add_left_comm]
theorem ofInt_mul(a b:Int):(ofInt (a*b):F)=ofInt a*ofInt b:=by
 obtain⟨m,n,rfl⟩:=sC a;obtain⟨p,q,rfl⟩:=sC b;rw[show((m:Int)-n)*(p-q)=((m*p+n*q:Nat):Int)-(m*q+n*p:Nat)by simp only[vJ,om,Int.sub_mul,Int.mul_sub];omega]
 rw[ofInt_sub,ofInt_sub,ofInt_sub];simp only[ofNat_add,ofNat_mul,add_mul,mul_add,neg_mul,mul_neg,Db,neg_neg];simp only[add_assoc,add_left_comm,add_comm]
end CR
open CR
inductive E where
 |var (i:Nat)
 |num (n:Int)
 |add (a b:E)
 |mul (a b:E)
 |neg (a:E)
 |sub (a b:E)
 |one
namespace E
instance:Add E:=⟨E.add⟩
instance:Mul E:=⟨E.mul⟩
instance:Neg E:=⟨E.neg⟩
instance:Sub E:=⟨E.sub⟩
instance:Zero E:=⟨E.num 0⟩
instance:One E:=⟨E.one⟩
def den{F:Type}[CR F](ρ:Nat->F):E->F
 |.var i=>ρ i
 |.num n=>ofInt n
 |.add a b=>den ρ a+den ρ b
 |.mul a b=>den ρ a*den ρ b
 |.neg a=>-den ρ a
 |.sub a b=>den ρ a-den ρ b
 |.one=>1
abbrev Mon:=List Nat
abbrev Poly:=List (Mon×Int)
def N8(v:Nat):Mon->Mon
 |[]=>[v]
 |u::m=>if Nat.ble v u then v::u::m else u::N8 v m
def Kw(m n:Mon):Mon:=m.foldr N8 n
def Fq:Mon->Mon->Bool
 |[],[]=>true
 |a::m,b::n=>Nat.beq a b&&Fq m n
 |_,_=>false
def mlt:Mon->Mon->Bool
 |[],[]=>false
 |[],_::_=>true
 |_::_,[]=>false
 |a::m,b::n=>if Nat.beq a b then mlt m n else Nat.blt a b
def pins(m:Mon)(a:Int):Poly->Poly
 |[]=>[(m,a)]
 |(n,b)::p=>if Fq m n then(if a+b=0 then p else(n,a+b)::p)else if mlt m n then(m,a)::(n,b)::p else(n,b)::pins m a p
def HH(p q:Poly):Poly:=p.foldr (λx acc=>pins x.1 x.2 acc) q
def Kx(m:Mon)(a:Int)(q:Poly)(acc:Poly):Poly:=q.foldr (λx acc=>pins (Kw m x.1) (a*x.2) acc) acc
def Ky(p q:Poly):Poly:=p.foldr (λx acc=>Kx x.1 x.2 q acc) []
def norm:E->Poly
 |.var i=>[([i],1)]
 |.num n=>if n=0 then[]else[([],n)]
 |.add a b=>HH (norm a) (norm b)
 |.mul a b=>Ky (norm a) (norm b)
 |.neg a=>(norm a).map λx=>(x.1,-x.2)
 |.sub a b=>HH (norm a) ((norm b).map λx=>(x.1,-x.2))
 |.one=>[([],1)]
def peq:Poly->Poly->Bool
 |[],[]=>true
 |(m,a)::p,(n,b)::q=>Fq m n&&(a==b)&&peq p q
 |_,_=>false
section
variable{F:Type}[CR F](ρ:Nat->F)
def sE:Mon->F
 |[]=>1
 |v::m=>ρ v*sE m
def j6:Poly->F
 |[]=>0
 |(m,a)::p=>ofInt a*sE ρ m+j6 p
theorem aJ7(v:Nat)(m:Mon):sE ρ (N8 v m)=ρ v*sE ρ m:=by
 induction m with
 |nil=>rfl
 |cons u m ih=>
  simp only[N8];split
  ·rfl
  ·simp only[sE];rw[ih,mul_left_comm]
theorem aJ8(m n:Mon):sE ρ (Kw m n)=sE ρ m*sE ρ n:=by
 induction m with
 |nil=>simp only[Kw,TL,sE,one_mul]
 |cons v m ih=>simp only[Kw,TM,aJ7];simp only[Kw]at ih;rw[ih];simp only[sE];rw[mul_assoc]
theorem aAO{m n:Mon}(h:Fq m n=true):m=n:=by
 induction m generalizing n with
 |nil=>cases n<;>simp_all [Fq]
 |cons a m ih=>
  cases n with
  |nil=>simp[Fq]at h
  |cons b n=>
   simp only[Fq,de]at h;rw[RB h.1,ih h.2]
theorem aAP(m:Mon)(a:Int)(p:Poly):j6 ρ (pins m a p)=ofInt a*sE ρ m+j6 ρ p:=by
 induction p with
 |nil=>rfl
 |cons x p ih=>
  obtain⟨n,b⟩:=x;simp only[pins];split
  ·rename_i h;have:=aAO h;subst this;split
   ·rename_i h0;simp only[j6];rw[<-add_assoc,<-add_mul,<-ofInt_add,h0];rw[show(ofInt 0:F)=0 from rfl,zero_mul,zero_add]
   ·simp only[j6];rw[ofInt_add,add_mul,add_assoc]
  ·split
   ·rfl
   ·simp only[j6];rw[ih,add_left_comm]
theorem aAQ(p q:Poly):j6 ρ (HH p q)=j6 ρ p+j6 ρ q:=by
 induction p with
 |nil=>simp only[HH,TL,j6,zero_add]
 |cons x p ih=>simp only[HH,TM,aAP];simp only[HH]at ih;rw[ih];simp only[j6];rw[add_assoc]
theorem aJ9(m:Mon)(a:Int)(q acc:Poly):j6 ρ (Kx m a q acc)=ofInt a*sE ρ m*j6 ρ q+j6 ρ acc:=by
 induction q with
 |nil=>simp only[Kx,TL,j6,mul_zero,zero_add]
 |cons x q ih=>
  simp only[Kx,TM,aAP];simp only[Kx]at ih;rw[ih];simp only[j6];rw[aJ8,ofInt_mul,mul_add,<-add_assoc]
  congr 2
  simp only[mul_assoc,mul_left_comm]
theorem aKa(p q:Poly):j6 ρ (Ky p q)=j6 ρ p*j6 ρ q:=by
 induction p with
 |nil=>simp only[Ky,TL,j6,zero_mul]
 |cons x p ih=>simp only[Ky,TM,aJ9];simp only[Ky]at ih;rw[ih];simp only[j6];rw[add_mul]
theorem aAR(p:Poly):j6 ρ (p.map λx=>(x.1,-x.2))=-j6 ρ p:=by
 induction p with
 |nil=>simp only[NI,j6,neg_zero]
 |cons x p ih=>simp only[qO,j6];rw[ih,ofInt_neg,neg_mul,Db]
theorem aAS(e:E):j6 ρ (norm e)=den ρ e:=by
 induction e with
 |var i=>
  simp only[norm,j6,sE,den,mul_one,add_zero];rw[show(ofInt 1:F)=0+1 from rfl,zero_add,one_mul]
 |num n=>
  simp only[norm];split
  ·rename_i h;subst h;rfl
  ·simp only[j6,sE,den,mul_one,add_zero]
 |add a b Kz KA=>simp only[norm,den,aAQ,Kz,KA]
 |mul a b Kz KA=>simp only[norm,den,aKa,Kz,KA]
 |neg a ih=>simp only[norm,den,aAR,ih]
 |sub a b Kz KA=>simp only[norm,den,aAQ,aAR,Kz,KA,sub_def]
 |one=>simp only[norm,j6,sE,den,mul_one,add_zero];rw[show(ofInt 1:F)=0+1 from rfl,zero_add]
theorem aKb{p q:Poly}(h:peq p q=true):p=q:=by
 induction p generalizing q with
 |nil=>cases q<;>simp_all [peq]
 |cons x p ih=>
  obtain⟨m,a⟩:=x;cases q with
  |nil=>simp[peq]at h
  |cons y q=>
   obtain⟨n,b⟩:=y;simp only[peq,de,beq_iff_eq]at h;rw[aAO h.1.1,h.1.2,ih h.2]
theorem prove(l r:E)(h:peq l.norm r.norm=true):l.den ρ=r.den ρ:=by rw[<-aAS,<-aAS,aKb h]
end
end E
def sF{F:Type}[CR F](l:List F):Nat->F:=λi=>l.getD i 0
end
section
open CR
class OF (F:Type) extends CR F,Inv F where
 jB:∀ x:F,x≠0->x*x⁻¹=1
 inv_zero:(0:F)⁻¹=0
 ay:F->Int
 fh:∀ x:F,ay x=0↔x=0
 iW:∀ x:F,ay x=-1\/ay x=0\/ay x=1
 pE:∀ x:F,ay (-x)=- ay x
 mE:∀ x y:F,ay (x*y)=ay x*ay y
 Dc:∀ x y:F,ay x=1->ay y=1->ay (x+y)=1
 HI:ay (1:F)=1
namespace OF
variable{F:Type}[OF F]
instance:LT F:=⟨λa b=>ay (b-a)=1⟩
instance:LE F:=⟨λa b=>ay (b-a)≠-1⟩
theorem lt_def(a b:F):(a<b)=(ay (b-a)=1):=rfl
theorem le_def(a b:F):(a<=b)=(ay (b-a)≠-1):=rfl
instance(a b:F):Decidable (a<b):=inferInstanceAs (Decidable (ay (b-a)=1))
instance(a b:F):Decidable (a<=b):=inferInstanceAs (Decidable (ay (b-a)≠-1))
theorem HJ(a:F)(l r:E->E)(h:E.peq (l (.var 0)).norm (r (.var 0)).norm=true):(l (.var 0)).den (sF [a])=(r (.var 0)).den (sF [a]):=E.prove _ _ _ h
theorem j7(a b:F)(l r:E->E->E)(h:E.peq (l (.var 0) (.var 1)).norm (r (.var 0) (.var 1)).norm=true):
  (l (.var 0) (.var 1)).den (sF [a,b])=(r (.var 0) (.var 1)).den (sF [a,b]):=E.prove _ _ _ h
theorem km(a b c:F)(l r:E->E->E->E)(h:E.peq (l (.var 0) (.var 1) (.var 2)).norm (r (.var 0) (.var 1) (.var 2)).norm=true):
  (l (.var 0) (.var 1) (.var 2)).den (sF [a,b,c])=(r (.var 0) (.var 1) (.var 2)).den (sF [a,b,c]):=E.prove _ _ _ h
theorem BD(a b c d:F)(l r:E->E->E->E->E)(h:E.peq (l (.var 0) (.var 1) (.var 2) (.var 3)).norm (r (.var 0) (.var 1) (.var 2) (.var 3)).norm=true):
  (l (.var 0) (.var 1) (.var 2) (.var 3)).den (sF [a,b,c,d])=(r (.var 0) (.var 1) (.var 2) (.var 3)).den (sF [a,b,c,d]):=E.prove _ _ _ h
theorem HK(a b c d e:F)(l r:E->E->E->E->E->E)
  (h:E.peq (l (.var 0) (.var 1) (.var 2) (.var 3) (.var 4)).norm (r (.var 0) (.var 1) (.var 2) (.var 3) (.var 4)).norm=true) :
  (l (.var 0) (.var 1) (.var 2) (.var 3) (.var 4)).den (sF [a,b,c,d,e])=(r (.var 0) (.var 1) (.var 2) (.var 3) (.var 4)).den (sF [a,b,c,d,e]):=E.prove _ _ _ h
theorem aKc(a b c d e f:F)(l r:E->E->E->E->E->E->E)
  (h:E.peq (l (.var 0) (.var 1) (.var 2) (.var 3) (.var 4) (.var 5)).norm (r (.var 0) (.var 1) (.var 2) (.var 3) (.var 4) (.var 5)).norm=true) :
  (l (.var 0) (.var 1) (.var 2) (.var 3) (.var 4) (.var 5)).den (sF [a,b,c,d,e,f])=(r (.var 0) (.var 1) (.var 2) (.var 3) (.var 4) (.var 5)).den (sF [a,b,c,d,e,f]):=E.prove _ _ _ h
theorem sub_zero(a:F):a-0=a:=HJ a (λa=>a-0) (λa=>a) d_
theorem sub_self(a:F):a-a=0:=HJ a (λa=>a-a) (λ_=>0) d_
theorem sub_eq_zero{a b:F}:a-b=0↔a=b:=by
 constructor
 ·intro h;have:a=(a-b)+b:=j7 a b (λa _=>a) (λa b=>(a-b)+b) d_;rw[this,h,CR.zero_add]
 ·rintro rfl;exact sub_self a
theorem il{a:F}:0<a↔ay a=1:=by rw[lt_def,sub_zero]
theorem HL{a:F}:a<0↔ay a=-1:=by rw[lt_def,show(0:F)-a=-a from HJ a (λa=>0-a) (λa=>-a) d_,pE];omega
theorem HM{a:F}:a=0↔ay a=0:=(fh a).symm
theorem KB{a:F}:0<=a↔ay a≠-1:=by rw[le_def,sub_zero]
theorem TN{a:F}:a<=0↔ay a≠1:=by rw[le_def,show(0:F)-a=-a from HJ a (λa=>0-a) (λa=>-a) d_,pE];omega
theorem neg_sub(a b:F):-(a-b)=b-a:=j7 a b (λa b=>-(a-b)) (λa b=>b-a) d_
theorem Fs(a b:F):ay (a-b)=- ay (b-a):=by rw[<-neg_sub,pE]
theorem lt_irrefl(a:F):¬a<a:=by rw[lt_def,sub_self,(fh (0:F)).2 rfl];decide
theorem not_lt{a b:F}:¬a<b↔b<=a:=by rw[lt_def,le_def,Fs a b];omega
theorem not_le{a b:F}:¬a<=b↔b<a:=by rw[lt_def,le_def,Fs a b];rcases iW (b-a)with h|h|h<;>rw[h]<;>decide
theorem lt_trans{a b c:F}(h:a<b)(k:b<c):a<c:=by rw[lt_def]at *;rw[show c-a=(c-b)+(b-a)from km a b c (λa _ c=>c-a) (λa b c=>(c-b)+(b-a)) d_];exact Dc _ _ k h
theorem le_of_lt{a b:F}(h:a<b):a<=b:=by rw[lt_def]at h;rw[le_def,h];decide
theorem le_refl(a:F):a<=a:=by rw[le_def,sub_self,(fh (0:F)).2 rfl];decide
theorem le_of_eq{a b:F}(h:a=b):a<=b:=h▸le_refl a
theorem oC{a b:F}(h:a<=b):a<b\/a=b:=by
 rw[le_def]at h;rw[lt_def];rcases iW (b-a)with k|k|k
 ·exact absurd k h
 ·exact .inr (sub_eq_zero.1 ((fh _).1 k)).symm
 ·exact .inl k
theorem lt_of_lt_of_le{a b c:F}(h:a<b)(k:b<=c):a<c:=by
 rcases oC k with k|rfl
 ·exact lt_trans h k
 ·exact h
theorem lt_of_le_of_lt{a b c:F}(h:a<=b)(k:b<c):a<c:=by
 rcases oC h with h|rfl
 ·exact lt_trans h k
 ·exact k
theorem le_trans{a b c:F}(h:a<=b)(k:b<=c):a<=c:=by
 rcases oC h with h|rfl
 ·exact le_of_lt (lt_of_lt_of_le h k)
 ·exact k
theorem le_antisymm{a b:F}(h:a<=b)(k:b<=a):a=b:=by
 rcases oC h with h|h
 ·exact absurd (lt_of_lt_of_le h k) (lt_irrefl a)
 ·exact h
theorem lt_trichotomy(a b:F):a<b\/a=b\/b<a:=by
 by_cases h:a<b
 ·exact .inl h
 ·rcases oC (not_lt.1 h)with h|h
  ·exact .inr (.inr h)
  ·exact .inr (.inl h.symm)
theorem le_total(a b:F):a<=b\/b<=a:=by
 by_cases h:a<b
 ·exact .inl (le_of_lt h)
 ·exact .inr (not_lt.1 h)
theorem ne_of_lt{a b:F}(h:a<b):a≠b:=λe=>lt_irrefl b (e▸h)
theorem ne_of_gt{a b:F}(h:a<b):b≠a:=λe=>lt_irrefl b (e▸h)
theorem sub_pos{a b:F}:0<b-a↔a<b:=by rw[il,lt_def]
theorem sub_nonneg{a b:F}:0<=b-a↔a<=b:=by rw[KB,le_def]
theorem add_pos{a b:F}(h:0<a)(k:0<b):0<a+b:=by rw[il]at *;exact Dc _ _ h k
theorem add_nonneg{a b:F}(h:0<=a)(k:0<=b):0<=a+b:=by
 rcases oC h with h|h
 ·rcases oC k with k|k
  ·exact le_of_lt (add_pos h k)
  ·rw[<-k,CR.add_zero];exact le_of_lt h
 ·rw[<-h,CR.zero_add];exact k
theorem HN{a b:F}(h:0<a)(k:0<=b):0<a+b:=by
 rcases oC k with k|k
 ·exact add_pos h k
 ·rw[<-k,CR.add_zero];exact h
theorem aAT{a b:F}(h:0<=a)(k:0<b):0<a+b:=by rw[CR.add_comm];exact HN k h
theorem mul_pos{a b:F}(h:0<a)(k:0<b):0<a*b:=by rw[il]at *;rw[mE,h,k];rfl
theorem mul_nonneg{a b:F}(h:0<=a)(k:0<=b):0<=a*b:=by
 rcases oC h with h|h
 ·rcases oC k with k|k
  ·exact le_of_lt (mul_pos h k)
  ·rw[<-k,CR.mul_zero];exact le_refl _
 ·rw[<-h,CR.zero_mul];exact le_refl _
theorem neg_pos{a:F}:0 < -a↔a<0:=by rw[il,HL,pE];omega
theorem neg_nonneg{a:F}:0<=-a↔a<=0:=by rw[KB,TN,pE];omega
theorem KC{a:F}:-a<0↔0<a:=by rw[il,HL,pE];omega
theorem HO{a:F}:-a<=0↔0<=a:=by rw[KB,TN,pE];omega
theorem zero_lt_one:(0:F)<1:=by rw[il];exact HI
theorem nj(a:F):0<=a*a:=by rw[KB,mE];rcases iW a with h|h|h<;>rw[h]<;>decide
theorem TO{a:F}(h:a≠0):0<a*a:=by
 rw[il,mE];rcases iW a with k|k|k
 ·rw[k];decide
 ·exact absurd ((fh a).1 k) h
 ·rw[k];decide
theorem mul_eq_zero{a b:F}:a*b=0↔a=0\/b=0:=by rw[<-fh,mE,<-fh,<-fh,Int.mul_eq_zero]
theorem mul_ne_zero{a b:F}(h:a≠0)(k:b≠0):a*b≠0:=λe=>by
 rcases mul_eq_zero.1 e with e|e
 ·exact h e
 ·exact k e
theorem mul_lt_mul_left{a b c:F}(hc:0<c):c*a<c*b↔a<b:=by rw[lt_def,lt_def,show c*b-c*a=c*(b-a)from km a b c (λa b c=>c*b-c*a) (λa b c=>c*(b-a)) d_,mE,il.1 hc,N5]
theorem mul_le_mul_left{a b c:F}(hc:0<c):c*a<=c*b↔a<=b:=by rw[le_def,le_def,show c*b-c*a=c*(b-a)from km a b c (λa b c=>c*b-c*a) (λa b c=>c*(b-a)) d_,mE,il.1 hc,N5]
theorem add_lt_add_left{a b:F}(c:F):c+a<c+b↔a<b:=by rw[lt_def,lt_def,show c+b-(c+a)=b-a from km a b c (λa b c=>c+b-(c+a)) (λa b _=>b-a) d_]
theorem add_le_add_left{a b:F}(c:F):c+a<=c+b↔a<=b:=by rw[le_def,le_def,show c+b-(c+a)=b-a from km a b c (λa b c=>c+b-(c+a)) (λa b _=>b-a) d_]
theorem add_lt_add_right{a b:F}(c:F):a+c<b+c↔a<b:=by rw[CR.add_comm a,CR.add_comm b];exact add_lt_add_left c
theorem add_le_add_right{a b:F}(c:F):a+c<=b+c↔a<=b:=by rw[CR.add_comm a,CR.add_comm b];exact add_le_add_left c
theorem add_le_add{a b c d:F}(h:a<=b)(k:c<=d):a+c<=b+d:=le_trans ((add_le_add_right c).2 h) ((add_le_add_left b).2 k)
theorem add_lt_add_of_lt_of_le{a b c d:F}(h:a<b)(k:c<=d):a+c<b+d:=lt_of_lt_of_le ((add_lt_add_right c).2 h) ((add_le_add_left b).2 k)
theorem add_lt_add_of_le_of_lt{a b c d:F}(h:a<=b)(k:c<d):a+c<b+d:=lt_of_le_of_lt ((add_le_add_right c).2 h) ((add_lt_add_left b).2 k)
theorem inv_mul{a:F}(h:a≠0):a⁻¹*a=1:=by rw[CR.mul_comm,jB a h]
theorem aKd(a:F):ay a⁻¹=ay a:=by
 by_cases h:a=0
 ·rw[h,inv_zero]
 ·have:=mE a a⁻¹;rw[jB a h,HI]at this;rcases iW a with k|k|k<;>rcases iW a⁻¹ with l|l|l<;>rw[k,l]at this ⊢<;>omega
theorem inv_pos{a:F}(h:0<a):0<a⁻¹:=by rw[il]at *;rw[aKd,h]
theorem KD{u v:F}(h:v*v<u*u):ay (u+v)=ay u:=by
 have e:(u+v)*(u-v)=u*u-v*v:=j7 u v (λu v=>(u+v)*(u-v)) (λu v=>u*u-v*v) d_;have s:ay (u+v)*ay (u-v)=1:=by rw[<-mE,e];exact h
 have t:(u+v)+(u-v)=u+u:=j7 u v (λu v=>(u+v)+(u-v)) (λu _=>u+u) d_;have two:∀ x y:F,ay x=1->ay y=1->x+y=u+u->ay u=1:=by
  intro x y hx hy kC;have:=Dc x y hx hy;rw[kC]at this;rcases iW u with k|k|k
  ·have h2:=Dc (-u) (-u) (by rw[pE,k];rfl) (by rw[pE,k];rfl);rw[<-CR.Db,pE,this]at h2;exact absurd h2 d_
  ·rw[(fh u).1 k,CR.add_zero,(fh (0:F)).2 rfl]at this;exact absurd this d_
  ·exact k
 rcases iW (u+v)with k|k|k<;>rcases iW (u-v)with l|l|l<;>rw[k,l]at s<;>first|exact absurd s d_|skip
 ·have h1:=Dc (-(u+v)) (-(u-v)) (by rw[pE,k];rfl) (by rw[pE,l];rfl);rw[<-CR.Db,t,CR.Db]at h1;rw[k];rcases iW u with m|m|m
  ·exact m.symm
  ·rw[(fh u).1 m,CR.neg_zero,CR.add_zero,(fh (0:F)).2 rfl]at h1;exact absurd h1 d_
  ·have h2:=Dc u u m m;rw[<-CR.Db,pE,h2]at h1;exact absurd h1 d_
 ·rw[k,two _ _ k l t]
theorem aAU{a b:F}(h:0<a):ay (a*b)=ay b:=by rw[mE,il.1 h,N5]
theorem mul_lt_mul''{a b c d:F}(ha:0<=a)(h:a<b)(hc:0<=c)(k:c<d):a*c<b*d:=by have hb:=lt_of_le_of_lt ha h;have hd:=lt_of_le_of_lt hc k;have e:b*d-a*c=(b-a)*d+a*(d-c):=BD a b c d (λa b c d=>b*d-a*c) (λa b c d=>(b-a)*d+a*(d-c)) d_;rw[<-sub_pos,e];exact HN (mul_pos (sub_pos.2 h) hd) (mul_nonneg ha (sub_nonneg.2 (le_of_lt k)))
end OF
end
section
open CR OF
class xy (F:Type) [OF F] (s:F):Prop where
 pos:0<s
 TP:∀ x y:F,x*x=s*(y*y)->y=0
@[ext] structure bB (F:Type) (s:F) where
 re:F
 im:F
namespace bB
variable{F:Type}[OF F]{s:F}
instance:Add (bB F s):=⟨λx y=>⟨x.re+y.re,x.im+y.im⟩⟩
instance:Mul (bB F s):=⟨λx y=>⟨x.re*y.re+s*(x.im*y.im),x.re*y.im+x.im*y.re⟩⟩
instance:Neg (bB F s):=⟨λx=>⟨-x.re,-x.im⟩⟩
instance:Sub (bB F s):=⟨λx y=>⟨x.re-y.re,x.im-y.im⟩⟩
instance:Zero (bB F s):=⟨⟨0,0⟩⟩
instance:One (bB F s):=⟨⟨1,0⟩⟩
def nm(x:bB F s):F:=x.re*x.re-s*(x.im*x.im)
instance:Inv (bB F s):=⟨λx=>⟨x.re*(nm x)⁻¹,-(x.im*(nm x)⁻¹)⟩⟩
def sg(x:bB F s):Int:=if ay (nm x)=1 then ay x.re else ay x.im
theorem TQ(x y:bB F s):(x+y).re=x.re+y.re:=rfl
theorem TR(x y:bB F s):(x+y).im=x.im+y.im:=rfl
theorem HP(x y:bB F s):(x*y).re=x.re*y.re+s*(x.im*y.im):=rfl
theorem HQ(x y:bB F s):(x*y).im=x.re*y.im+x.im*y.re:=rfl
theorem N9(x:bB F s):(-x).re=-x.re:=rfl
theorem Oa(x:bB F s):(-x).im=-x.im:=rfl
theorem HR:(0:bB F s).re=0:=rfl
theorem HT:(0:bB F s).im=0:=rfl
theorem TS:(1:bB F s).re=1:=rfl
theorem aAV:(1:bB F s).im=0:=rfl
theorem TT(x:bB F s):(x⁻¹).re=x.re*(nm x)⁻¹:=rfl
theorem TU(x:bB F s):(x⁻¹).im=-(x.im*(nm x)⁻¹):=rfl
theorem Ob(x y:bB F s):nm (x*y)=nm x*nm y:=by
 unfold nm;rw[HP,HQ]
 exact HK x.re x.im y.re y.im s (λa b c d s=>(a*c+s*(b*d))*(a*c+s*(b*d))-s*((a*d+b*c)*(a*d+b*c)))
  (λa b c d s=>(a*a-s*(b*b))*(c*c-s*(d*d))) d_
theorem aAW(x:bB F s):nm (-x)=nm x:=by unfold nm;rw[N9,Oa];exact km x.re x.im s (λa b s=>-a*-a-s*(-b*-b)) (λa b s=>a*a-s*(b*b)) d_
theorem sG{x:bB F s}(h:ay (nm x)=1):sg x=ay x.re:=by unfold sg;rw[ax h]
theorem tG{x:bB F s}(h:ay (nm x)=-1):sg x=ay x.im:=by unfold sg;rw[au (by rw[h];decide)]
theorem HU:sg (0:bB F s)=0:=by unfold sg;split<;>exact(fh _).2 rfl
theorem TV(x:bB F s):sg (-x)=- sg x:=by unfold sg;rw[aAW,N9,Oa,OF.pE,OF.pE];split<;>rfl
theorem aKe(x:bB F s):sg x=-1\/sg x=0\/sg x=1:=by unfold sg;split<;>exact iW _
theorem Oc(x:bB F s):(-x).re*(-x).re=x.re*x.re/\(-x).im*(-x).im=x.im*x.im:=by rw[N9,Oa];exact⟨HJ x.re (λa=>-a*-a) (λa=>a*a) d_,HJ x.im (λa=>-a*-a) (λa=>a*a) d_⟩
theorem aKf(x y:bB F s):x+y=y+x:=bB.ext (CR.add_comm _ _) (CR.add_comm _ _)
theorem aKg:sg (1:bB F s)=1:=by
 have:nm (1:bB F s)=1:=by unfold nm;rw[TS,aAV,CR.mul_zero,CR.mul_zero,OF.sub_zero,CR.one_mul]
 rw[sG (by rw[this];exact HI),TS];exact HI
variable[hs:xy F s]
theorem Od{x:bB F s}(h:nm x=0):x=0:=by
 have h1:=OF.sub_eq_zero.1 h;have h2:=xy.TP _ _ h1;have h3:x.re=0:=by rw[h2,CR.mul_zero,CR.mul_zero]at h1;rcases mul_eq_zero.1 h1 with h|h<;>exact h
 exact bB.ext h3 h2
theorem ways(x:bB F s):x=0\/(ay (nm x)=1/\s*(x.im*x.im)<x.re*x.re)\/(ay (nm x)=-1/\x.re*x.re<s*(x.im*x.im)):=by
 rcases OF.lt_trichotomy (x.re*x.re) (s*(x.im*x.im))with h|h|h
 ·refine .inr (.inr ⟨?_,h⟩);unfold nm;rw[Fs,show ay (s*(x.im*x.im)-x.re*x.re)=1 from h]
 ·exact .inl (Od (OF.sub_eq_zero.2 h))
 ·exact .inr (.inl ⟨h,h⟩)
theorem aKh:ay s=1:=il.1 (xy.pos (F:=F) (s:=s))
theorem aKi(x y:bB F s):sg (x*y)=sg x*sg y:=by
 have hz:∀ z:bB F s,(0:bB F s)*z=0:=λz=>by
  apply bB.ext
  ·rw[HP,HR,HT,CR.zero_mul,CR.zero_mul,CR.mul_zero,CR.add_zero]
  ·rw[HQ,HR,HT,CR.zero_mul,CR.zero_mul,CR.add_zero]
 have oj:∀ z:bB F s,z*(0:bB F s)=0:=λz=>by
  apply bB.ext
  ·rw[HP,HR,HT,CR.mul_zero,CR.mul_zero,CR.mul_zero,CR.add_zero]
  ·rw[HQ,HR,HT,CR.mul_zero,CR.mul_zero,CR.add_zero]
 have hp:=xy.pos (F:=F) (s:=s);rcases ways x with rfl|⟨hx,lx⟩|⟨hx,lx⟩
 ·rw[hz,HU,Int.zero_mul]
 ·rcases ways y with rfl|⟨hy,ly⟩|⟨hy,ly⟩
  ·rw[oj,HU,Int.mul_zero]
  ·have hn:ay (nm (x*y))=1:=by rw[Ob,mE,hx,hy];rfl
   rw[sG hx,sG hy,sG hn,<-mE,HP];apply KD;have:=mul_lt_mul'' (mul_nonneg (le_of_lt hp) (nj _)) lx (mul_nonneg (le_of_lt hp) (nj _)) ly;rw[show s*(x.im*y.im)*(s*(x.im*y.im))=s*(x.im*x.im)*(s*(y.im*y.im))from km x.im y.im s (λb d s=>s*(b*d)*(s*(b*d))) (λb d s=>s*(b*b)*(s*(d*d))) d_];rw[show x.re*y.re*(x.re*y.re)=x.re*x.re*(y.re*y.re)from j7 x.re y.re (λa c=>a*c*(a*c)) (λa c=>a*a*(c*c)) d_];exact this
  ·have hn:ay (nm (x*y))=-1:=by rw[Ob,mE,hx,hy];rfl
   rw[sG hx,tG hy,tG hn,<-mE,HQ];apply KD;have:=mul_lt_mul'' (mul_nonneg (le_of_lt hp) (nj _)) lx (nj _) ly;rw[<-mul_lt_mul_left hp];rw[show s*(x.im*y.re*(x.im*y.re))=s*(x.im*x.im)*(y.re*y.re)from km x.im y.re s (λb c s=>s*(b*c*(b*c))) (λb c s=>s*(b*b)*(c*c)) d_];rw[show s*(x.re*y.im*(x.re*y.im))=x.re*x.re*(s*(y.im*y.im))from km x.re y.im s (λa d s=>s*(a*d*(a*d))) (λa d s=>a*a*(s*(d*d))) d_];exact this
 ·rcases ways y with rfl|⟨hy,ly⟩|⟨hy,ly⟩
  ·rw[oj,HU,Int.mul_zero]
  ·have hn:ay (nm (x*y))=-1:=by rw[Ob,mE,hx,hy];rfl
   rw[tG hx,sG hy,tG hn,<-mE,HQ,CR.add_comm];apply KD;have:=mul_lt_mul'' (nj _) lx (mul_nonneg (le_of_lt hp) (nj _)) ly;rw[<-mul_lt_mul_left hp];rw[show s*(x.im*y.re*(x.im*y.re))=s*(x.im*x.im)*(y.re*y.re)from km x.im y.re s (λb c s=>s*(b*c*(b*c))) (λb c s=>s*(b*b)*(c*c)) d_];rw[show s*(x.re*y.im*(x.re*y.im))=x.re*x.re*(s*(y.im*y.im))from km x.re y.im s (λa d s=>s*(a*d*(a*d))) (λa d s=>a*a*(s*(d*d))) d_];exact this
  ·have hn:ay (nm (x*y))=1:=by rw[Ob,mE,hx,hy];rfl
   rw[tG hx,tG hy,sG hn,<-mE,HP,CR.add_comm];rw[show ay (x.im*y.im)=ay (s*(x.im*y.im))by rw[aAU hp]];apply KD;have:=mul_lt_mul'' (nj _) lx (nj _) ly;rw[show s*(x.im*y.im)*(s*(x.im*y.im))=s*(x.im*x.im)*(s*(y.im*y.im))from km x.im y.im s (λb d s=>s*(b*d)*(s*(b*d))) (λb d s=>s*(b*b)*(s*(d*d))) d_];rw[show x.re*y.re*(x.re*y.re)=x.re*x.re*(y.re*y.re)from j7 x.re y.re (λa c=>a*c*(a*c)) (λa c=>a*a*(c*c)) d_];exact this
theorem aKj(x:bB F s):sg x=0↔x=0:=by
 constructor
 ·intro h;rcases ways x with rfl|⟨hx,lx⟩|⟨hx,lx⟩
  ·rfl
  ·rw[sG hx]at h;rw[(fh _).1 h,CR.mul_zero]at lx;exact absurd (lt_of_le_of_lt (mul_nonneg (le_of_lt (xy.pos (F:=F) (s:=s))) (nj _)) lx) (OF.lt_irrefl _)
  ·rw[tG hx]at h;rw[(fh _).1 h,CR.mul_zero,CR.mul_zero]at lx;exact absurd (lt_of_le_of_lt (nj _) lx) (OF.lt_irrefl _)
 ·rintro rfl;exact HU
theorem aAX{u v:F}(hu:0<u)(h:v*v<u*u):0<u+v:=by rw[il,KD h];exact il.1 hu
theorem add_one{x y:bB F s}(hx:s*(x.im*x.im)<x.re*x.re)(hy:s*(y.im*y.im)<y.re*y.re)(px:0<x.re)(py:0<y.re):sg (x+y)=1:=by
 have hp:=xy.pos (F:=F) (s:=s);have:=mul_lt_mul'' (mul_nonneg (le_of_lt hp) (nj _)) hx (mul_nonneg (le_of_lt hp) (nj _)) hy;have h1:0<x.re*y.re+-(s*(x.im*y.im)):=by apply aAX (mul_pos px py);rw[show -(s*(x.im*y.im))*-(s*(x.im*y.im))=s*(x.im*x.im)*(s*(y.im*y.im))from km x.im y.im s (λb d s=>-(s*(b*d))*-(s*(b*d))) (λb d s=>s*(b*b)*(s*(d*d))) d_];rw[show x.re*y.re*(x.re*y.re)=x.re*x.re*(y.re*y.re)from j7 x.re y.re (λa c=>a*c*(a*c)) (λa c=>a*a*(c*c)) d_];exact this
 have hn:ay (nm (x+y))=1:=by
  rw[<-il];unfold nm;rw[TQ,TR];rw[show(x.re+y.re)*(x.re+y.re)-s*((x.im+y.im)*(x.im+y.im))=(x.re*x.re-s*(x.im*x.im))+(y.re*y.re-s*(y.im*y.im))+((x.re*y.re+-(s*(x.im*y.im)))+(x.re*y.re+-(s*(x.im*y.im))))from
   HK x.re x.im y.re y.im s (λa b c d s=>(a+c)*(a+c)-s*((b+d)*(b+d))) (λa b c d s=>(a*a-s*(b*b))+(c*c-s*(d*d))+((a*c+-(s*(b*d)))+(a*c+-(s*(b*d))))) d_]
  exact add_pos (add_pos (sub_pos.2 hx) (sub_pos.2 hy)) (add_pos h1 h1)
 rw[sG hn,TQ];exact il.1 (add_pos px py)
theorem aAY{x y:bB F s}(hx:x.re*x.re<s*(x.im*x.im))(hy:y.re*y.re<s*(y.im*y.im))(px:0<x.im)(py:0<y.im):sg (x+y)=1:=by
 have hp:=xy.pos (F:=F) (s:=s);have:=mul_lt_mul'' (nj _) hx (nj _) hy;have h1:0<s*(x.im*y.im)+-(x.re*y.re):=by apply aAX (mul_pos hp (mul_pos px py));rw[show s*(x.im*y.im)*(s*(x.im*y.im))=s*(x.im*x.im)*(s*(y.im*y.im))from km x.im y.im s (λb d s=>s*(b*d)*(s*(b*d))) (λb d s=>s*(b*b)*(s*(d*d))) d_];rw[show -(x.re*y.re)*-(x.re*y.re)=x.re*x.re*(y.re*y.re)from j7 x.re y.re (λa c=>-(a*c)*-(a*c)) (λa c=>a*a*(c*c)) d_];exact this
 have hn:ay (nm (x+y))=-1:=by
  rw[<-HL,<-neg_pos];unfold nm;rw[TQ,TR];rw[show -((x.re+y.re)*(x.re+y.re)-s*((x.im+y.im)*(x.im+y.im)))=(s*(x.im*x.im)-x.re*x.re)+(s*(y.im*y.im)-y.re*y.re)+((s*(x.im*y.im)+-(x.re*y.re))+(s*(x.im*y.im)+-(x.re*y.re)))from
   HK x.re x.im y.re y.im s (λa b c d s=>-((a+c)*(a+c)-s*((b+d)*(b+d)))) (λa b c d s=>(s*(b*b)-a*a)+(s*(d*d)-c*c)+((s*(b*d)+-(a*c))+(s*(b*d)+-(a*c)))) d_]
  exact add_pos (add_pos (sub_pos.2 hx) (sub_pos.2 hy)) (add_pos h1 h1)
 rw[tG hn,TR];exact il.1 (add_pos px py)
theorem aKk(x y:bB F s)(hx:sg x=1)(hy:sg y=1):sg (x+y)=1:=by
 have ne:∀ z:bB F s,sg z=1->z≠0:=λz h e=>by rw[e,HU]at h;exact absurd h d_
 -- the first part of x aVA,the second one of y
 have mixed:∀ x y:bB F s,sg x=1->sg y=1->ay (nm x)=1->s*(x.im*x.im)<x.re*x.re->ay (nm y)=-1->y.re*y.re<s*(y.im*y.im)->sg (x+y)=1:=by
  intro x y hx hy nx lx ny ly;rw[sG nx]at hx;rw[tG ny]at hy;rcases ways (x+y)with h|⟨hn,ln⟩|⟨hn,ln⟩
  ·have:y=-x:=by have h1:x.re+y.re=0:=cM bB.re h;have h2:x.im+y.im=0:=cM bB.im h;exact bB.ext (CR.HG h1) (CR.HG h2)
   rw[this,aAW,nx]at ny;exact absurd ny d_
  ·rw[sG hn];rcases iW (x+y).re with k|k|k
   ·-- then -(x+y) and x add up to -y
    have h3:=add_one (x:=-(x+y)) (y:=x) (by rw[(Oc _).1,(Oc _).2];exact ln) lx (by rw[N9];exact neg_pos.2 (HL.2 k)) (il.2 hx);have h4:-(x+y)+x=-y:=bB.ext (j7 x.re y.re (λa c=>-(a+c)+a) (λ_ c=>-c) d_) (j7 x.im y.im (λa c=>-(a+c)+a) (λ_ c=>-c) d_);rw[h4,TV,tG ny,hy]at h3;exact absurd h3 d_
   ·have k0:=(fh _).1 k;rw[k0,CR.mul_zero]at ln;exact absurd (lt_of_le_of_lt (mul_nonneg (le_of_lt (xy.pos (F:=F) (s:=s))) (nj _)) ln) (OF.lt_irrefl _)
   ·exact k
  ·rw[tG hn];rcases iW (x+y).im with k|k|k
   ·have h3:=aAY (x:=-(x+y)) (y:=y) (by rw[(Oc _).1,(Oc _).2];exact ln) ly (by rw[Oa];exact neg_pos.2 (HL.2 k)) (il.2 hy);have h4:-(x+y)+y=-x:=bB.ext (j7 x.re y.re (λa c=>-(a+c)+c) (λa _=>-a) d_) (j7 x.im y.im (λa c=>-(a+c)+c) (λa _=>-a) d_);rw[h4,TV,sG nx,hx]at h3;exact absurd h3 d_
   ·have k0:=(fh _).1 k;rw[k0,CR.mul_zero,CR.mul_zero]at ln;exact absurd (lt_of_le_of_lt (nj _) ln) (OF.lt_irrefl _)
   ·exact k
 rcases ways x with h|⟨nx,lx⟩|⟨nx,lx⟩
 ·exact absurd h (ne x hx)
 ·rcases ways y with h|⟨ny,ly⟩|⟨ny,ly⟩
  ·exact absurd h (ne y hy)
  ·rw[sG nx]at hx;rw[sG ny]at hy;exact add_one lx ly (il.2 hx) (il.2 hy)
  ·exact mixed x y hx hy nx lx ny ly
 ·rcases ways y with h|⟨ny,ly⟩|⟨ny,ly⟩
  ·exact absurd h (ne y hy)
  ·rw[aKf];exact mixed y x hy hx ny ly nx lx
  ·rw[tG nx]at hx;rw[tG ny]at hy;exact aAY lx ly (il.2 hx) (il.2 hy)
instance:OF (bB F s) where
 add_assoc a b c:=bB.ext (CR.add_assoc _ _ _) (CR.add_assoc _ _ _)
 add_comm a b:=bB.ext (CR.add_comm _ _) (CR.add_comm _ _)
 zero_add a:=bB.ext (CR.zero_add _) (CR.zero_add _)
 neg_add a:=bB.ext (CR.neg_add _) (CR.neg_add _)
 mul_assoc x y z:=bB.ext
  (E.prove (sF [x.re,x.im,y.re,y.im,z.re,z.im,s]) ((E.var 0*E.var 2+E.var 6*(E.var 1*E.var 3))*E.var 4+E.var 6*((E.var 0*E.var 3+E.var 1*E.var 2)*E.var 5))
   (E.var 0*(E.var 2*E.var 4+E.var 6*(E.var 3*E.var 5))+E.var 6*(E.var 1*(E.var 2*E.var 5+E.var 3*E.var 4))) d_)
  (E.prove (sF [x.re,x.im,y.re,y.im,z.re,z.im,s]) ((E.var 0*E.var 2+E.var 6*(E.var 1*E.var 3))*E.var 5+(E.var 0*E.var 3+E.var 1*E.var 2)*E.var 4)
   (E.var 0*(E.var 2*E.var 5+E.var 3*E.var 4)+E.var 1*(E.var 2*E.var 4+E.var 6*(E.var 3*E.var 5))) d_)
 mul_comm x y:=bB.ext
  (HK x.re x.im y.re y.im s (λa b c d s=>a*c+s*(b*d)) (λa b c d s=>c*a+s*(d*b)) d_)
  (BD x.re x.im y.re y.im (λa b c d=>a*d+b*c) (λa b c d=>c*b+d*a) d_)
 one_mul x:=bB.ext
  (km x.re x.im s (λa b s=>1*a+s*(0*b)) (λa _ _=>a) d_)
  (j7 x.re x.im (λa b=>1*b+0*a) (λ_ b=>b) d_)
 mul_add x y z:=bB.ext
  (E.prove (sF [x.re,x.im,y.re,y.im,z.re,z.im,s]) (E.var 0*(E.var 2+E.var 4)+E.var 6*(E.var 1*(E.var 3+E.var 5)))
   ((E.var 0*E.var 2+E.var 6*(E.var 1*E.var 3))+(E.var 0*E.var 4+E.var 6*(E.var 1*E.var 5))) d_)
  (aKc x.re x.im y.re y.im z.re z.im (λa b c d e f=>a*(d+f)+b*(c+e)) (λa b c d e f=>(a*d+b*c)+(a*f+b*e)) d_)
 sub_def a b:=bB.ext (CR.sub_def _ _) (CR.sub_def _ _)
 jB x h:=by
  have hn:nm x≠0:=λe=>h (Od e);have h1:=jB (nm x) hn;apply bB.ext
  ·rw[HP,TT,TU,TS,<-h1];exact BD x.re x.im s (nm x)⁻¹ (λa b s n=>a*(a*n)+s*(b*-(b*n))) (λa b s n=>(a*a-s*(b*b))*n) d_
  ·rw[HQ,TT,TU,aAV];exact km x.re x.im (nm x)⁻¹ (λa b n=>a*-(b*n)+b*(a*n)) (λ_ _ _=>0) d_
 inv_zero:=by
  apply bB.ext
  ·rw[TT,HR,CR.zero_mul]
  ·rw[TU,HT,CR.zero_mul,CR.neg_zero]
 ay:=sg
 fh:=aKj
 iW:=aKe
 pE:=TV
 mE:=aKi
 Dc:=aKk
 HI:=aKg
end bB
theorem BE(q:Rat):q.num.sign=1↔0<q:=by rw[Int.sign_eq_one_iff_pos,Rat.lt_iff];simp
theorem HV(q:Rat):q.num.sign=-1↔q<0:=by rw[aKl,Rat.lt_iff];simp
theorem HW(q:Rat):q.num.sign=0↔q=0:=by rw[aKm];exact Rat.num_eq_zero
theorem TW(q:Rat):q.num.sign=-1\/q.num.sign=0\/q.num.sign=1:=by
 rcases Oe q.num 0 with h|h|h
 ·exact .inl (aKl.2 h)
 ·exact .inr (.inl (aKm.2 h))
 ·exact .inr (.inr (Int.sign_eq_one_iff_pos.2 h))
instance:OF Rat where
 add_assoc:=Rat.add_assoc
 add_comm:=Rat.add_comm
 zero_add:=Rat.zero_add
 neg_add:=Rat.neg_add_cancel
 mul_assoc:=Rat.mul_assoc
 mul_comm:=Rat.mul_comm
 one_mul:=Rat.one_mul
 mul_add:=Rat.mul_add
 sub_def:=Rat.sub_eq_add_neg
 jB:=λx h=>HX x h
 inv_zero:=Rat.inv_zero
 ay q:=q.num.sign
 fh:=HW
 iW:=TW
 pE q:=by rw[Rat.neg_num,Int.sign_neg]
 mE x y:=by
  rcases TW x with h|h|h<;>rcases TW y with k|k|k<;>rw[h,k]
  ·exact(BE _).2 (by have:=(HV _).1 h;have:=(HV _).1 k;have h2:=TX (a:=-x) (b:=-y) (by grind) (by grind);grind)
  ·rw[(HW y).1 k,Rat.mul_zero];rfl
  ·exact(HV _).2 (by have:=(HV _).1 h;have:=(BE _).1 k;have h2:=TX (a:=-x) (b:=y) (by grind) (by grind);grind)
  ·rw[(HW x).1 h,Rat.zero_mul];rfl
  ·rw[(HW x).1 h,Rat.zero_mul];rfl
  ·rw[(HW x).1 h,Rat.zero_mul];rfl
  ·exact(HV _).2 (by have:=(BE _).1 h;have:=(HV _).1 k;have h2:=TX (a:=x) (b:=-y) (by grind) (by grind);grind)
  ·rw[(HW y).1 k,Rat.mul_zero];rfl
  ·exact(BE _).2 (TX ((BE _).1 h) ((BE _).1 k))
 Dc x y h k:=(BE _).2 (by have:=(BE _).1 h;have:=(BE _).1 k;grind)
 HI:=rfl
theorem aKn(n:Nat)(hn:n=2\/n=3\/n=6)(p q:Nat)(h:p*p=n*(q*q))(hc:Nat.gcd p q=1):False:=by
 rcases hn with rfl|rfl|rfl
 ·have h1:p%2=0:=by
   have:(p*p)%2=0:=by rw[h];omega
   rcases TY p with k|k
   ·exact k
   ·rw[KE,k]at this;exact absurd this d_
  obtain⟨r,rfl⟩:∃ r,p=2*r:=⟨p/2,by omega⟩;have h2:q*q=2*(r*r):=by
   have:2*r*(2*r)=2*(2*(r*r)):=by simp only[fO,mX]
   omega
  have h3:q%2=0:=by
   have:(q*q)%2=0:=by rw[h2];omega
   rcases TY q with k|k
   ·exact k
   ·rw[KE,k]at this;exact absurd this d_
  have:=HY (KF h1) (KF h3);rw[hc]at this;exact absurd this d_
 ·have m3:∀ k:Nat,(k*k)%3=0->k%3=0:=by
   intro k hk;have:k%3=0\/k%3=1\/k%3=2:=by omega
   rcases this with e|e|e
   ·exact e
   ·rw[KE,e]at hk;exact absurd hk d_
   ·rw[KE,e]at hk;exact absurd hk d_
  have h1:p%3=0:=m3 p (by rw[h];omega);obtain⟨r,rfl⟩:∃ r,p=3*r:=⟨p/3,by omega⟩;have h2:q*q=3*(r*r):=by
   have:3*r*(3*r)=3*(3*(r*r)):=by simp only[fO,mX]
   omega
  have h3:q%3=0:=m3 q (by rw[h2];omega);have:=HY (KF h1) (KF h3);rw[hc]at this;exact absurd this d_
 ·have h1:p%2=0:=by
   have:(p*p)%2=0:=by rw[h];omega
   rcases TY p with k|k
   ·exact k
   ·rw[KE,k]at this;exact absurd this d_
  obtain⟨r,rfl⟩:∃ r,p=2*r:=⟨p/2,by omega⟩;have h2:3*(q*q)=2*(r*r):=by
   have:2*r*(2*r)=2*(2*(r*r)):=by simp only[fO,mX]
   omega
  have h3:q%2=0:=by
   have:(q*q)%2=0:=by omega
   rcases TY q with k|k
   ·exact k
   ·rw[KE,k]at this;exact absurd this d_
  have:=HY (KF h1) (KF h3);rw[hc]at this;exact absurd this d_
theorem TZ(n:Nat)(hn:n=2\/n=3\/n=6)(x:Rat)(h:x*x=(n:Rat)):False:=by
 have hd:(x.den:Rat)≠0:=by have:=x.den_nz;simpa[Rat.natCast_eq_zero_iff]using this
 have e:(x.num:Rat)*x.num=n*(x.den*x.den):=by
  have h3:x*(x.den:Rat)=x.num:=by have h4:(x.num:Rat)/x.den*x.den=x.num:=aAZ hd;rw[<-Rat.mkRat_eq_div,Rat.mkRat_self]at h4;exact h4
  rw[<-h3,<-h];grind
 have e':x.num*x.num=n*(x.den*x.den):=by
  have:((x.num*x.num:Int):Rat)=((n*(x.den*x.den):Int):Rat):=by simp only[Dd,Rat.intCast_natCast];exact e
  exact Rat.intCast_inj.1 this
 have e'':x.num.natAbs*x.num.natAbs=n*(x.den*x.den):=by have:=cM Int.natAbs e';rw[uQ]at this;rw[this];simp[uQ]
 exact aKn n hn _ _ e'' x.reduced
theorem aKo{x y c:Rat}(h:x*x=c*(y*y))(hy:y≠0):(x*y⁻¹)*(x*y⁻¹)=c:=by
 have:=HX y hy;have e:(x*y⁻¹)*(x*y⁻¹)=(x*x)*(y⁻¹*y⁻¹):=by grind
 rw[e,h];grind
instance aVB:xy Rat 2 where
 pos:=by rw[il];rfl
 TP x y h:=by
  by_cases hy:y=0
  ·exact hy
  ·exact(TZ 2 (.inl rfl) _ (aKo h hy)).elim
abbrev K2:=bB Rat 2
def xz:K2:=⟨3,0⟩
theorem aKp(x:K2)(h:x*x=xz):False:=by
 have h1:x.re*x.re+2*(x.im*x.im)=3:=cM bB.re h;have h2:x.re*x.im+x.im*x.re=0:=cM bB.im h;have h3:x.re=0\/x.im=0:=by
  have:x.re*x.im=0:=by grind
  exact Rat.mul_eq_zero.1 this
 rcases h3 with h3|h3
 ·have:(2*x.im)*(2*x.im)=((6:Nat):Rat):=by rw[h3]at h1;have:((6:Nat):Rat)=6:=rfl;grind
  exact TZ 6 (.inr (.inr rfl)) _ this
 ·have:x.re*x.re=((3:Nat):Rat):=by rw[h3]at h1;have:((3:Nat):Rat)=3:=rfl;grind
  exact TZ 3 (.inr (.inl rfl)) _ this
instance aVC:xy K2 xz where
 pos:=by rw[il];decide +kernel
 TP x y h:=by
  by_cases hy:y=0
  ·exact hy
  ·refine(aKp (x*y⁻¹) ?_).elim;have h1:=OF.jB y hy;rw[show x*y⁻¹*(x*y⁻¹)=x*x*(y⁻¹*y⁻¹)from j7 x y⁻¹ (λx i=>x*i*(x*i)) (λx i=>x*x*(i*i)) d_,h];rw[show xz*(y*y)*(y⁻¹*y⁻¹)=xz*((y*y⁻¹)*(y*y⁻¹))from km y y⁻¹ xz (λy i t=>t*(y*y)*(i*i)) (λy i t=>t*((y*i)*(y*i))) d_,h1,CR.mul_one,CR.mul_one]
abbrev K:=bB K2 xz
instance:OF K:=inferInstance
instance:DecidableEq K2:=λx y=>decidable_of_iff (x.re=y.re/\x.im=y.im) ⟨λh=>bB.ext h.1 h.2,λh=>by subst h;exact⟨rfl,rfl⟩⟩
instance:DecidableEq K:=λx y=>decidable_of_iff (x.re=y.re/\x.im=y.im) ⟨λh=>bB.ext h.1 h.2,λh=>by subst h;exact⟨rfl,rfl⟩⟩
structure Fr where
 a:Int
 b:Int
 c:Int
 e:Int
 d:Int
theorem Fr.ext'{x y:Fr}(h1:x.a=y.a)(h2:x.b=y.b)(h3:x.c=y.c)(h4:x.e=y.e)(h5:x.d=y.d):x=y:=by cases x;cases y;simp at *;exact⟨h1,h2,h3,h4,h5⟩
def Fr.val(x:Fr):K:=⟨⟨Rat.divInt x.a x.d,Rat.divInt x.b x.d⟩,⟨Rat.divInt x.c x.d,Rat.divInt x.e x.d⟩⟩
def Fr.g(x:Fr):Nat:=Nat.gcd (Nat.gcd (Nat.gcd (Nat.gcd x.d.natAbs x.a.natAbs) x.b.natAbs) x.c.natAbs) x.e.natAbs
structure Fr.pF(x:Fr):Prop where
 pos:0<x.d
 one:x.g=1
theorem aKq{x:Fr}{k:Nat}(hd:k ∣ x.d.natAbs)(ha:k ∣ x.a.natAbs)(hb:k ∣ x.b.natAbs)(hc:k ∣ x.c.natAbs)(he:k ∣ x.e.natAbs):k ∣ x.g:=
 HY (HY (HY (HY hd ha) hb) hc) he
theorem Ft(x:Fr):x.g ∣ x.d.natAbs:=De (De (De (BF _ _) (BF _ _)) (BF _ _)) (BF _ _)
theorem Of(x:Fr):x.g ∣ x.a.natAbs:=De (De (De (BF _ _) (BF _ _)) (BF _ _)) (T0 _ _)
theorem Og(x:Fr):x.g ∣ x.b.natAbs:=De (De (BF _ _) (BF _ _)) (T0 _ _)
theorem Oh(x:Fr):x.g ∣ x.c.natAbs:=De (BF _ _) (T0 _ _)
theorem Oi(x:Fr):x.g ∣ x.e.natAbs:=T0 _ _
theorem aA0(x:Fr)(k:Nat):(Fr.mk (x.a*k) (x.b*k) (x.c*k) (x.e*k) (x.d*k)).g=x.g*k:=by unfold Fr.g;simp only[uQ,Df,Nat.gcd_mul_right]
theorem aA1{x y:Fr}(hx:x.pF)(hy:y.pF)(h:x.val=y.val):x.d.natAbs ∣ y.d.natAbs:=by
 have xA:x.d≠0:=by have:=hx.pos;omega
 have vM:y.d≠0:=by have:=hy.pos;omega
 have hr:=cM bB.re h;have hi:=cM bB.im h;have h1:Rat.divInt x.a x.d=Rat.divInt y.a y.d:=cM bB.re hr;have h2:Rat.divInt x.b x.d=Rat.divInt y.b y.d:=cM bB.im hr;have h3:Rat.divInt x.c x.d=Rat.divInt y.c y.d:=cM bB.re hi;have h4:Rat.divInt x.e x.d=Rat.divInt y.e y.d:=cM bB.im hi;rw[Rat.divInt_eq_divInt_iff xA vM]at h1 h2 h3 h4;have key:∀ u v:Int,u*y.d=v*x.d->x.d.natAbs ∣ (u*(y.d.natAbs:Int)).natAbs:=by
  intro u v e;have e2:(u*(y.d.natAbs:Int)).natAbs=(u*y.d).natAbs:=by simp[uQ]
  rw[e2,e,uQ];exact Nat.dvd_mul_left _ _
 have:=aKq (x:=Fr.mk (x.a*(y.d.natAbs:Int)) (x.b*(y.d.natAbs:Int)) (x.c*(y.d.natAbs:Int)) (x.e*(y.d.natAbs:Int)) (x.d*(y.d.natAbs:Int))) (k:=x.d.natAbs)
  (by rw[uQ];exact Nat.dvd_mul_right _ _) (key _ _ h1) (key _ _ h2) (key _ _ h3) (key _ _ h4)
 rw[aA0,hx.one,qf]at this;exact this
theorem aA2{x y:Fr}(hx:x.pF)(hy:y.pF)(h:x.val=y.val):x=y:=by
 have hxp:=hx.pos;have hyp:=hy.pos;have hd:x.d=y.d:=by have:=Nat.dvd_antisymm (aA1 hx hy h) (aA1 hy hx h.symm);omega
 have xA:x.d≠0:=by omega
 have vM:y.d≠0:=by omega
 have hr:=cM bB.re h;have hi:=cM bB.im h;have h1:Rat.divInt x.a x.d=Rat.divInt y.a y.d:=cM bB.re hr;have h2:Rat.divInt x.b x.d=Rat.divInt y.b y.d:=cM bB.im hr;have h3:Rat.divInt x.c x.d=Rat.divInt y.c y.d:=cM bB.re hi;have h4:Rat.divInt x.e x.d=Rat.divInt y.e y.d:=cM bB.im hi;rw[Rat.divInt_eq_divInt_iff xA vM,hd]at h1 h2 h3 h4;exact Fr.ext' (T1 vM h1) (T1 vM h2) (T1 vM h3) (T1 vM h4) hd
def Fr.s(x:Fr):Int:=if x.d<0 then -(x.g:Int)else x.g
def Fr.low(x:Fr):Fr:=⟨x.a/x.s,x.b/x.s,x.c/x.s,x.e/x.s,x.d/x.s⟩
theorem T2{x:Fr}(hd:x.d≠0):0<x.g:=Nat.pos_of_dvd_of_pos (Ft x) o_
theorem T3{x:Fr}(hd:x.d≠0):x.s≠0:=by have:=T2 hd;unfold Fr.s;split<;>omega
theorem Oj(x:Fr):x.s.natAbs=x.g:=by unfold Fr.s;split<;>simp
theorem Dg{x:Fr}{u:Int}(h:x.g ∣ u.natAbs):x.s ∣ u:=by rw[<-Int.natAbs_dvd_natAbs,Oj];exact h
theorem aA3{x:Fr}:x.a=x.low.a*x.s/\x.b=x.low.b*x.s/\x.c=x.low.c*x.s/\x.e=x.low.e*x.s/\x.d=x.low.d*x.s:=
 ⟨(Ol (Dg (Of x))).symm,(Ol (Dg (Og x))).symm,(Ol (Dg (Oh x))).symm,(Ol (Dg (Oi x))).symm,(Ol (Dg (Ft x))).symm⟩
theorem aA4{x:Fr}(hd:x.d≠0):x.low.val=x.val:=by obtain⟨h1,h2,h3,h4,h5⟩:=aA3 (x:=x);have hs:=T3 hd;have key:∀ u v:Int,Rat.divInt u x.low.d=Rat.divInt (u*x.s) (x.low.d*x.s):=λu _=>(Rat.divInt_mul_right hs).symm;unfold Fr.val;rw[key _ 0,key _ 0,key _ 0,key _ 0,<-h1,<-h2,<-h3,<-h4,<-h5]
theorem aA5{x:Fr}(hd:x.d≠0):x.low.pF:=by
 obtain⟨h1,h2,h3,h4,h5⟩:=aA3 (x:=x);have hg:=T2 hd;constructor
 ·have:x.d=x.low.d*x.s:=h5;rcases Int.lt_or_gt_of_ne hd with h|h
  ·have hs:x.s<0:=by unfold Fr.s;rw[ax h];omega
   rcases Oe x.low.d 0 with k|k|k
   ·have:=Int.mul_pos_of_neg_of_neg k hs;omega
   ·rw[k,Int.zero_mul]at this;omega
   ·exact k
  ·have hs:0<x.s:=by unfold Fr.s;rw[au o_];omega
   rcases Oe x.low.d 0 with k|k|k
   ·have:=Int.mul_neg_of_neg_of_pos k hs;omega
   ·rw[k,Int.zero_mul]at this;omega
   ·exact k
 ·have e:x.g=x.low.g*x.g:=by
   obtain⟨G,hG⟩:∃ G,G=x.g:=⟨_,rfl⟩;have ab:∀ u v:Int,u=v*x.s->u.natAbs=(v*(G:Int)).natAbs:=λu v h=>by rw[h,uQ,uQ,Oj,Df,hG]
   have h:=aA0 x.low G;have e2:x.g=(Fr.mk (x.low.a*G) (x.low.b*G) (x.low.c*G) (x.low.e*G) (x.low.d*G)).g:=by unfold Fr.g;dsimp only;rw[<-ab _ _ h1,<-ab _ _ h2,<-ab _ _ h3,<-ab _ _ h4,<-ab _ _ h5]
   have:=e2.trans h;rw[hG]at this;exact this
  have:=aKr hg (show 1*x.g=x.low.g*x.g by rw[qf];exact e);exact this.symm
theorem KG{x:Fr}{u:Int}(hd:x.d≠0):(u/x.s).natAbs<=u.natAbs:=aKs u x.s
def bK(k:K):Fr:=(Fr.mk (k.re.re.num*(k.re.im.den*(k.im.re.den*k.im.im.den):Nat)) (k.re.im.num*(k.re.re.den*(k.im.re.den*k.im.im.den):Nat))
 (k.im.re.num*(k.re.re.den*(k.re.im.den*k.im.im.den):Nat)) (k.im.im.num*(k.re.re.den*(k.re.im.den*k.im.re.den):Nat)) ((k.re.re.den*(k.re.im.den*(k.im.re.den*k.im.im.den)):Nat):Int)).low
theorem kE(k:K):(bK k).pF:=aA5 (by have h1:=k.re.re.den_pos;have h2:=k.re.im.den_pos;have h3:=k.im.re.den_pos;have h4:=k.im.im.den_pos;have:=qS h1 (qS h2 (qS h3 h4));show((k.re.re.den*(k.re.im.den*(k.im.re.den*k.im.im.den)):Nat):Int)≠0;omega)
theorem Om(q:Rat){m n:Nat}(hm:0<m)(e:n=q.den*m):Rat.divInt (q.num*(m:Nat)) ((n:Nat):Int)=q:=by have h:Rat.divInt (q.num*(m:Int)) ((q.den:Int)*(m:Int))=Rat.divInt q.num q.den:=Rat.divInt_mul_right o_;rw[e,om,h];exact aA6 q
theorem oZ(k:K):(bK k).val=k:=by have h1:=k.re.re.den_pos;have h2:=k.re.im.den_pos;have h3:=k.im.re.den_pos;have h4:=k.im.im.den_pos;have hp:=qS h1 (qS h2 (qS h3 h4));unfold bK;rw[aA4 (by show((k.re.re.den*(k.re.im.den*(k.im.re.den*k.im.im.den)):Nat):Int)≠0;omega)];unfold Fr.val;dsimp only;rw[Om k.re.re (qS h2 (qS h3 h4)) rfl,Om k.re.im (qS h1 (qS h3 h4)) (by simp only[mX]),Om k.im.re (qS h1 (qS h2 h4)) (by simp only[mX]),Om k.im.im (qS h1 (qS h2 h3)) (by simp only[cS,mX])]
theorem Fu{x:Fr}(h:x.pF):bK x.val=x:=aA2 (kE _) h (oZ _)
theorem Fv{x:Fr}(hd:x.d≠0):bK x.val=x.low:=aA2 (kE _) (aA5 hd) ((oZ _).trans (aA4 hd).symm)
theorem aKt{x y:K}(h:bK x=bK y):x=y:=by rw[<-oZ x,<-oZ y,h]
def uR(x y:Fr):Fr:=⟨x.a*y.d+y.a*x.d,x.b*y.d+y.b*x.d,x.c*y.d+y.c*x.d,x.e*y.d+y.e*x.d,x.d*y.d⟩
def fk(x y:Fr):Fr:=
 ⟨x.a*y.a+2*(x.b*y.b)+3*(x.c*y.c)+6*(x.e*y.e),x.a*y.b+x.b*y.a+3*(x.c*y.e)+3*(x.e*y.c),x.a*y.c+2*(x.b*y.e)+x.c*y.a+2*(x.e*y.b),x.a*y.e+x.b*y.c+x.c*y.b+x.e*y.a,x.d*y.d⟩
def zq(x:Fr):Fr:=⟨-x.a,-x.b,-x.c,-x.e,x.d⟩
theorem aKu{x y:Fr}(hx:x.d≠0)(hy:y.d≠0):(uR x y).val=x.val+y.val:=by
 apply bB.ext
 ·exact bB.ext (T4 _ _ hx hy).symm (T4 _ _ hx hy).symm
 ·exact bB.ext (T4 _ _ hx hy).symm (T4 _ _ hx hy).symm
theorem aKv(x:Fr):(zq x).val=-x.val:=by have h:∀ u:Int,Rat.divInt (-u) x.d=-Rat.divInt u x.d:=λu=>(Rat.neg_divInt u x.d).symm;exact bB.ext (bB.ext (h _) (h _)) (bB.ext (h _) (h _))
theorem Fw{p:Int}{x y:Fr}(hx:x.d≠0)(hy:y.d≠0){r:Rat}(h:r*((x.d:Rat)*(y.d:Rat))=(p:Rat)):Rat.divInt p (x.d*y.d)=r:=by
 have sn:(x.d:Rat)≠0:=by simpa using hx
 have On:(y.d:Rat)≠0:=by simpa using hy
 rw[BG,Dd,<-h,Fx,Rat.mul_assoc,HX _ (by
  intro e;rcases Rat.mul_eq_zero.1 e with e|e
  ·exact sn e
  ·exact On e),Rat.mul_one]
theorem o5{u d:Int}(hd:d≠0):Rat.divInt u d*(d:Rat)=(u:Rat):=by
 have Oo:(d:Rat)≠0:=by simpa using hd
 rw[BG,aAZ Oo]
theorem KH{x y:Fr}(hx:x.d≠0)(hy:y.d≠0):(fk x y).val=x.val*y.val:=by
 have a1:=o5 (u:=x.a) hx;have b1:=o5 (u:=x.b) hx;have c1:=o5 (u:=x.c) hx;have e1:=o5 (u:=x.e) hx;have a2:=o5 (u:=y.a) hy;have b2:=o5 (u:=y.b) hy;have c2:=o5 (u:=y.c) hy;have e2:=o5 (u:=y.e) hy;apply bB.ext
 ·apply bB.ext
  ·refine Fw hx hy ?_;show((Rat.divInt x.a x.d*Rat.divInt y.a y.d+2*(Rat.divInt x.b x.d*Rat.divInt y.b y.d))+(3*(Rat.divInt x.c x.d*Rat.divInt y.c y.d+2*(Rat.divInt x.e x.d*Rat.divInt y.e y.d))+2*(0*(Rat.divInt x.c x.d*Rat.divInt y.e y.d+Rat.divInt x.e x.d*Rat.divInt y.c y.d))))*((x.d:Rat)*(y.d:Rat))=_;unfold fk;simp only[Oq,Dd,<-a1,<-b1,<-c1,<-e1,<-a2,<-b2,<-c2,<-e2];have t2:((2:Int):Rat)=2:=rfl;have t3:((3:Int):Rat)=3:=rfl;have t6:((6:Int):Rat)=6:=rfl;rw[t2,t3,t6];grind
  ·refine Fw hx hy ?_;show((Rat.divInt x.a x.d*Rat.divInt y.b y.d+Rat.divInt x.b x.d*Rat.divInt y.a y.d)+(3*(Rat.divInt x.c x.d*Rat.divInt y.e y.d+Rat.divInt x.e x.d*Rat.divInt y.c y.d)+0*(Rat.divInt x.c x.d*Rat.divInt y.c y.d+2*(Rat.divInt x.e x.d*Rat.divInt y.e y.d))))*((x.d:Rat)*(y.d:Rat))=_;unfold fk;simp only[Oq,Dd,<-a1,<-b1,<-c1,<-e1,<-a2,<-b2,<-c2,<-e2];have t3:((3:Int):Rat)=3:=rfl;rw[t3];grind
 ·apply bB.ext
  ·refine Fw hx hy ?_;show((Rat.divInt x.a x.d*Rat.divInt y.c y.d+2*(Rat.divInt x.b x.d*Rat.divInt y.e y.d))+(Rat.divInt x.c x.d*Rat.divInt y.a y.d+2*(Rat.divInt x.e x.d*Rat.divInt y.b y.d)))*((x.d:Rat)*(y.d:Rat))=_;unfold fk;simp only[Oq,Dd,<-a1,<-b1,<-c1,<-e1,<-a2,<-b2,<-c2,<-e2];have t2:((2:Int):Rat)=2:=rfl;rw[t2];grind
  ·refine Fw hx hy ?_;show((Rat.divInt x.a x.d*Rat.divInt y.e y.d+Rat.divInt x.b x.d*Rat.divInt y.c y.d)+(Rat.divInt x.c x.d*Rat.divInt y.b y.d+Rat.divInt x.e x.d*Rat.divInt y.a y.d))*((x.d:Rat)*(y.d:Rat))=_;unfold fk;simp only[Oq,Dd,<-a1,<-b1,<-c1,<-e1,<-a2,<-b2,<-c2,<-e2]
   grind
theorem T5(x y:K):bK (x+y)=(uR (bK x) (bK y)).low:=by have hx:=(kE x).pos;have hy:=(kE y).pos;have:=Fv (x:=uR (bK x) (bK y)) (Dh o_ o_);rw[aKu o_ o_,oZ,oZ]at this;exact this
theorem T6(x y:K):bK (x*y)=(fk (bK x) (bK y)).low:=by have hx:=(kE x).pos;have hy:=(kE y).pos;have:=Fv (x:=fk (bK x) (bK y)) (Dh o_ o_);rw[KH o_ o_,oZ,oZ]at this;exact this
theorem aKw{x:Fr}(h:x.pF):(zq x).pF:=⟨h.pos,by have:=h.one;unfold Fr.g at this ⊢;simpa[zq]using this⟩
theorem T7(x:K):bK (-x)=zq (bK x):=by have:=Fu (aKw (kE x));rw[aKv,oZ]at this;exact this
def dJ(n:Nat)(x:Fr):Prop:=x.a.natAbs<2^n/\x.b.natAbs<2^n/\x.c.natAbs<2^n/\x.e.natAbs<2^n/\x.d.natAbs<2^n
def Sz(n:Nat)(x:K):Prop:=dJ n (bK x)
theorem dJ.mono{m n:Nat}(h:m<=n){x:Fr}(hx:dJ m x):dJ n x:=by have:=c9 (show 0<2 by decide) h;obtain⟨h1,h2,h3,h4,h5⟩:=hx;exact⟨by omega,by omega,by omega,by omega,by omega⟩
theorem Sz.mono{m n:Nat}(h:m<=n){x:K}(hx:Sz m x):Sz n x:=dJ.mono h hx
theorem dJ.low{n:Nat}{x:Fr}(h:dJ n x)(hd:x.d≠0):dJ n x.low:=by obtain⟨h1,h2,h3,h4,h5⟩:=h;exact⟨e8 (KG hd) h1,e8 (KG hd) h2,e8 (KG hd) h3,e8 (KG hd) h4,e8 (KG hd) h5⟩
theorem eE{m n:Nat}{u v:Int}(hu:u.natAbs<2^m)(hv:v.natAbs<2^n):(u*v).natAbs<2^(m+n):=by
 rw[uQ,eD];rcases oy v.natAbs with h|h
 ·rw[h,Nat.mul_zero];exact qS (cK d_) (cK d_)
 ·exact cC (Bn hu h) (jz _ (je hv))
theorem dJ.add{m n:Nat}{x y:Fr}(hx:dJ m x)(hy:dJ n y):dJ (m+n+1) (uR x y):=by
 obtain⟨x1,x2,x3,x4,x5⟩:=hx;obtain⟨y1,y2,y3,y4,y5⟩:=hy;have e:2^(m+n+1)=2^(m+n)*2:=dy ..;have e':2^(n+m)=2^(m+n):=by rw[mW]
 have key:∀{u v:Int},u.natAbs<2^m->v.natAbs<2^n->(u*y.d+v*x.d).natAbs<2^(m+n+1):=λ{u v} hu hv=>by have h1:=eE hu y5;have h2:=eE hv x5;rw[e']at h2;have:=aA7 (u*y.d) (v*x.d);omega
 refine⟨key x1 y1,key x2 y2,key x3 y3,key x4 y4,?_⟩;have:=eE x5 y5;show(x.d*y.d).natAbs<_;omega
theorem dJ.mul{m n:Nat}{x y:Fr}(hx:dJ m x)(hy:dJ n y):dJ (m+n+4) (fk x y):=by
 obtain⟨x1,x2,x3,x4,x5⟩:=hx;obtain⟨y1,y2,y3,y4,y5⟩:=hy;have e:2^(m+n+4)=2^(m+n)*16:=by rw[eD]
 have t:∀{u v:Int} (k:Nat),u.natAbs<2^m->v.natAbs<2^n->((k:Int)*(u*v)).natAbs<=k*2^(m+n):=λ{u v} k hu hv=>by have h1:=eE hu hv;rw[uQ,Df];exact jz _ (je h1)
 have four:∀ p q r s:Int,(p+q+r+s).natAbs<=p.natAbs+q.natAbs+r.natAbs+s.natAbs:=λp q r s=>by omega
 have hp:0<2^(m+n):=cK d_;refine⟨?_,?_,?_,?_,?_⟩
 ·have:=four (x.a*y.a) (2*(x.b*y.b)) (3*(x.c*y.c)) (6*(x.e*y.e));have h1:=eE x1 y1;have h2:=t 2 x2 y2;have h3:=t 3 x3 y3;have h4:=t 6 x4 y4;show(x.a*y.a+2*(x.b*y.b)+3*(x.c*y.c)+6*(x.e*y.e)).natAbs<_;omega
 ·have:=four (x.a*y.b) (x.b*y.a) (3*(x.c*y.e)) (3*(x.e*y.c));have h1:=eE x1 y2;have h2:=eE x2 y1;have h3:=t 3 x3 y4;have h4:=t 3 x4 y3;show(x.a*y.b+x.b*y.a+3*(x.c*y.e)+3*(x.e*y.c)).natAbs<_;omega
 ·have:=four (x.a*y.c) (2*(x.b*y.e)) (x.c*y.a) (2*(x.e*y.b));have h1:=eE x1 y3;have h2:=t 2 x2 y4;have h3:=eE x3 y1;have h4:=t 2 x4 y2;show(x.a*y.c+2*(x.b*y.e)+x.c*y.a+2*(x.e*y.b)).natAbs<_;omega
 ·have:=four (x.a*y.e) (x.b*y.c) (x.c*y.b) (x.e*y.a);have h1:=eE x1 y4;have h2:=eE x2 y3;have h3:=eE x3 y2;have h4:=eE x4 y1;show(x.a*y.e+x.b*y.c+x.c*y.b+x.e*y.a).natAbs<_;omega
 ·have:=eE x5 y5;show(x.d*y.d).natAbs<_;omega
theorem Sz.add{m n:Nat}{x y:K}(hx:Sz m x)(hy:Sz n y):Sz (m+n+1) (x+y):=by unfold Sz;rw[T5];exact(dJ.add hx hy).low (Dh (by have:=(kE x).pos;omega) (by have:=(kE y).pos;omega))
theorem Sz.mul{m n:Nat}{x y:K}(hx:Sz m x)(hy:Sz n y):Sz (m+n+4) (x*y):=by unfold Sz;rw[T6];exact(dJ.mul hx hy).low (Dh (by have:=(kE x).pos;omega) (by have:=(kE y).pos;omega))
theorem Sz.neg{n:Nat}{x:K}(hx:Sz n x):Sz n (-x):=by unfold Sz at *;rw[T7];obtain⟨h1,h2,h3,h4,h5⟩:=hx;exact⟨by simpa[zq]using h1,by simpa[zq]using h2,by simpa[zq]using h3,by simpa[zq]using h4,h5⟩
theorem Sz.sub{m n:Nat}{x y:K}(hx:Sz m x)(hy:Sz n y):Sz (m+n+1) (x-y):=by rw[CR.sub_def];exact hx.add hy.neg
def tH(a b s:Int):Int:=if a=b\/b=0 then a else if a=0 then b else a*s
namespace bB
variable{F:Type}[OF F]{s:F}[hs:xy F s]
theorem aA8(x:bB F s):sg x=tH (ay x.re) (ay x.im) (ay (nm x)):=by
 unfold tH;rcases ways x with h|⟨h,h2⟩|⟨h,h2⟩
 ·subst h;have e:ay (0:F)=0:=(fh (0:F)).2 rfl;rw[HU,HR,HT,e,ax (.inl rfl)]
 ·rw[sG h,h,Int.mul_one];by_cases h3:ay x.re=ay x.im\/ay x.im=0
  ·rw[ax h3]
  ·rw[au h3];by_cases h4:ay x.re=0
   ·exfalso;rw[(fh _).1 h4,CR.zero_mul]at h2;have h5:ay (s*(x.im*x.im))=1:=by
     have h6:ay x.im≠0:=λe=>h3 (.inr e);rw[mE,mE,aKh];rcases iW x.im with e|e|e
     ·rw[e];rfl
     ·exact absurd e h6
     ·rw[e];rfl
    have h7:(0:F)<s*(x.im*x.im):=il.2 h5;exact OF.lt_irrefl _ (OF.lt_trans h7 h2)
   ·rw[au h4]
 ·rw[tG h,h];by_cases h3:ay x.re=ay x.im\/ay x.im=0
  ·rw[ax h3];rcases h3 with h3|h3
   ·exact h3.symm
   ·exfalso;rw[(fh _).1 h3,CR.zero_mul,CR.mul_zero]at h2;have h5:ay (x.re*x.re)≠-1:=by rw[mE];rcases iW x.re with e|e|e<;>rw[e]<;>decide
    exact h5 (HL.1 h2)
  ·rw[au h3];by_cases h4:ay x.re=0
   ·rw[ax h4]
   ·rw[au h4];have h5:ay x.im≠0:=λe=>h3 (.inr e);have h6:ay x.re≠ay x.im:=λe=>h3 (.inl e);rcases iW x.re with e|e|e<;>rcases iW x.im with k|k|k<;>first|exact absurd e h4|exact absurd k h5|exact absurd (e.trans k.symm) h6|(rw[e,k];rfl)
end bB
theorem aA9(u:Int):ay (u:Rat)=u.sign:=by show(u:Rat).num.sign=u.sign;rw[Rat.num_intCast]
theorem T8{u d:Int}(hd:0<d):ay (Rat.divInt u d)=u.sign:=by have h1:=o5 (u:=u) (d:=d) o_;have h2:=cM ay h1;rw[mE,aA9,aA9,Bz hd,Int.mul_one]at h2;exact h2
def pG(a b:Int):Int:=tH a.sign b.sign (a*a-2*(b*b)).sign
theorem T9{a b d:Int}(hd:0<d):ay (⟨Rat.divInt a d,Rat.divInt b d⟩:K2)=pG a b:=by
 have h:=bB.aA8 (⟨Rat.divInt a d,Rat.divInt b d⟩:K2);have a1:=o5 (u:=a) (d:=d) o_;have b1:=o5 (u:=b) (d:=d) o_;have hn:bB.nm (⟨Rat.divInt a d,Rat.divInt b d⟩:K2)=Rat.divInt (a*a-2*(b*b)) (d*d):=by refine(Fw (x:=⟨0,0,0,0,d⟩) (y:=⟨0,0,0,0,d⟩) (by show d≠0;omega) (by show d≠0;omega) ?_).symm;show(Rat.divInt a d*Rat.divInt a d-2*(Rat.divInt b d*Rat.divInt b d))*((d:Rat)*(d:Rat))=_;simp only[aBa,Dd,<-a1,<-b1];have t2:((2:Int):Rat)=2:=rfl;rw[t2];grind
 rw[hn]at h;show bB.sg _=_;rw[h];show tH (ay (Rat.divInt a d)) (ay (Rat.divInt b d)) _=_;rw[T8 hd,T8 hd,T8 (Ua hd hd)];rfl
def Ot(a b c e:Int):Int:=tH (pG a b) (pG c e) (pG ((a*a+2*(b*b))-(3*(c*c)+6*(e*e))) (2*(a*b)-6*(c*e)))
theorem aKx{x:Fr}(hd:0<x.d):ay x.val=Ot x.a x.b x.c x.e:=by
 have h:=bB.aA8 x.val;have a1:=o5 (u:=x.a) (d:=x.d) o_;have b1:=o5 (u:=x.b) (d:=x.d) o_;have c1:=o5 (u:=x.c) (d:=x.d) o_;have e1:=o5 (u:=x.e) (d:=x.d) o_;have hn:bB.nm x.val=(⟨Rat.divInt ((x.a*x.a+2*(x.b*x.b))-(3*(x.c*x.c)+6*(x.e*x.e))) (x.d*x.d),Rat.divInt (2*(x.a*x.b)-6*(x.c*x.e)) (x.d*x.d)⟩:K2):=by
  apply bB.ext
  ·refine(Fw (x:=x) (y:=x) o_ o_ ?_).symm;show((Rat.divInt x.a x.d*Rat.divInt x.a x.d+2*(Rat.divInt x.b x.d*Rat.divInt x.b x.d))-(3*(Rat.divInt x.c x.d*Rat.divInt x.c x.d+2*(Rat.divInt x.e x.d*Rat.divInt x.e x.d))+2*(0*(Rat.divInt x.c x.d*Rat.divInt x.e x.d+Rat.divInt x.e x.d*Rat.divInt x.c x.d))))*((x.d:Rat)*(x.d:Rat))=_;simp only[aBa,Oq,Dd,<-a1,<-b1,<-c1,<-e1];have t2:((2:Int):Rat)=2:=rfl;have t3:((3:Int):Rat)=3:=rfl;have t6:((6:Int):Rat)=6:=rfl;rw[t2,t3,t6];grind
  ·refine(Fw (x:=x) (y:=x) o_ o_ ?_).symm;show((Rat.divInt x.a x.d*Rat.divInt x.b x.d+Rat.divInt x.b x.d*Rat.divInt x.a x.d)-(3*(Rat.divInt x.c x.d*Rat.divInt x.e x.d+Rat.divInt x.e x.d*Rat.divInt x.c x.d)+0*(Rat.divInt x.c x.d*Rat.divInt x.c x.d+2*(Rat.divInt x.e x.d*Rat.divInt x.e x.d))))*((x.d:Rat)*(x.d:Rat))=_;simp only[aBa,Dd,<-a1,<-b1,<-c1,<-e1];have t2:((2:Int):Rat)=2:=rfl;have t6:((6:Int):Rat)=6:=rfl;rw[t2,t6];grind
 rw[hn]at h;show bB.sg _=_;rw[h];have KI:=Ua hd hd;show tH (ay (⟨Rat.divInt x.a x.d,Rat.divInt x.b x.d⟩:K2)) (ay (⟨Rat.divInt x.c x.d,Rat.divInt x.e x.d⟩:K2)) _=_;rw[T9 hd,T9 hd,T9 KI];rfl
theorem aBb(k:K):ay k=Ot (bK k).a (bK k).b (bK k).c (bK k).e:=by have:=aKx (kE k).pos;rw[oZ]at this;exact this
end
structure RI where
 neg:Bool
 ba:List UInt8
structure RN where
 a:RI
 b:RI
 c:RI
 e:RI
 d:RI
structure RV where
 x:RN
 y:RN
 z:RN
structure RP where
 n:RV
 d:RN
def RI.cs(r:RI):aj:=[.bool r.neg,.string (BA r.ba)]
def RN.cs(r:RN):aj:=[.bool r.a.neg,.string (BA r.a.ba),.bool r.b.neg,.string (BA r.b.ba),.bool r.c.neg,.string (BA r.c.ba),.bool r.e.neg,.string (BA r.e.ba),.bool r.d.neg,.string (BA r.d.ba)]
def RV.cs(r:RV):aj:=r.x.cs++(r.y.cs++r.z.cs)
def RP.cs(r:RP):aj:=r.n.cs++r.d.cs
def RI.v(r:RI):Value:=.agg r.cs.toArray
def RN.v(r:RN):Value:=.agg r.cs.toArray
def RV.v(r:RV):Value:=.agg r.cs.toArray
def RP.v(r:RP):Value:=.agg r.cs.toArray
def RI.Sm(r:RI):Prop:=r.ba.length<=maxLen
def RN.Sm(r:RN):Prop:=r.a.Sm/\r.b.Sm/\r.c.Sm/\r.e.Sm/\r.d.Sm
def RV.Sm(r:RV):Prop:=r.x.Sm/\r.y.Sm/\r.z.Sm
def RP.Sm(r:RP):Prop:=r.n.Sm/\r.d.Sm
def RI.ls(r:RI):List Lit:=[.bool r.neg,.string r.ba]
def RN.ls(r:RN):List Lit:=r.a.ls++(r.b.ls++(r.c.ls++(r.e.ls++r.d.ls)))
def RV.ls(r:RV):List Lit:=r.x.ls++(r.y.ls++r.z.ls)
def RP.ls(r:RP):List Lit:=r.n.ls++r.d.ls
theorem RI.vN{r s:RI}:r.ls=s.ls↔r=s:=by cases r;cases s;simp[RI.ls]
theorem RN.vN{r s:RN}:r.ls=s.ls↔r=s:=by obtain⟨⟨_,_⟩,⟨_,_⟩,⟨_,_⟩,⟨_,_⟩,⟨_,_⟩⟩:=r;obtain⟨⟨_,_⟩,⟨_,_⟩,⟨_,_⟩,⟨_,_⟩,⟨_,_⟩⟩:=s;simp[RN.ls,RI.ls,and_assoc]
theorem RN.HZ(r:RN):r.ls.length=10:=rfl
theorem RV.vN{r s:RV}:r.ls=s.ls↔r=s:=by
 obtain⟨x,y,z⟩:=r;obtain⟨x',y',z'⟩:=s;unfold RV.ls;constructor
 ·intro h;obtain⟨h1,h2⟩:=List.append_inj h (by rw[RN.HZ,RN.HZ]);obtain⟨h2,h3⟩:=List.append_inj h2 (by rw[RN.HZ,RN.HZ]);have a1:x=x':=RN.vN.1 h1;have a2:y=y':=RN.vN.1 h2;have a3:z=z':=RN.vN.1 h3;rw[a1,a2,a3]
 ·intro h;rw[h]
theorem RP.vN{r s:RP}:r.ls=s.ls↔r=s:=by
 obtain⟨x,y⟩:=r;obtain⟨x',y'⟩:=s;unfold RP.ls;constructor
 ·intro h;obtain⟨h1,h2⟩:=List.append_inj' h (by rw[RN.HZ,RN.HZ]);have a1:x=x':=RV.vN.1 h1;have a2:y=y':=RN.vN.1 h2;rw[a1,a2]
 ·intro h;rw[h]
theorem RN.nU(r:RN):∀ u∈r.cs,flat u=true:=λu hu=>by simp[RN.cs]at hu;rcases hu with h|h|h|h|h|h|h|h|h|h<;>subst h<;>rfl
theorem RV.nU(r:RV):∀ u∈r.cs,flat u=true:=λu hu=>by
 simp only[RV.cs,dX]at hu;rcases hu with h|h|h
 ·exact r.x.nU u h
 ·exact r.y.nU u h
 ·exact r.z.nU u h
def Ou(P:Program)(t:TypeId):Array Field:=match P.underlying t with|some (.struct fs)=>fs|_=>#[]
theorem Fy(r:RI)(h:r.Sm)(d:Nat):prog.keyLits (d+2) 28 r.cs=some r.ls:=by
 obtain ⟨fs, h1, h2, h3⟩ : ∃ fs, prog.underlying 28 = some (.struct fs) ∧ fs.toList.map (fun g => (g.type, g.offset)) = [(4, 0), (9, 1)] ∧ fs.all (fun g => g.name != "_") = true := ⟨Ou prog 28, (by kernel_rfl), (by kernel_rfl), (by kernel_rfl)⟩;rw[N7 h1 h2 h3 k_];have e1:prog.keyLits (d+1) 4 ((r.cs.drop 0).take (prog.cellsOf 4))=some [.bool r.neg]:=by
  have e:(r.cs.drop 0).take (prog.cellsOf 4)=[.bool r.neg]:=k_;rw[e];exact aJ5 k_ _ d
 have e2:prog.keyLits (d+1) 9 ((r.cs.drop 1).take (prog.cellsOf 9))=some [.string r.ba]:=by have e:(r.cs.drop 1).take (prog.cellsOf 9)=[.string (BA r.ba)]:=k_;rw[e];exact aJ6 k_ _ (by rw[oT];exact h) d
 simp only[JR,Ub,e1,e2];simp[RI.ls]
theorem aKy(r:RN)(h:r.Sm)(d:Nat):prog.keyLits (d+3) 29 (r.a.cs++(r.b.cs++(r.c.cs++r.e.cs)))=some (r.a.ls++(r.b.ls++(r.c.ls++r.e.ls))):=by rw[aJ4 (n:=4) (e:=28) k_ k_];obtain⟨h0,h1,h2,h3,_⟩:=h;have c:prog.cellsOf 28=2:=k_;have e0:=Fy r.a h0 d;have e1:=Fy r.b h1 d;have e2:=Fy r.c h2 d;have e3:=Fy r.e h3 d;rw[c];simp[H0,RI.cs]at e0 e1 e2 e3 ⊢;simp[e0,e1,e2,e3]
theorem Ov(r:RN)(h:r.Sm)(d:Nat):prog.keyLits (d+4) 31 r.cs=some r.ls:=by
 obtain ⟨fs, h1, h2, h3⟩ : ∃ fs, prog.underlying 31 = some (.struct fs) ∧ fs.toList.map (fun g => (g.type, g.offset)) = [(29, 0), (28, 8)] ∧ fs.all (fun g => g.name != "_") = true := ⟨Ou prog 31, (by kernel_rfl), (by kernel_rfl), (by kernel_rfl)⟩;rw[N7 h1 h2 h3 k_];have e1:prog.keyLits (d+3) 29 ((r.cs.drop 0).take (prog.cellsOf 29))=some (r.a.ls++(r.b.ls++(r.c.ls++r.e.ls))):=by
  have e:(r.cs.drop 0).take (prog.cellsOf 29)=r.a.cs++(r.b.cs++(r.c.cs++r.e.cs)):=k_;rw[e];exact aKy r h d
 have e2:prog.keyLits (d+3) 28 ((r.cs.drop 8).take (prog.cellsOf 28))=some r.d.ls:=by have e:(r.cs.drop 8).take (prog.cellsOf 28)=r.d.cs:=k_;rw[e];exact Fy r.d h.2.2.2.2 (d+1)
 simp only[JR,Ub,e1,e2];simp[RN.ls]
theorem Uc(r:RV)(h:r.Sm)(d:Nat):prog.keyLits (d+5) 33 r.cs=some r.ls:=by
 obtain ⟨fs, h1, h2, h3⟩ : ∃ fs, prog.underlying 33 = some (.struct fs) ∧ fs.toList.map (fun g => (g.type, g.offset)) = [(31, 0), (31, 10), (31, 20)] ∧ fs.all (fun g => g.name != "_") = true := ⟨Ou prog 33, (by kernel_rfl), (by kernel_rfl), (by kernel_rfl)⟩;rw[N7 h1 h2 h3 k_];have e:∀(k:Nat) (s:RN),(r.cs.drop k).take (prog.cellsOf 31)=s.cs->s.Sm->prog.keyLits (d+4) 31 ((r.cs.drop k).take (prog.cellsOf 31))=some s.ls:=λk s e hs=>by rw[e];exact Ov s hs d
 simp only[JR,Ub,e 0 r.x k_ h.1,e 10 r.y k_ h.2.1,e 20 r.z k_ h.2.2];simp[RV.ls]
theorem aBc(r:RP)(h:r.Sm)(d:Nat):prog.keyLits (d+6) 35 r.cs=some r.ls:=by
 obtain ⟨fs, h1, h2, h3⟩ : ∃ fs, prog.underlying 35 = some (.struct fs) ∧ fs.toList.map (fun g => (g.type, g.offset)) = [(33, 0), (31, 30)] ∧ fs.all (fun g => g.name != "_") = true := ⟨Ou prog 35, (by kernel_rfl), (by kernel_rfl), (by kernel_rfl)⟩;rw[N7 h1 h2 h3 k_];have e1:prog.keyLits (d+5) 33 ((r.cs.drop 0).take (prog.cellsOf 33))=some r.n.ls:=by
  have e:(r.cs.drop 0).take (prog.cellsOf 33)=r.n.cs:=k_;rw[e];exact Uc r.n h.1 d
 have e2:prog.keyLits (d+5) 31 ((r.cs.drop 30).take (prog.cellsOf 31))=some r.d.ls:=by have e:(r.cs.drop 30).take (prog.cellsOf 31)=r.d.cs:=k_;rw[e];exact Ov r.d h.2 (d+1)
 simp only[JR,Ub,e1,e2];simp[RP.ls]
section
variable{Bs:aa}{N:Nat}
theorem Di{o:Oper}{neg:Bool}(ho:Fp o=some (neg,28))(r s:RI)(hr:r.Sm)(hs:s.Sm){b:Bool}(hb:(if neg then b else !b)=true↔r=s):cD prog Bs o [r.v,s.v] [] (.bool b) []:=
 N6 (m:=2) ho o_ k_ k_ k_ k_ (Fy r hr 0) (Fy s hs 0) rfl rfl (by rw[hb];exact RI.vN.symm)
theorem aBd{o:Oper}{neg:Bool}(ho:Fp o=some (neg,31))(r s:RN)(hr:r.Sm)(hs:s.Sm){b:Bool}(hb:(if neg then b else !b)=true↔r=s):cD prog Bs o [r.v,s.v] [] (.bool b) []:=
 N6 (m:=4) ho o_ k_ k_ k_ k_ (Ov r hr 0) (Ov s hs 0) rfl rfl (by rw[hb];exact RN.vN.symm)
theorem Dj{o:Oper}{neg:Bool}(ho:Fp o=some (neg,33))(r s:RV)(hr:r.Sm)(hs:s.Sm){b:Bool}(hb:(if neg then b else !b)=true↔r=s):cD prog Bs o [r.v,s.v] [] (.bool b) []:=
 N6 (m:=5) ho o_ k_ k_ k_ k_ (Uc r hr 0) (Uc s hs 0) rfl rfl (by rw[hb];exact RV.vN.symm)
theorem Ud{o:Oper}{neg:Bool}(ho:Fp o=some (neg,35))(r s:RP)(hr:r.Sm)(hs:s.Sm){b:Bool}(hb:(if neg then b else !b)=true↔r=s):cD prog Bs o [r.v,s.v] [] (.bool b) []:=
 N6 (m:=6) ho o_ k_ k_ k_ k_ (aBc r hr 0) (aBc s hs 0) rfl rfl (by rw[hb];exact RP.vN.symm)
end
def bJ(z:Int):RI:=⟨decide (z<0),cq z.natAbs⟩
theorem aBe(z:Int):bN z=(bJ z).v:=rfl
theorem zr{x y:Int}(h:bJ x=bJ y):x=y:=by have h1:decide (x<0)=decide (y<0):=cM RI.neg h;have h2:x.natAbs=y.natAbs:=aI5 (cM RI.ba h);rw[oQ]at h1;omega
def sH(f:Fr):RN:=⟨bJ f.a,bJ f.b,bJ f.c,bJ f.e,bJ f.d⟩
def iE(f:Fr):Value:=(sH f).v
theorem aKz{f g:Fr}(h:sH f=sH g):f=g:=Fr.ext' (zr (cM RN.a h)) (zr (cM RN.b h)) (zr (cM RN.c h)) (zr (cM RN.e h)) (zr (cM RN.d h))
def dW(x:K):RN:=sH (bK x)
def cg(x:K):Value:=(dW x).v
theorem KJ{x y:K}(h:dW x=dW y):x=y:=aKt (aKz h)
abbrev aA:Nat:=1099511627774
theorem vO{z:Int}{n:Nat}(h:z.natAbs<2^n)(hn:n<=aA):(bJ z).Sm:=by show(cq z.natAbs).length<=maxLen;rw[tE];have:=vK h;unfold aA at hn;simp[maxLen];omega
theorem aKA{f:Fr}{n:Nat}(h:dJ n f)(hn:n<=aA):(sH f).Sm:=⟨vO h.1 hn,vO h.2.1 hn,vO h.2.2.1 hn,vO h.2.2.2.1 hn,vO h.2.2.2.2 hn⟩
theorem Dk{x:K}{n:Nat}(h:Sz n x)(hn:n<=aA):(dW x).Sm:=aKA h hn
def ic(c:Nat->Int):aj:=[.bool (bJ (c 0)).neg,.string (BA (bJ (c 0)).ba),.bool (bJ (c 1)).neg,.string (BA (bJ (c 1)).ba),.bool (bJ (c 2)).neg,.string (BA (bJ (c 2)).ba),.bool (bJ (c 3)).neg,.string (BA (bJ (c 3)).ba)]
def pH(c:Nat->Int):Value:=.agg (ic c).toArray
def co(f:Fr):Nat->Int
 |0=>f.a
 |1=>f.b
 |2=>f.c
 |_=>f.e
def o6(c:Nat->Int)(d:Int):Fr:=⟨c 0,c 1,c 2,c 3,d⟩
theorem Dl{g:Nat}{x:Int}{p q:Nat}(h1:g<2^p)(h2:x.natAbs<2^q)(hp:p<=1099511627776)(hq:q<=1099511627776):aE prog 147 [bN g,bN x] (bN (Nat.gcd g x.natAbs:Nat)):=by have:=Ks (x:=(g:Int)) (y:=x) (by rw[Df];exact h1) h2 hp hq;rw[Df]at this;exact this
theorem aKB{g m p:Nat}(h:g<2^p):Nat.gcd g m<2^p\/g=0:=by
 by_cases hg:g=0
 ·exact .inr hg
 ·exact .inl (e8 (aBf m (tA hg)) h)
theorem zt{g m p:Nat}(h:g<2^p)(h2:m<2^p):Nat.gcd g m<2^p:=by
 rcases aKB (m:=m) h with h3|h3
 ·exact h3
 ·rw[h3,Ue];exact h2
theorem aBg{c:Nat->Int}{d:Int}{n:Nat}(h:dJ n (o6 c d))(hn:n<=aA):aE prog 109 [pH c,bN d] (bN ((o6 c d).g:Nat)):=by
 obtain⟨h0,h1,h2,h3,h4⟩:=h;have mw:n<=1099511627776:=by unfold aA at hn;omega
 have g1:=Ks h4 h0 mw mw;have s1:=zt h4 h0;have g2:=Dl s1 h1 mw mw;have s2:=zt s1 h1;have g3:=Dl s2 h2 mw mw;have s3:=zt s2 h2;have g4:=Dl s3 h3 mw mw;exact aM func109 (λ_=>[g1.at 15,g2.at 15,g3.at 15,g4.at 15])
theorem Uf{x y:Int}{n:Nat}(hy:y≠0)(h1:x.natAbs<2^n)(h2:y.natAbs<2^n)(hn:n<=aA):aE prog 211 [bN x,bN y] (bN (x.fdiv y)):=
 aM func211 (λ_=>[(TG hy h1 h2 hn hn).at 11])
theorem Dm{c:Nat->Int}{d:Int}{n:Nat}(hd:d≠0)(h:dJ n (o6 c d))(hn:n<=aA):aE prog 184 [pH c,bN d] (iE (o6 c d).low):=by
 have hc:=aBg h hn;have mw:n<=1099511627776:=by unfold aA at hn;omega
 obtain⟨f,hf⟩:∃ f,f=o6 c d:=⟨_,rfl⟩;have vo:f.d≠0:=by rw[hf];exact hd
 have qm:=T3 vo;have Ug:=Oj f;have hg:f.g<2^n:=by
  have h5:f.d.natAbs<2^n:=by rw[hf];exact h.2.2.2.2
  exact e8 (Nat.le_of_dvd o_ (Ft f)) h5
 have bw:f.s.natAbs<2^n:=by rw[Ug];exact hg
 have ov:∀ u:Int,f.g ∣ u.natAbs->u.natAbs<2^n->aE prog 211 [bN u,bN f.s] (bN (u/f.s)):=λu hu uT=>by have:=Uf qm uT bw hn;rw[Int.fdiv_eq_ediv_of_dvd (Dg hu)]at this;exact this
 have o0:=ov f.a (Of f) (by rw[hf];exact h.1);have o1:=ov f.b (Og f) (by rw[hf];exact h.2.1);have o2:=ov f.c (Oh f) (by rw[hf];exact h.2.2.1);have o3:=ov f.e (Oi f) (by rw[hf];exact h.2.2.2.1);have o4:=ov f.d (Ft f) (by rw[hf];exact h.2.2.2.2);have BH:=kV (z:=1) d_;have ay:=sD d;rw[<-hf]at hc ⊢;have e0:f.a=c 0:=by rw[hf];rfl
 have e1:f.b=c 1:=by rw[hf];rfl
 have e2:f.c=c 2:=by rw[hf];rfl
 have e3:f.e=c 3:=by rw[hf];rfl
 have e4:f.d=d:=by rw[hf];rfl
 have one:(bJ 1).Sm:=vO (n:=1) d_ d_;have sm:(bJ f.s).Sm:=vO bw hn;by_cases Fz:d<0
 ·have hs:f.s=-(f.g:Int):=by unfold Fr.s;rw[e4,ax Fz]
  have aV:bJ f.s≠bJ 1:=λe=>by have:=zr e;omega
  have ng:=oB (f.g:Int);rw[<-hs]at ng;rw[e0]at o0;rw[e1]at o1;rw[e2]at o2;rw[e3]at o3;rw[e4]at o4;have dr:f.low=⟨c 0/f.s,c 1/f.s,c 2/f.s,c 3/f.s,d/f.s⟩:=by unfold Fr.low;rw[e0,e1,e2,e3,e4]
  rw[dr];have BI:decide (d.sign<0)=true:=aB (by rw[Fl Fz];decide);generalize f.s=s at *;exact aM func184 (λ_=>[hc.at 9,ay.at 11,.rw 12 (.bool (decide (d.sign<0))) (.bool true) (by rw[BI]),ng.at 14,BH.at 16,.step 17 (av f184 17) _ _ _ _ (Di (neg:=true) k_ (bJ s) (bJ 1) sm one (b:=false) (by simp;exact aV)),o0.at 29,o1.at 29,o2.at 29,o3.at 29,o4.at 35])
 ·have hs:f.s=(f.g:Int):=by unfold Fr.s;rw[e4,au Fz]
  have BI:decide (d.sign<0)=false:=aJ (by rw[Bz o_];decide);by_cases tJ:f.g=1
  ·have dr:f.low=f:=by unfold Fr.low;rw[hs,tJ];simp
   rw[dr,hf];rw[tJ]at hc;exact aM func184 (λ_=>[hc.at 9,ay.at 11,.rw 12 (.bool (decide (d.sign<0))) (.bool false) (by rw[BI]),BH.at 16,.step 17 (av f184 17) _ _ _ _ (Di (neg:=true) k_ (bJ 1) (bJ 1) one one (b:=true) s_)])
  ·have aV:bJ f.s≠bJ 1:=λe=>by have:=zr e;omega
   rw[e0]at o0;rw[e1]at o1;rw[e2]at o2;rw[e3]at o3;rw[e4]at o4;have dr:f.low=⟨c 0/f.s,c 1/f.s,c 2/f.s,c 3/f.s,d/f.s⟩:=by unfold Fr.low;rw[e0,e1,e2,e3,e4]
   rw[dr];rw[<-hs]at hc;generalize f.s=s at *;exact aM func184 (λ_=>[hc.at 9,ay.at 11,.rw 12 (.bool (decide (d.sign<0))) (.bool false) (by rw[BI]),BH.at 16,.step 17 (av f184 17) _ _ _ _ (Di (neg:=true) k_ (bJ s) (bJ 1) sm one (b:=false) (by simp;exact aV)),o0.at 29,o1.at 29,o2.at 29,o3.at 29,o4.at 35])
theorem Uh{f:Fr}{n:Nat}(hf:f.pF)(h:dJ n f)(hn:n<=aA):aE prog 69 [iE f] (.bool true):=by have hc:=aBg (c:=co f) (d:=f.d) h hn;have e:o6 (co f) f.d=f:=rfl;rw[e,hf.one]at hc;have hp:=hf.pos;have hs:decide (f.d.sign>0)=true:=aB (by rw[Bz hp];decide);have one:(bJ 1).Sm:=vO (n:=1) d_ d_;exact aM func69 (λ_=>[(oY f.a).at 11,(oY f.b).at 11,(oY f.c).at 11,(oY f.e).at 11,(oY f.d).at 16,(sD f.d).at 20,.rw 21 (.bool (decide (f.d.sign>0))) (.bool true) (by rw[hs]),hc.at 28,(kV (z:=1) d_).at 29,.step 30 (av f69 30) _ _ _ _ (Di (neg:=true) k_ (bJ 1) (bJ 1) one one (b:=true) s_)])
theorem kX{x:K}{n:Nat}(h:Sz n x)(hn:n<=aA):aE prog 69 [cg x] (.bool true):=Uh (kE x) h hn
theorem Ui(z:Int):bK (⟨⟨z,0⟩,⟨0,0⟩⟩:K)=⟨z,0,0,0,1⟩:=by
 have hl:Fr.pF ⟨z,0,0,0,1⟩:=⟨Int.zero_lt_one,by simp[Fr.g]⟩;have hv:Fr.val ⟨z,0,0,0,1⟩=⟨⟨z,0⟩,⟨0,0⟩⟩:=by
  unfold Fr.val;dsimp only;have e:∀ u:Int,Rat.divInt u 1=(u:Rat):=λu=>by rw[BG,Fx];grind
  rw[e,e];rfl
 rw[<-hv];exact Fu hl
def kI(z:Int):K:=⟨⟨z,0⟩,⟨0,0⟩⟩
theorem aBh(z:Int):cg (kI z)=iE ⟨z,0,0,0,1⟩:=by unfold cg dW kI;rw[Ui];rfl
theorem qV{z:Int}{n:Nat}(h:z.natAbs<2^n)(hn:0<n):Sz n (kI z):=by unfold Sz kI;rw[Ui];have:2^1<=2^n:=c9 d_ hn;exact⟨h,by simp;omega,by simp;omega,by simp;omega,by simp;omega⟩
theorem Dn:bJ 0=⟨false,[]⟩:=by unfold bJ;simp[CZ]
theorem sI{z:Int}(h:z.natAbs<9223372036854775808):aE prog 146 [.int .i64 z] (cg (kI z)):=by
 rw[aBh];have e:iE ⟨z,0,0,0,1⟩=(RN.mk (bJ z) ⟨false,[]⟩ ⟨false,[]⟩ ⟨false,[]⟩ (bJ 1)).v:=by unfold iE sH;rw[Dn]
 rw[e];exact aM func146 (λ_=>[(kV h).at 4,(kV (z:=1) d_).at 6])
theorem aKC{c:Nat->Int}{d:Int}{n:Nat}(hd:d≠0)(h:dJ n (o6 c d))(hn:n<=aA):aE prog 162 [pH c,bN d] (.tuple #[iE (o6 c d).low,.int .i64 0]):=by
 have hl:=Dm hd h hn;have hs:(d.sign==0)=false:=by simp;exact hd
 exact aM func162 (λ_=>[(oY (c 0)).at 13,(oY (c 1)).at 13,(oY (c 2)).at 13,(oY (c 3)).at 13,(oY d).at 19,(sD d).at 24,.rw 25 (.bool (d.sign==0)) (.bool false) (by rw[hs]),hl.at 29])
theorem aKD{p q:Int}{n:Nat}(hq:q≠0)(h1:p.natAbs<2^n)(h2:q.natAbs<2^n)(hn:n<=63):aE prog 120 [.int .i64 p,.int .i64 q] (.tuple #[iE (Fr.mk p 0 0 0 q).low,.int .i64 0]):=by
 have h63:2^n<=9223372036854775808:=dh (c9 d_ hn) d_;have hp:0<2^n:=cK d_;have hm:=aKC (c:=λi=>match i with|0=>p|_=>0) (d:=q) (n:=n) hq ⟨h1,hp,hp,hp,h2⟩ (by unfold aA;omega);have e:pH (λi=>match i with|0=>p|_=>0)=.agg #[.bool (bJ p).neg,.string (BA (bJ p).ba),.bool false,.string ⟨#[]⟩,.bool false,.string ⟨#[]⟩,.bool false,.string ⟨#[]⟩]:=by show Value.agg #[.bool (bJ p).neg,.string (BA (bJ p).ba),.bool (bJ 0).neg,.string (BA (bJ 0).ba),.bool (bJ 0).neg,.string (BA (bJ 0).ba),.bool (bJ 0).neg,.string (BA (bJ 0).ba)]=_;rw[Dn];rfl
 rw[e]at hm;exact aM func120 (λ_=>[(kV (z:=p) o_).at 7,(kV (z:=q) o_).at 10,hm.at 11])
theorem zu{x:K}{n:Nat}(h:Sz n x)(hn:n<=aA):aE prog 199 [cg x] (cg (-x)):=by
 have hv:=kX h hn;have e:cg (-x)=iE (zq (bK x)):=by unfold cg dW;rw[T7];rfl
 rw[e];exact aM func199 (λ_=>[hv.at 5,(oB (bK x).a).at 16,(oB (bK x).b).at 16,(oB (bK x).c).at 16,(oB (bK x).e).at 16])
theorem uU{x y:K}{m n:Nat}(hx:Sz m x)(hy:Sz n y)(cW:m+n<aA):aE prog 160 [cg x,cg y] (cg (x+y)):=by
 have v1:=kX hx o_;have v2:=kX hy o_;have pI:aA<=1099511627776:=by decide
 have xA:=(kE x).pos;have vM:=(kE y).pos;have hl:=Dm (c:=co (uR (bK x) (bK y))) (d:=(uR (bK x) (bK y)).d) (n:=m+n+1) (Dh o_ o_) (dJ.add hx hy) o_;have e:cg (x+y)=iE (uR (bK x) (bK y)).low:=by unfold cg dW;rw[T5];rfl
 rw[e];obtain⟨x1,x2,x3,x4,x5⟩:=hx;obtain⟨y1,y2,y3,y4,y5⟩:=hy;have mu:∀{u v:Int} {p q:Nat},u.natAbs<2^p->v.natAbs<2^q->p+q<=aA->aE prog 195 [bN u,bN v] (bN (u*v)):=λh1 h2 h3=>ni h1 h2 o_ o_;have ad:∀{u v:Int},u.natAbs<2^m->v.natAbs<2^n->aE prog 180 [bN (u*(bK y).d),bN (v*(bK x).d)] (bN (u*(bK y).d+v*(bK x).d)):=λh1 h2=>
  zk (eE h1 y5) (eE h2 x5) o_ o_
 exact aM func160 (λ_=>[v1.at 8,v2.at 12,(mu x1 y5 o_).at 26,(mu y1 x5 o_).at 33,(ad x1 y1).at 34,(mu x2 y5 o_).at 26,(mu y2 x5 o_).at 33,(ad x2 y2).at 34,(mu x3 y5 o_).at 26,(mu y3 x5 o_).at 33,(ad x3 y3).at 34,(mu x4 y5 o_).at 26,(mu y4 x5 o_).at 33,(ad x4 y4).at 34,(mu x5 y5 o_).at 42,hl.at 43])
theorem BJ{x y:K}{m n:Nat}(hx:Sz m x)(hy:Sz n y)(cW:m+n<aA):aE prog 168 [cg x,cg y] (cg (x-y)):=by rw[CR.sub_def];exact aM func168 (λ_=>[(zu hy o_).at 7,(uU hx hy.neg cW).at 8])
section
open CR OF
def nk(x:K):K:=⟨x.re,-x.im⟩
def lV(x:K):K:=⟨⟨x.re.re,-x.re.im⟩,⟨x.im.re,-x.im.im⟩⟩
def xB(f:Fr):Fr:=⟨f.a,f.b,-f.c,-f.e,f.d⟩
def xC(f:Fr):Fr:=⟨f.a,-f.b,f.c,-f.e,f.d⟩
theorem Ow(u d:Int):Rat.divInt (-u) d=-Rat.divInt u d:=(Rat.neg_divInt u d).symm
theorem aBi(f:Fr):(xB f).val=nk f.val:=bB.ext rfl (bB.ext (Ow _ _) (Ow _ _))
theorem Uj(f:Fr):(xC f).val=lV f.val:=bB.ext (bB.ext rfl (Ow _ _)) (bB.ext rfl (Ow _ _))
theorem aKE{f:Fr}(h:f.pF):(xB f).pF:=⟨h.pos,by have:=h.one;unfold Fr.g at this ⊢;simpa[xB]using this⟩
theorem aKF{f:Fr}(h:f.pF):(xC f).pF:=⟨h.pos,by have:=h.one;unfold Fr.g at this ⊢;simpa[xC]using this⟩
theorem aBj(x:K):bK (nk x)=xB (bK x):=by have:=Fu (aKE (kE x));rw[aBi,oZ]at this;exact this
theorem aBk(x:K):bK (lV x)=xC (bK x):=by have:=Fu (aKF (kE x));rw[Uj,oZ]at this;exact this
theorem Sz.nk{n:Nat}{x:K}(h:Sz n x):Sz n (nk x):=by unfold Sz at *;rw[aBj];obtain⟨h1,h2,h3,h4,h5⟩:=h;exact⟨h1,h2,by simpa[xB]using h3,by simpa[xB]using h4,h5⟩
theorem Sz.lV{n:Nat}{x:K}(h:Sz n x):Sz n (lV x):=by unfold Sz at *;rw[aBk];obtain⟨h1,h2,h3,h4,h5⟩:=h;exact⟨h1,by simpa[xC]using h2,h3,by simpa[xC]using h4,h5⟩
def two(y:K):K:=y*nk y
def qW(y:K):K:=two y*lV (two y)
theorem aKG(y:K):two y=⟨bB.nm y,0⟩:=by
 unfold two nk;apply bB.ext
 ·show y.re*y.re+xz*(y.im*-y.im)=y.re*y.re-xz*(y.im*y.im);exact km y.re y.im xz (λa b s=>a*a+s*(b*-b)) (λa b s=>a*a-s*(b*b)) d_
 ·show y.re*-y.im+y.im*y.re=0;exact j7 y.re y.im (λa b=>a*-b+b*a) (λ_ _=>0) d_
theorem Ox(y:K):qW y=⟨⟨bB.nm (bB.nm y),0⟩,⟨0,0⟩⟩:=by
 unfold qW;rw[aKG];obtain⟨p,q⟩:=bB.nm y;have e:lV (⟨⟨p,q⟩,0⟩:K)=⟨⟨p,-q⟩,0⟩:=by unfold lV;show(⟨⟨p,-q⟩,⟨0,-0⟩⟩:K)=_;rw[CR.neg_zero];rfl
 rw[e];apply bB.ext
 ·show(⟨p,q⟩:K2)*⟨p,-q⟩+xz*(0*0)=_;rw[CR.zero_mul,CR.mul_zero,CR.add_zero];apply bB.ext
  ·show p*p+2*(q*-q)=p*p-2*(q*q)
   grind
  ·show p*-q+q*p=0
   grind
 ·show(⟨p,q⟩:K2)*0+0*⟨p,-q⟩=0;rw[CR.mul_zero,CR.zero_mul,CR.add_zero]
theorem Uk{y:K}(h:y≠0):bB.nm (bB.nm y)≠0:=λe=>h (bB.Od (bB.Od e))
theorem aBl(q:Rat):bK (⟨⟨q,0⟩,⟨0,0⟩⟩:K)=⟨q.num,0,0,0,q.den⟩:=by
 have hl:Fr.pF ⟨q.num,0,0,0,q.den⟩:=⟨by show(0:Int)<(q.den:Int);have:=q.den_pos;omega,by have:=q.reduced;unfold Nat.Coprime at this;simp[Fr.g];rw[HC];exact this⟩
 have hv:Fr.val ⟨q.num,0,0,0,q.den⟩=⟨⟨q,0⟩,⟨0,0⟩⟩:=by
  unfold Fr.val;have e:∀ d:Int,Rat.divInt 0 d=0:=λd=>by simp
  dsimp only;rw[e,aA6]
 rw[<-hv];exact Fu hl
def oD(y:K):Fr:=⟨(bK (qW y)).d,0,0,0,(bK (qW y)).a⟩
theorem Oy{y:K}(h:y≠0):(oD y).d≠0:=by unfold oD;dsimp only;rw[Ox,aBl];exact λe=>Uk h (Rat.num_eq_zero.1 e)
theorem aKH{y:K}(h:y≠0):qW y*(oD y).val=1:=by
 have hq:=Uk h;have e1:(oD y).val=⟨⟨(bB.nm (bB.nm y))⁻¹,0⟩,⟨0,0⟩⟩:=by
  unfold oD Fr.val;rw[Ox,aBl];have e:∀ d:Int,Rat.divInt 0 d=0:=λd=>by simp
  dsimp only;rw[e,BG];generalize bB.nm (bB.nm y)=q at *;have h2:((q.den:Int):Rat)/(q.num:Rat)=q⁻¹:=by
   have h3:(q.num:Rat)≠0:=by simpa using hq
   have h4:((q.den:Int):Rat)*q=q.num:=by
    have h5:(q.num:Rat)/((q.den:Int):Rat)=q:=by rw[<-BG];exact aA6 q
    have h6:((q.den:Int):Rat)≠0:=by have:=q.den_nz;simpa using this
    have h7:=aAZ (a:=(q.num:Rat)) h6;rw[h5,Rat.mul_comm]at h7;exact h7
   have h8:=HX q hq;have h9:=HX (q.num:Rat) h3;rw[Fx]
   grind
  rw[h2]
 rw[e1,Ox];generalize bB.nm (bB.nm y)=q at *;have h8:=HX q hq;apply bB.ext
 ·apply bB.ext
  ·show(q*q⁻¹+2*(0*0))+(3*(0*0+2*(0*0))+2*(0*(0*0+0*0)))=1
   grind
  ·show(q*0+0*q⁻¹)+(3*(0*0+0*0)+0*(0*0+2*(0*0)))=0
   grind
 ·apply bB.ext
  ·show(q*0+2*(0*0))+(0*q⁻¹+2*(0*0))=0
   grind
  ·show(q*0+0*0)+(0*0+0*q⁻¹)=0
   grind
theorem aBm{x y:K}(h:y≠0):(x*nk y)*(lV (two y)*(oD y).val)=x*y⁻¹:=by
 have h1:=aKH h;have h2:=OF.jB y h;have e1:y*(nk y*(lV (two y)*(oD y).val))=1:=by rw[<-h1];unfold qW two;exact BD y (nk y) (lV (y*nk y)) (oD y).val (λy c b i=>y*(c*(b*i))) (λy c b i=>y*c*b*i) d_
 have e2:nk y*(lV (two y)*(oD y).val)=y⁻¹:=by have h3:=cM (λt=>y⁻¹*t) e1;rw[CR.mul_one,<-CR.mul_assoc,CR.mul_comm y⁻¹ y,h2,CR.one_mul]at h3;exact h3
 rw[<-e2,CR.mul_assoc]
theorem Sz.inv{n:Nat}{y:K}(h:y≠0)(hy:Sz n y):Sz (4*n+12) (oD y).val:=by have h1:Sz (n+n+4) (two y):=hy.mul hy.nk;have h2:Sz (n+n+4+(n+n+4)+4) (qW y):=h1.mul h1.lV;have h3:Sz (4*n+12) (qW y):=h2.mono o_;unfold Sz;rw[Fv (Oy h)];obtain⟨a1,a2,a3,a4,a5⟩:=h3;have hp:0<2^(4*n+12):=cK d_;exact dJ.low ⟨a5,hp,hp,hp,a1⟩ (Oy h)
theorem Sz.div{m n:Nat}{x y:K}(h:y≠0)(hx:Sz m x)(hy:Sz n y):Sz (m+7*n+28) (x*y⁻¹):=by rw[<-aBm h];have h1:Sz (n+n+4) (two y):=hy.mul hy.nk;exact((hx.mul hy.nk).mul (h1.lV.mul (Sz.inv h hy))).mono o_
end
def sq(n:Nat):Int:=match n with|0=>1|1=>2|2=>3|_=>6
def xD(n:Nat)(a b c:Nat->Int):Nat->Int:=λk=>if Nat.beq k ((n/4) ^^^ (n%4))then c k+sq ((n/4)&&& (n%4))*(a (n/4)*b (n%4))else c k
def jQ(a b:Nat->Int):Nat->Nat->Int
 |0=>λ_=>0
 |n+1=>xD n a b (jQ a b n)
def m7(n:Nat):Nat:=4+9*(n/4)
def nx(n:Nat):Nat:=m7 n+1+2*(n%4)
def ptr(k:Nat):Value:=.pointer (some ⟨k,0,some 7⟩)
section
variable{Bs:aa}{a b:Nat->Int}
def Ul(n:Nat)(b:Nat->Int):aR:=[(18,pH b),(19,vI (n%4)),(6,vI (n/4)),(7,ptr (m7 n)),(5,ptr 3)]
def H2(n:Nat)(a c:Nat->Int):aH:=[(3,.aI (ic c) 29),(m7 n,.aI (bJ (a (n/4))).cs 28)]
theorem Oz{n:Nat}{c:Nat->Int}(h:a (n/4)=0\/b (n%4)=0):xD n a b c=c:=by
 funext k
 unfold xD;split
 ·rcases h with h|h<;>rw[h]<;>simp
 ·rfl
theorem KK{z:Int}:((BA (cq z.natAbs)).toList==(ByteArray.mk #[]).toList)=decide (z=0):=by rw[qT,oQ];omega
theorem aKI(n:Nat)(hn:n<16){c:Nat->Int}{p q r:Nat}(ha:∀ i,(a i).natAbs<2^p)(hb:∀ i,(b i).natAbs<2^q)(hc:∀ i,(c i).natAbs<2^r)(OA:p+q+3<=aA)(hr:r<=aA):
  ag prog Bs 62 (.block 3 (af f183 3)) (Ul n b) (H2 n a c) (nx n) ⟨.normal,[],H2 n a (xD n a b c),nx n+2⟩:=by
 have pI:aA<=1099511627776:=by decide
 have qX:∀ m,(sq m).natAbs<2^3:=λm=>by unfold sq;split<;>decide
 have m1:=ni (ha (n/4)) (hb (n%4)) o_ o_;have m2:=ni (qX ((n/4)&&& (n%4))) (eE (ha (n/4)) (hb (n%4))) o_ o_;have ad:=zk (hc ((n/4) ^^^ (n%4))) (eE (qX ((n/4)&&& (n%4))) (eE (ha (n/4)) (hb (n%4)))) o_ o_;have so:=kV (z:=sq ((n/4)&&& (n%4))) (mC (qX _) d_);by_cases h1:a (n/4)=0
 ·rw[Oz (.inl h1)];have e:((BA (cq (a (n/4)).natAbs)).toList==(ByteArray.mk #[]).toList)=true:=by rw[KK];exact aB h1
  rcases n with _|_|_|_|_|_|_|_|_|_|_|_|_|_|_|_|n
  all_goals first|omega|exact aC [.rw 25 _ (.bool true) (cM Value.bool e)]
 ·by_cases h2:b (n%4)=0
  ·rw[Oz (.inr h2)];have e:((BA (cq (a (n/4)).natAbs)).toList==(ByteArray.mk #[]).toList)=false:=by rw[KK];exact aJ h1
   have e':((BA (cq (b (n%4)).natAbs)).toList==(ByteArray.mk #[]).toList)=true:=by rw[KK];exact aB h2
   rcases n with _|_|_|_|_|_|_|_|_|_|_|_|_|_|_|_|n
   all_goals first|omega|exact aC [.rw 25 _ (.bool false) (cM Value.bool e),.rw 29 _ (.bool true) (cM Value.bool e')]
  ·have e:((BA (cq (a (n/4)).natAbs)).toList==(ByteArray.mk #[]).toList)=false:=by rw[KK];exact aJ h1
   have e':((BA (cq (b (n%4)).natAbs)).toList==(ByteArray.mk #[]).toList)=false:=by rw[KK];exact aJ h2
   rcases n with _|_|_|_|_|_|_|_|_|_|_|_|_|_|_|_|n
   all_goals first|omega|exact aC [.rw 25 _ (.bool false) (cM Value.bool e),.rw 29 _ (.bool false) (cM Value.bool e'),so.at 37,m1.at 49,m2.at 50,ad.at 51]
theorem Um{p q:Nat}(ha:∀ i,(a i).natAbs<2^p)(hb:∀ i,(b i).natAbs<2^q):∀ n,n<=16->∀ k,(jQ a b n k).natAbs<=n*2^(p+q+3)
 |0,_,k=>by show(0:Int).natAbs<=_;simp
 |n+1,hn,k=>by
  have ih:=Um ha hb n o_ k;show(xD n a b (jQ a b n) k).natAbs<=_;unfold xD;rw[fE,qf];split
  ·have qX:∀ m,(sq m).natAbs<2^3:=λm=>by unfold sq;split<;>decide
   have h1:=eE (qX ((n/4)&&& (n%4))) (eE (ha (n/4)) (hb (n%4)));rw[show 3+(p+q)=p+q+3 by omega]at h1;have:=aA7 (jQ a b n k) (sq ((n/4)&&& (n%4))*(a (n/4)*b (n%4)));exact dh this (KL ih (je h1))
  ·exact dh ih (J8 _ _)
end
theorem KM(f g:Fr):o6 (jQ (co f) (co g) 16) (f.d*g.d)=fk f g:=by
 apply Fr.ext'
 ·show jQ (co f) (co g) 16 0=_;simp[jQ,xD,sq,co,fk]
 ·show jQ (co f) (co g) 16 1=_;simp[jQ,xD,sq,co,fk]
 ·show jQ (co f) (co g) 16 2=_;simp[jQ,xD,sq,co,fk]
 ·show jQ (co f) (co g) 16 3=_;simp[jQ,xD,sq,co,fk]
 ·rfl
theorem H3{f:Fr}{n:Nat}(h:dJ n f):∀ i,(co f i).natAbs<2^n
 |0=>h.1
 |1=>h.2.1
 |2=>h.2.2.1
 |_+3=>h.2.2.2.1
theorem aBn:ic (λ_=>0)=[.bool false,.string ⟨#[]⟩,.bool false,.string ⟨#[]⟩,.bool false,.string ⟨#[]⟩,.bool false,.string ⟨#[]⟩]:=by unfold ic;rw[Dn];rfl
theorem aKJ{f g:Fr}{m n:Nat}(hf:dJ m f)(hg:dJ n g)(vo:f.d≠0)(ox:g.d≠0)(cW:m+n+8<=aA):aE prog 183 [iE f,iE g] (iE (fk f g).low):=by
 have pI:aA<=1099511627776:=by decide
 have ca:=H3 hf;have cb:=H3 hg;have hl:=Dm (c:=jQ (co f) (co g) 16) (d:=f.d*g.d) (n:=m+n+4) (Dh vo ox) (by rw[KM];exact hf.mul hg) o_;rw[KM]at hl;have md:=ni hf.2.2.2.2 hg.2.2.2.2 o_ o_;have hs:∀ i,i<=16->∀ k,(jQ (co f) (co g) i k).natAbs<2^(m+n+8):=λi hi k=>by
  have h1:=Um ca cb i hi k;have h2:i*2^(m+n+3)<=16*2^(m+n+3):=fo _ hi;have h3:2^(m+n+8)=32*2^(m+n+3):=by rw[show m+n+8=5+(m+n+3)by omega,eD]
  have h4:0<2^(m+n+3):=cK d_;omega
 have go:∀(w:World) (i:Nat),i<16->ag prog (aa.at w) 62 (.block 3 (af f183 3)) (Ul i (co g)) (H2 i (co f) (jQ (co f) (co g) i)) (nx i) ⟨.normal,[],H2 i (co f) (jQ (co f) (co g) (i+1)),nx i+2⟩:=λw i hi=>
  aKI i hi ca cb (hs i o_) o_ o_
 have Un:∀(w:World),ag prog (aa.at w) 62 (.block 3 (af f183 3)) (Ul 0 (co g)) [(3,.aI [.bool false,.string ⟨#[]⟩,.bool false,.string ⟨#[]⟩,.bool false,.string ⟨#[]⟩,.bool false,.string ⟨#[]⟩] 29),(m7 0,.aI (bJ (co f 0)).cs 28)] (nx 0)
   ⟨.normal,[],H2 0 (co f) (jQ (co f) (co g) 1),nx 0+2⟩:=λw=>by
  have h:=go w 0 o_;have e:H2 0 (co f) (jQ (co f) (co g) 0)=[(3,.aI [.bool false,.string ⟨#[]⟩,.bool false,.string ⟨#[]⟩,.bool false,.string ⟨#[]⟩,.bool false,.string ⟨#[]⟩] 29),(m7 0,.aI (bJ (co f 0)).cs 28)]:=by show[(3,Obj.aI (ic (λ_=>0)) 29),(m7 0,.aI (bJ (co f 0)).cs 28)]=_;rw[aBn]
  rw[e]at h;exact h
 generalize jQ (co f) (co g)=c at *;exact gR mixed func183 200 (λw=>[.code 3 _ _ _ _ _ (Un w),.code 3 _ _ _ _ _ (go w 1 o_),.code 3 _ _ _ _ _ (go w 2 o_),.code 3 _ _ _ _ _ (go w 3 o_),.code 3 _ _ _ _ _ (go w 4 o_),.code 3 _ _ _ _ _ (go w 5 o_),.code 3 _ _ _ _ _ (go w 6 o_),.code 3 _ _ _ _ _ (go w 7 o_),.code 3 _ _ _ _ _ (go w 8 o_),.code 3 _ _ _ _ _ (go w 9 o_),.code 3 _ _ _ _ _ (go w 10 o_),.code 3 _ _ _ _ _ (go w 11 o_),.code 3 _ _ _ _ _ (go w 12 o_),.code 3 _ _ _ _ _ (go w 13 o_),.code 3 _ _ _ _ _ (go w 14 o_),.code 3 _ _ _ _ _ (go w 15 o_),md.at 60,hl.at 61]) (λ_=>k_) k_ k_
theorem H4{x y:K}{m n:Nat}(hx:Sz m x)(hy:Sz n y)(cW:m+n+8<=aA):aE prog 183 [cg x,cg y] (cg (x*y)):=by
 have e:cg (x*y)=iE (fk (bK x) (bK y)).low:=by unfold cg dW;rw[T6];rfl
 rw[e];exact aKJ hx hy (by have:=(kE x).pos;omega) (by have:=(kE y).pos;omega) cW
theorem o7{x y:K}{m n:Nat}(hx:Sz m x)(hy:Sz n y)(cW:m+n+8<=aA):aE prog 163 [cg x,cg y] (cg (x*y)):=
 aM func163 (λ_=>[(kX hx o_).at 6,(kX hy o_).at 10,(H4 hx hy cW).at 16])
theorem aKK{x:K}:aE prog 182 [cg x,vI 2] (cg (nk x)):=by
 have e:cg (nk x)=iE (xB (bK x)):=by unfold cg dW;rw[aBj];rfl
 rw[e];exact aM func182 (λ_=>[(oB (bK x).c).at 18,(oB (bK x).e).at 18])
theorem aKL{x:K}:aE prog 182 [cg x,vI 1] (cg (lV x)):=by
 have e:cg (lV x)=iE (xC (bK x)):=by unfold cg dW;rw[aBk];rfl
 rw[e];exact aM func182 (λ_=>[(oB (bK x).b).at 18,(oB (bK x).e).at 18])
theorem aKM:kI 0=0:=rfl
theorem H5{x y:K}{m n:Nat}(h:y≠0)(hx:Sz m x)(hy:Sz n y)(cW:m+7*n+40<=aA):aE prog 154 [cg x,cg y] (.tuple #[cg (x*y⁻¹),.int .i64 0]):=by
 have h1:Sz (n+n+4) (two y):=hy.mul hy.nk;have h2:Sz (n+n+4+(n+n+4)+4) (qW y):=h1.mul h1.lV;have h3:=Sz.inv h hy;have d1:=H4 hy hy.nk o_;have d2:=H4 h1 h1.lV o_;have d3:=H4 hx hy.nk o_;have d4:=H4 h1.lV h3 o_;have d5:=H4 (hx.mul hy.nk) (h1.lV.mul h3) o_;rw[aBm h]at d5;have hi:=Dm (c:=co (oD y)) (d:=(oD y).d) (n:=n+n+4+(n+n+4)+4) (Oy h) (by obtain⟨a1,a2,a3,a4,a5⟩:=h2;have hp:0<2^(n+n+4+(n+n+4)+4):=cK d_;exact⟨a5,hp,hp,hp,a1⟩) o_
 have e:o6 (co (oD y)) (oD y).d=oD y:=rfl;have e2:iE (oD y).low=cg (oD y).val:=by unfold cg dW;rw[Fv (Oy h)];rfl
 rw[e,e2]at hi;have e3:pH (co (oD y))=.agg #[.bool (bJ (bK (qW y)).d).neg,.string (BA (bJ (bK (qW y)).d).ba),.bool false,.string ⟨#[]⟩,.bool false,.string ⟨#[]⟩,.bool false,.string ⟨#[]⟩]:=by show Value.agg #[.bool (bJ (bK (qW y)).d).neg,.string (BA (bJ (bK (qW y)).d).ba),.bool (bJ 0).neg,.string (BA (bJ 0).ba),.bool (bJ 0).neg,.string (BA (bJ 0).ba),.bool (bJ 0).neg,.string (BA (bJ 0).ba)]=_;rw[Dn];rfl
 rw[e3]at hi;have e4:(oD y).d=(bK (qW y)).a:=rfl;rw[e4]at hi;have z:=sI (z:=0) d_;have zs:Sz 1 (kI 0):=qV d_ o_;have ne:dW y≠dW (kI 0):=λe=>h (by rw[KJ e];rfl);generalize (oD y).val=v at *;exact aM func154 (λ_=>[(kX hx o_).at 13,(kX hy o_).at 17,z.at 23,.step 24 (av f154 24) _ _ _ _ (aBd (neg:=true) k_ (dW y) (dW (kI 0)) (Dk hy o_) (Dk zs d_) (b:=false) (by simp;exact ne)),(aKK (x:=y)).at 27,d1.at 30,(aKL (x:=two y)).at 32,d2.at 35,hi.at 42,d3.at 45,d4.at 48,d5.at 49])
theorem aKN{x:K}{m:Nat}(hx:Sz m x)(hm:m<=aA):aE prog 154 [cg x,cg 0] (.tuple #[.agg #[.bool false,.string ⟨#[]⟩,.bool false,.string ⟨#[]⟩,.bool false,.string ⟨#[]⟩,.bool false,.string ⟨#[]⟩,.bool false,.string ⟨#[]⟩],.int .i64 10]):=by have zs:Sz 1 (kI 0):=qV d_ o_;exact aM func154 (λ_=>[(kX hx hm).at 13,(kX (x:=0) zs d_).at 17,(sI (z:=0) d_).at 23,.step 24 (av f154 24) _ _ _ _ (aBd (neg:=true) k_ (dW 0) (dW (kI 0)) (Dk zs d_) (Dk zs d_) (b:=true) (by simp;rfl))])
theorem Uo{a b s:Int}(ha:a.natAbs<=1)(hs:s.natAbs<=1):aE prog 178 [.int .i64 a,.int .i64 b,.int .i64 s] (.int .i64 (tH a b s)):=by
 have hw:IntKind.i64.wrap (a*s)=a*s:=by
  have h1:a=-1\/a=0\/a=1:=by omega
  rcases h1 with h1|h1|h1<;>rw[h1,db]<;>omega
 unfold tH;by_cases h1:a=b
 ·rw[ax (.inl h1)];exact aM func178 (λ_=>[.rw 10 (.bool (a==b)) (.bool true) (by rw[h1];simp)])
 ·by_cases h2:b=0
  ·rw[ax (.inr h2)];exact aM func178 (λ_=>[.rw 10 (.bool (a==b)) (.bool false) (by congr 1;simpa using h1),.rw 13 (.bool (b==0)) (.bool true) (by rw[h2];rfl)])
  ·rw[au (λh=>h.elim h1 h2)];by_cases h3:a=0
   ·rw[ax h3];exact aM func178 (λ_=>[.rw 10 (.bool (a==b)) (.bool false) (by congr 1;simpa using h1),.rw 13 (.bool (b==0)) (.bool false) (by congr 1;simpa using h2),.rw 18 (.bool (a==0)) (.bool true) (by rw[h3];rfl)])
   ·rw[au h3];exact aM func178 (λ_=>[.rw 10 (.bool (a==b)) (.bool false) (by congr 1;simpa using h1),.rw 13 (.bool (b==0)) (.bool false) (by congr 1;simpa using h2),.rw 18 (.bool (a==0)) (.bool false) (by congr 1;simpa using h3),.wr 22 .i64 (a*s) (a*s) hw])
theorem FA{k:Int}{x y:Int}{p q:Nat}(hk:k.natAbs<2^3)(h1:x.natAbs<2^p)(h2:y.natAbs<2^q)(OA:p+q+3<=aA):aE prog 181 [.int .i64 k,bN x,bN y] (bN (k*(x*y))):=by
 have pI:aA<=1099511627776:=by decide
 exact aM func181 (λ_=>[(kV (z:=k) (mC hk d_)).at 8,(ni h1 h2 o_ o_).at 11,(ni hk (eE h1 h2) o_ o_).at 12])
theorem H6{k x y:Int}{p q:Nat}(hk:k.natAbs<2^3)(h1:x.natAbs<2^p)(h2:y.natAbs<2^q):(k*(x*y)).natAbs<2^(p+q+3):=by have:=eE hk (eE h1 h2);rwa[show 3+(p+q)=p+q+3 by omega]at this
theorem H7{x y:Int}{p:Nat}(h1:x.natAbs<2^p)(h2:y.natAbs<2^p):(x+y).natAbs<2^(p+1):=by have:=aA7 x y;rw[dy];omega
theorem OB{x y:Int}{p:Nat}(h1:x.natAbs<2^p)(h2:y.natAbs<2^p):(x-y).natAbs<2^(p+1):=by have:=Int.natAbs_sub_le x y;rw[dy];omega
theorem FB(z:Int):z.sign.natAbs<=1:=by
 rcases Oe z 0 with h|h|h
 ·rw[Fl h];decide
 ·rw[h];decide
 ·rw[Bz h];decide
theorem Up{x y:Int}{p q:Nat}(h1:x.natAbs<2^p)(h2:y.natAbs<2^q)(hp:p+p+3<=aA)(hq:q+q+3<=aA):aE prog 177 [bN x,bN y] (.int .i64 (pG x y)):=by
 have pI:aA<=1099511627776:=by decide
 exact aM func177 (λ_=>[(sD x).at 6,(sD y).at 8,(ni h1 h1 o_ o_).at 11,(FA (k:=2) d_ h2 h2 o_).at 14,(Ty (eE h1 h1) (H6 (k:=2) d_ h2 h2) o_ o_).at 15,(Uo (b:=y.sign) (s:=(x*x-2*(y*y)).sign) (FB x) (FB _)).at 16])
theorem OC(x y:Int):(pG x y).natAbs<=1:=by
 unfold pG tH;have h1:=FB x;have h2:=FB y;have h3:=FB (x*x-2*(y*y));split
 ·exact h1
 ·split
  ·exact h2
  ·rw[uQ];exact dh (y8 h1 h3) d_
theorem nV{x:K}{n:Nat}(hx:Sz n x)(hn:4*n+20<=aA):aE prog 152 [cg x] (.int .i64 (OF.ay x)):=by
 have pI:aA<=1099511627776:=by decide
 have hv:=kX hx o_;rw[aBb];obtain⟨x1,x2,x3,x4,x5⟩:=hx;unfold cg dW at *;generalize bK x=f at *;have s1:=Up x1 x2 o_ o_;have s2:=Up x3 x4 o_ o_;have t1:=FA (k:=1) d_ x1 x1 o_;rw[N5]at t1;have t2:=FA (k:=2) d_ x2 x2 o_;have t3:=FA (k:=3) d_ x3 x3 o_;have t6:=FA (k:=6) d_ x4 x4 o_;have z1:(f.a*f.a).natAbs<2^(n+n+3):=cC (eE x1 x1) (c9 d_ o_);have z2:=H6 (k:=2) d_ x2 x2;have z3:=H6 (k:=3) d_ x3 x3;have z6:=H6 (k:=6) d_ x4 x4;have a1:=zk z1 z2 o_ o_;have a2:=zk z3 z6 o_ o_;have b1:=Fo (H7 z1 z2) (H7 z3 z6) o_ o_;have u2:=FA (k:=2) d_ x1 x2 o_;have u6:=FA (k:=6) d_ x3 x4 o_;have y2:=H6 (k:=2) d_ x1 x2;have y6:=H6 (k:=6) d_ x3 x4;have b2:=Fo y2 y6 o_ o_;have s3:=Up (OB (H7 z1 z2) (H7 z3 z6)) (OB y2 y6) o_ o_;have xE:=OC f.a f.b;have Uq:=OC ((f.a*f.a+2*(f.b*f.b))-(3*(f.c*f.c)+6*(f.e*f.e))) (2*(f.a*f.b)-6*(f.c*f.e));have mx:=Uo (b:=pG f.c f.e) xE Uq;have m0:=Uo (a:=pG f.a f.b) (b:=pG f.c f.e) (s:=0) xE d_;unfold Ot;generalize pG f.a f.b=p at *;generalize pG f.c f.e=q at *;by_cases h:p=q\/q=0\/p=0
 ·have e:tH p q (pG ((f.a*f.a+2*(f.b*f.b))-(3*(f.c*f.c)+6*(f.e*f.e))) (2*(f.a*f.b)-6*(f.c*f.e)))=tH p q 0:=by
   unfold tH;by_cases h1:p=q\/q=0
   ·rw[ax h1,ax h1]
   ·rw[au h1,au h1];have h2:p=0:=by
     rcases h with h|h|h
     ·exact absurd (.inl h) h1
     ·exact absurd (.inr h) h1
     ·exact h
    rw[ax h2,ax h2]
  rw[e];by_cases h1:p=q
  ·exact aM func152 (λ_=>[hv.at 12,s1.at 28,s2.at 31,.rw 34 (.bool (p==q)) (.bool true) (by rw[h1];simp),m0.at 45])
  ·by_cases h2:q=0
   ·exact aM func152 (λ_=>[hv.at 12,s1.at 28,s2.at 31,.rw 34 (.bool (p==q)) (.bool false) (by congr 1;simpa using h1),.rw 37 (.bool (q==0)) (.bool true) (by rw[h2];rfl),m0.at 45])
   ·have h3:p=0:=by
     rcases h with h|h|h
     ·exact absurd h h1
     ·exact absurd h h2
     ·exact h
    exact aM func152 (λ_=>[hv.at 12,s1.at 28,s2.at 31,.rw 34 (.bool (p==q)) (.bool false) (by congr 1;simpa using h1),.rw 37 (.bool (q==0)) (.bool false) (by congr 1;simpa using h2),.rw 41 (.bool (p==0)) (.bool true) (by rw[h3];rfl),m0.at 45])
 ·have h1:p≠q:=λe=>h (.inl e);have h2:q≠0:=λe=>h (.inr (.inl e));have h3:p≠0:=λe=>h (.inr (.inr e));exact aM func152 (λ_=>[hv.at 12,s1.at 28,s2.at 31,.rw 34 (.bool (p==q)) (.bool false) (by congr 1;simpa using h1),.rw 37 (.bool (q==0)) (.bool false) (by congr 1;simpa using h2),.rw 41 (.bool (p==0)) (.bool false) (by congr 1;simpa using h3),t1.at 48,t2.at 51,a1.at 52,t3.at 55,t6.at 58,a2.at 59,b1.at 60,u2.at 63,u6.at 66,b2.at 67,s3.at 72,mx.at 73])
theorem mF{x y:K}{m n:Nat}(hx:Sz m x)(hy:Sz n y)(cW:4*(m+n)+24<=aA):aE prog 126 [cg x,cg y] (.int .i64 (OF.ay (x-y))):=
 aM func126 (λ_=>[(BJ hx hy o_).at 7,(nV (hx.sub hy) o_).at 8])
def iX(x:K):K:=if OF.ay x<0 then -x else x
theorem Ur{x:K}{n:Nat}(hx:Sz n x)(hn:4*n+20<=aA):aE prog 198 [cg x] (cg (iX x)):=by
 unfold iX;have n1:=zu hx o_;have n2:=zu hx.neg o_;rw[CR.neg_neg]at n2;by_cases h:OF.ay x<0
 ·rw[ax h];exact aM func198 (λ_=>[(nV hx hn).at 4,.rw 5 (.bool (decide (OF.ay x<0))) (.bool true) (by rw[aB h]),n1.at 7])
 ·rw[au h];exact aM func198 (λ_=>[(nV hx hn).at 4,.rw 5 (.bool (decide (OF.ay x<0))) (.bool false) (by rw[aJ h]),n1.at 9,n2.at 10])
theorem aBo{ι:Map}{w:World}{b o cap:Nat}{x:Obj}(h:jG ι w (.at b o cap) x)(hx:x.owns=true):∃ cs ty,w.heap[b]?=some (.cells cs ty (0,0)):=by
 cases x with
 |aI cells ty=>
  obtain⟨b',bA,e,_,h2⟩:=h;injection e with e _ _;subst e;exact⟨_,_,h2⟩
 |row cells ty size=>
  rcases h with ⟨h,_⟩|⟨b',aQ,cur,e,h2,_⟩
  ·cases h
  ·injection e with e _ _;subst e;exact⟨_,_,h2⟩
 |_=>cases hx
def Else(w:World)(l:Nat):Prop:=∀ cs ty f,w.heap[l]?≠some (.cells cs ty f)
theorem OD{w:World}{l:Nat}{r:Loop}(h:w.heap[l]?=some (.loop r)):Else w l:=λcs ty f e=>by rw[h]at e;cases e
theorem aKO{w:World}{l:Nat}{r:Option (List Deferred)}(h:w.heap[l]?=some (.deferred r)):Else w l:=λcs ty f e=>by rw[h]at e;cases e
theorem OE{ι:Map}{w w':World}{loc:po}{x:Obj}{l:Nat}(hl:Else w l)(h:jG ι w loc x)(hx:∀ F,x=.fact F->F.rc=false)(hz:w.heap.size<=w'.heap.size)
  (hs:∀ b o cap,x.owns=true\/x.gw=true->loc=.at b o cap->b=l\/w'.heap[b]?=w.heap[b]?) (hf:∀ F v b,x=.fact F->loc=.val v->F.cR v w b->b=l\/w'.heap[b]?=w.heap[b]?):jG ι w' loc x:=by
 cases x with
 |aI cells ty=>
  obtain⟨b,bA,e,h1,h2⟩:=h;rcases hs b 0 0 (.inl rfl) e with rfl|hb
  ·exact absurd h2 (hl _ _ _)
  ·exact⟨b,bA,e,h1,by rw[hb];exact h2⟩
 |row cells ty size=>
  rcases h with h|⟨b,cap,cur,e,h1,h2⟩
  ·exact .inl h
  ·rcases hs b 0 cap (.inl rfl) e with rfl|hb
   ·exact absurd h1 (hl _ _ _)
   ·exact .inr ⟨b,cap,cur,e,by rw[hb];exact h1,h2⟩
 |view cells=>
  rcases h with h|⟨b,o,cap,bA,e,h1,h2⟩
  ·exact .inl h
  ·rcases hs b o cap (.inr rfl) e with rfl|hb
   ·have:bA=[]:=by
     cases bA with
     |nil=>rfl
     |cons u t=>
      have:=h2 0 u rfl;unfold World.cell? at this;dsimp only at this;split at this
      ·rename_i h3;exact absurd h3 (hl _ _ _)
      ·cases this
    subst this;exact .inr ⟨b,o,cap,[],e,h1,λj u hj=>by cases hj⟩
   ·exact .inr ⟨b,o,cap,bA,e,h1,λj u hj=>by rw[World.cell?_of_block (w:=w) (w':=w') (a:=⟨b,o+j,none⟩) hb];exact h2 j u hj⟩
 |fact F=>
  obtain⟨v,e,h1⟩:=h;refine⟨v,e,(F.soft (hx F rfl) v w w' h1 hz λk hk cs ty f hc=>?_).1⟩;rcases hf F v k rfl e hk with rfl|hb
  ·exact absurd hc (hl _ _ _)
  ·rw[hb];exact hc
 |dead=>trivial
theorem OG{B1 B2:aa}{ι κ:Map}{c c2:Nat->Option Obj}{w1 w2:World}{L:aH}(h:aO B1 ι c w1)(hL:cV c L)(rX:∀ k x,ah L k=some x->κ k=ι k)
  (aKP:∀ k x l,ah L k=some x->ι k=some l->jG ι w1 l x->jG κ w2 l x) (aKQ:B2.G w2) (Jv:∀ k x b o cap,ah L k=some x->x.owns=true->ι k=some (.at b o cap)->¬B2.cR b)
  (yC:w1.heap.size<=w2.heap.size) (S2:∀ k,c2 k=none->κ k=none) (dp:∀ k x,c2 k=some x->ah L k=some x\/(x=.dead/\∃ l,κ k=some l)) (hfa:∀ k F,ah L k=some (.fact F)->F.rc=true->B2.Fa F) (hff:∀ k F v b,ah L k=some (.fact F)->ι k=some (.val v)->F.cR v w2 b->F.cR v w1 b)
  (hle:Map.le B2.mp κ):aO B2 κ c2 w2:=by
 have src:∀{k x},c2 k=some x->x≠.dead->c k=some x/\κ k=ι k/\ah L k=some x:=λ{k x} hk hx=>by
  rcases dp k x hk with h1|⟨h1,_⟩
  ·exact⟨hL k x h1,rX k x h1,h1⟩
  ·exact absurd h1 hx
 have nd:∀{x:Obj},x.owns=true->x≠.dead:=λh e=>by subst e;cases h
 have nv:∀{x:Obj},x.gw=true->x≠.dead:=λh e=>by subst e;cases h
 refine⟨aKQ,S2,?_,?_,?_,?_,?_,?_,?_,hle⟩
 ·intro k x hk;rcases dp k x hk with h1|⟨rfl,l,hl⟩
  ·obtain⟨l,e1,e2⟩:=h.born k x (hL k x h1);exact⟨l,(rX k x h1).trans e1,aKP k x l h1 e1 e2⟩
  ·exact⟨l,hl,trivial⟩
 ·intro k x b o cap hk hx hl;obtain⟨q1,q2,q3⟩:=src hk (nd hx);rw[q2]at hl;exact⟨cC (h.own k x b o cap q1 hx hl).1 yC,Jv k x b o cap q3 hx hl⟩
 ·intro k j x y b o cap o' aQ hk hx hj hy hl cv;obtain⟨q1,q2,_⟩:=src hk (nd hx);obtain⟨p1,p2,_⟩:=src hj (nd hy);exact h.inj k j x y b o cap o' aQ q1 hx p1 hy (q2▸hl) (p2▸cv)
 ·intro k j x F b o cap v hk hx hl hj hv;obtain⟨q1,q2,_⟩:=src hk (nd hx);obtain⟨p1,p2,p3⟩:=src hj n_;intro hF;exact h.apart k j x F b o cap v q1 hx (q2▸hl) p1 (p2▸hv) (hff j F v b p3 (p2▸hv) hF)
 ·intro k x b o cap hk hx hl;obtain⟨q1,q2,_⟩:=src hk (nv hx);obtain⟨s1,s2⟩:=h.seen k x b o cap q1 hx (q2▸hl);refine⟨cC s1 yC,λj y o' aQ hj hy hm=>?_⟩;obtain⟨p1,p2,_⟩:=src hj (nd hy);exact s2 j y o' aQ p1 hy (p2▸hm)
 ·intro j F hj;exact hfa j F (src hj n_).2.2
 ·intro j k F F' hj hk;exact h.one j k F F' (src hj n_).1 (src hk n_).1
def fA(l:Nat)(r:Loop):Fact where
 G _ W:=W.heap[l]?=some (.loop r)
 cR _ _ k:=k=l
 lt _ w k h hk:=by subst hk;exact(yO.1 h).1
 dep _ w w' h _ hk:=⟨(hk l rfl).trans h,λk h=>h⟩
 rc:=true
 soft h:=by cases h
def pJ(W1:World)(l:Nat)(S:Nat->Prop)(m:Map):aa where
 G W:=tj W1 W/\W.tape=W1.tape/\W.output=W1.output/\W1.heap.size<=W.heap.size/\∀ k,k<W1.heap.size->¬S k->k≠l->W.heap[k]?=W1.heap[k]?
 cR k:=k<W1.heap.size/\¬S k/\k≠l
 Fa F:=∃ r,F=fA l r
 mp:=m
 lt w k h hk:=cC hk.1 h.2.2.2.1
 dep w w' h h1 h2 h3 h4 h5:=⟨h1.trans h.1,h2.trans h.2.1,h3.trans h.2.2.1,dh h.2.2.2.1 h4,λk hk hS hl=>(h5 k ⟨hk,hS,hl⟩).trans (h.2.2.2.2 k hk hS hl)⟩
section
variable{W1 W:World}{l g:Nat}{S:Nat->Prop}{m ι:Map}{c:Nat->Option Obj}{r r':Loop}
theorem BK{B:aa}(h:aO B ι c W)(hg:c g=some (.fact (fA l r))):W.heap[l]?=some (.loop r):=by obtain⟨lc,hl,v,_,hr⟩:=h.born g _ hg;exact hr
theorem aBp(h:aO (pJ W1 l S m) ι c W)(hg:c g=some (.fact (fA l r))):aO (pJ W1 l S m) ι (aZ c g (.fact (fA l r'))) (W.putObj l (.loop r')):=by
 have hr:=BK h hg;have ak:=(yO.1 hr).1;have tK:=OD hr;have ne:∀ b,b≠l->(W.putObj l (.loop r')).heap[b]?=W.heap[b]?:=λb hb=>aBq hb;have cZ:∀ j y,j≠g->aZ c g (.fact (fA l r')) j=some y->c j=some y:=λj y hj e=>by unfold aZ at e;rw[au hj]at e;exact e
 have new:∀ y,aZ c g (.fact (fA l r')) g=some y->y=.fact (fA l r'):=λy e=>by unfold aZ at e;rw[ax rfl]at e;injection e with e;exact e.symm
 have nf:∀ j y,j≠g->c j=some y->∀ F,y=.fact F->F.rc=false:=λj y hj e F e2=>by
  subst e2;cases hr:F.rc with
  |false=>rfl
  |true=>exact absurd (h.one j g F _ e hg hr rfl) hj
 have og:∀ j y,aZ c g (.fact (fA l r')) j=some y->y.owns=true\/y.gw=true->c j=some y:=λj y e hy=>by
  by_cases hj:j=g
  ·subst hj;rw[new y e]at hy;rcases hy with hy|hy<;>cases hy
  ·exact cZ j y hj e
 refine⟨⟨h.base.1,h.base.2.1,h.base.2.2.1,by rw[vP];exact h.base.2.2.2.1,λk hk hS hl=>(ne k hl).trans (h.base.2.2.2.2 k hk hS hl)⟩,?_,?_,?_,?_,?_,?_,?_,?_,h.oL⟩
 ·intro j hj;unfold aZ at hj;by_cases lv:j=g
  ·rw[ax lv]at hj;cases hj
  ·rw[au lv]at hj;exact h.du j hj
 ·intro j y hj;by_cases lv:j=g
  ·subst lv;rw[new y hj];obtain⟨lc,hl,v,e,_⟩:=h.born j _ hg;exact⟨lc,hl,v,e,World.putObj_heap_same ak⟩
  ·have hc:=cZ j y lv hj;obtain⟨lc,hl,ho⟩:=h.born j y hc;exact⟨lc,hl,OE tK ho (nf j y lv hc) (by rw[vP];exact bt _) (λb o cap _ _=>(Nat.decEq b l).casesOn (λhb=>.inr (ne b hb)) λhb=>.inl hb) λF v b _ _ _=>(Nat.decEq b l).casesOn (λhb=>.inr (ne b hb)) λhb=>.inl hb⟩
 ·intro k x b o cap hk hx hl;rw[vP];exact h.own k x b o cap (og k x hk (.inl hx)) hx hl
 ·intro k j x y b o cap o' aQ hk hx hj hy;exact h.inj k j x y b o cap o' aQ (og k x hk (.inl hx)) hx (og j y hj (.inl hy)) hy
 ·intro k j x F b o cap v hk hx hl hj hv hF;have gO:=og k x hk (.inl hx);by_cases lv:j=g
  ·subst lv;have e:=new _ hj;injection e with e;subst e;exact h.apart k j x _ b o cap v gO hx hl hg hv hF
  ·have iH:=cZ j _ lv hj;obtain⟨lc,q1,v',q2,q3⟩:=h.born j _ iH;rw[hv]at q1;injection q1 with q1;subst q1;injection q2 with q2;subst q2;refine h.apart k j x F b o cap v gO hx hl iH hv ((F.soft (nf j _ lv iH F rfl) v W _ q3 (by rw[vP];exact bt _) λk2 fN cs ty f hc=>?_).2 b hF);rw[ne k2 (λe=>by subst e;exact tK _ _ _ hc)];exact hc
 ·intro k x b o cap hk hx hl;rw[vP];obtain⟨q1,q2⟩:=h.seen k x b o cap (og k x hk (.inr hx)) hx hl;exact⟨q1,λj y o' aQ hj hy=>q2 j y o' aQ (og j y hj (.inl hy)) hy⟩
 ·intro j F hj;by_cases lv:j=g
  ·subst lv;have e:=new _ hj;injection e with e;exact λ_=>⟨r',e⟩
  ·exact h.fa j F (cZ j _ lv hj)
 ·intro j k F F' hj hk hr tn;by_cases lv:j=g
  ·by_cases lW:k=g
   ·rw[lv,lW]
   ·have:=nf k _ lW (cZ k _ lW hk) F' rfl;rw[tn]at this;cases this
  ·have:=nf j _ lv (cZ j _ lv hj) F rfl;rw[hr]at this;cases this
end
section
variable{P:Program}{W1 W W4:World}{l g next:Nat}{S:Nat->Prop}{m ι:Map}{c:Nat->Option Obj}{r r2:Loop}
def vQ(ι:Map)(next:Nat):Map:=λk=>if k<next then ι k else none
def o8(c:Nat->Option Obj)(next:Nat)(L:aH):Nat->Option Obj:=λk=>if k<next then(match ah L k with|some x=>some x|none=>(c k).map λ_=>.dead)else none
theorem xF{k:Nat}(h:k<next):vQ ι next k=ι k:=by unfold vQ;rw[ax h]
theorem aKR(h:aO (pJ W1 l S m) ι c W)(hg:c g=some (.fact (fA l r)))(Us:g<next){L:aH}(hL:cV c L)(FC:ah L g=none)(dr:∀ k x,ah L k=some x->k<next/\eA next x)
  (oh:∀ k F,ah L k≠some (.fact F)) (hS:∀ k x b o cap,ah L k=some x->x.owns=true->ι k=some (.at b o cap)->S b) :
  aO (pJ W l S (vQ ι next)) (vQ ι next) (o8 c next ((g,.fact (fA l r))::L)) W/\cV (o8 c next ((g,.fact (fA l r))::L)) L/\o8 c next ((g,.fact (fA l r))::L) g=some (.fact (fA l r))/\eM (o8 c next ((g,.fact (fA l r))::L)) next:=by
 have hr:=BK h hg;have Ut:∀ k,ah ((g,.fact (fA l r))::L) k=if g=k then some (.fact (fA l r))else ah L k:=λk=>by
  show(if Nat.beq g k then _ else _)=_;by_cases e:g=k
  ·subst e;simp
  ·rw[au e,ou e];rfl
 have jH:∀ k x,ah ((g,.fact (fA l r))::L) k=some x->k<next/\c k=some x/\(x=.fact (fA l r)/\k=g\/ah L k=some x):=λk x e=>by
  rw[Ut]at e;by_cases hk:g=k
  ·subst hk;rw[ax rfl]at e;injection e with e;subst e;exact⟨Us,hg,.inl ⟨rfl,rfl⟩⟩
  ·rw[au hk]at e;exact⟨(dr k x e).1,hL k x e,.inr e⟩
 refine⟨OG (L:=(g,.fact (fA l r))::L) h (λk x e=>(jH k x e).2.1) (λk x e=>xF (jH k x e).1) (λk x lc e _ ho=>?_) ⟨.refl _,rfl,rfl,bt _,λ_ _ _ _=>rfl⟩ (λk x b o cap e hx hb hF=>?_) (bt _) (λk e=>?_) (λk x e=>?_) (λk F e=>?_) (λ_ _ _ _ _ _ h=>h) (Map.le.refl _),λk x e=>?_,?_,λk hk=>?_⟩
 ·rcases(jH k x e).2.2 with ⟨rfl,_⟩|e
  ·exact ho
  ·exact ho.below (λk hk l e=>by rw[xF hk];exact e) (dr k x e).2
 ·rcases(jH k x e).2.2 with ⟨rfl,_⟩|e
  ·cases hx
  ·exact hF.2.1 (hS k x b o cap e hx hb)
 ·unfold o8 at e;unfold vQ;split at e
  ·rename_i hk;rw[ax hk];split at e
   ·cases e
   ·cases hc:c k with
    |none=>exact h.du k hc
    |some x=>rw[hc]at e;cases e
  ·rename_i hk;rw[au hk]
 ·unfold o8 at e;split at e
  ·rename_i hk;split at e
   ·rename_i y hy;injection e with e;subst e;exact .inl hy
   ·cases hc:c k with
    |none=>rw[hc]at e;cases e
    |some y=>
     rw[hc]at e;injection e with e;obtain⟨lc,q,_⟩:=h.born k y hc;exact .inr ⟨e.symm,lc,by rw[xF hk];exact q⟩
  ·cases e
 ·rcases(jH k _ e).2.2 with ⟨e,_⟩|e
  ·injection e with e;exact λ_=>⟨r,e⟩
  ·exact absurd e (oh k F)
 ·unfold o8;rw[ax (dr k x e).1,Ut,au (λh=>by subst h;rw[FC]at e;cases e),e]
 ·unfold o8;rw[ax Us,Ut,ax rfl]
 ·unfold o8;rw[au o_]
theorem aKS(h:aO (pJ W1 l S m) ι c W)(hg:c g=some (.fact (fA l r))){Os cz:aH}(hO:cV c Os)(Uu:ah Os g=none)(dO:∀ k x,ah Os k=some x->x.owns=true)(qY:∀ k x,ah cz k=some x->x.owns=true)
  (j4:∀ k,ah cz k=none↔ah Os k=none) (hS:∀ b,S b->∃ k x o cap,ah Os k=some x/\ι k=some (.at b o cap)) (jK:∀ k x,ah cz k=some x->eA next x)
  {aw:Map} {c':Nat->Option Obj} {aKT:Map} (hm:aO (pJ W l S aKT) aw c' W4) (OH:c' g=some (.fact (fA l r2))) (sJ:cV c' cz) (dr:∀ k,k<next->∀ lc,aw k=some lc->ι k=some lc)
  (Us:g<next) (mT:∀ k x,ah cz k=some x->k<next):aO (pJ W1 l S m) ι (lI c ((g,.fact (fA l r2))::cz)) W4:=by
 have hr:=BK h hg;have hr4:=BK hm OH;have tK:=OD hr;have aKU:=OD hr4;have bw:W.heap.size<=W4.heap.size:=hm.base.2.2.2.1;have aI:∀ b,b<W.heap.size->¬S b->b≠l->W4.heap[b]?=W.heap[b]?:=hm.base.2.2.2.2
 -- xz kinds of marks
 have kinds:∀ k x,lI c ((g,.fact (fA l r2))::cz) k=some x->(k=g/\x=.fact (fA l r2))\/(k≠g/\ah cz k=some x/\c' k=some x/\x.owns=true)\/(k≠g/\ah Os k=none/\c k=some x/\∀ F,x=.fact F->F.rc=false):=λk x e=>by
  rw[vx]at e;by_cases hk:k=g
  ·subst hk;have:ah ((k,Obj.fact (fA l r2))::cz) k=some (.fact (fA l r2)):=by show(if Nat.beq k k then _ else _)=_;simp
   rw[this]at e;injection e with e;exact .inl ⟨rfl,e.symm⟩
  ·have:ah ((g,Obj.fact (fA l r2))::cz) k=ah cz k:=by show(if Nat.beq g k then _ else _)=_;rw[ou (mP hk)];rfl
   rw[this]at e;cases ho:ah cz k with
   |some y=>rw[ho]at e;injection e with e;subst e;exact .inr (.inl ⟨hk,rfl,sJ k y ho,qY k y ho⟩)
   |none=>
    rw[ho]at e;refine .inr (.inr ⟨hk,(j4 k).1 ho,e,λF ef=>?_⟩);subst ef;cases hr:F.rc with
    |false=>rfl
    |true=>exact absurd (h.one k g F _ e hg hr rfl) hk
 -- the map is the same at the marks of the list
 have same:∀ k x,ah cz k=some x->aw k=ι k:=λk x e=>by obtain⟨lc,q,_⟩:=hm.born k x (sJ k x e);rw[q,dr k (mT k x e) lc q]
 have Dp:∀ k x b o cap,ah Os k=none->c k=some x->x.owns=true->ι k=some (.at b o cap)->¬S b:=λk x b o cap hn hc hx hl hs=>by obtain⟨k',x',o',aQ,e1,e2⟩:=hS b hs;have:=h.inj k k' x x' b o cap o' aQ hc hx (hO k' x' e1) (dO k' x' e1) hl e2;subst this;rw[hn]at e1;cases e1
 have Dq:∀ k x b o cap,c k=some x->x.gw=true->ι k=some (.at b o cap)->¬S b:=λk x b o cap hc hx hl hs=>by obtain⟨k',x',o',aQ,e1,e2⟩:=hS b hs;exact(h.seen k x b o cap hc hx hl).2 k' x' o' aQ (hO k' x' e1) (dO k' x' e1) e2
 have xG:∀ k F v b,c k=some (.fact F)->ι k=some (.val v)->F.cR v W b->¬S b:=λk F v b hc hl hF hs=>by obtain⟨k',x',o',aQ,e1,e2⟩:=hS b hs;exact h.apart k' k x' F b o' aQ v (hO k' x' e1) (dO k' x' e1) e2 hc hl hF
 have aBr:∀ k x b o cap,c k=some x->x.owns=true->ι k=some (.at b o cap)->b≠l:=λk x b o cap hc hx hl e=>by obtain⟨lc,q1,q2⟩:=h.born k x hc;rw[hl]at q1;injection q1 with q1;subst q1;obtain⟨cs,ty,q⟩:=aBo q2 hx;subst e;exact tK _ _ _ q
 have Uv:∀ k x b o cap,c' k=some x->x.owns=true->aw k=some (.at b o cap)->b≠l:=λk x b o cap hc hx hl e=>by obtain⟨lc,q1,q2⟩:=hm.born k x hc;rw[hl]at q1;injection q1 with q1;subst q1;obtain⟨cs,ty,q⟩:=aBo q2 hx;subst e;exact aKU _ _ _ q
 -- a block of the aVD is none of the aVE
 have part:∀ k x b o cap j y o' aQ,ah cz k=some x->ι k=some (.at b o cap)->ah Os j=none->c j=some y->y.owns=true->ι j=some (.at b o' aQ)->False:=λk x b o cap j y o' aQ hk hl hj hc hy cv=>by
  rcases eL b W.heap.size with ak|dT
  ·have hx:=qY k x hk;have q:=(hm.own k x b o cap (sJ k x hk) hx (by rw[same k x hk];exact hl)).2;have h1:=Dp j y b o' aQ hj hc hy cv;have h2:=aBr j y b o' aQ hc hy cv;exact q ⟨ak,h1,h2⟩
  ·have:=(h.own j y b o' aQ hc hy cv).1;omega
 refine⟨?_,?_,?_,?_,?_,?_,?_,?_,?_,h.oL⟩
 ·refine⟨hm.base.1.trans h.base.1,hm.base.2.1.trans h.base.2.1,hm.base.2.2.1.trans h.base.2.2.1,dh h.base.2.2.2.1 bw,λk hk hs hl=>?_⟩;exact(aI k (cC hk h.base.2.2.2.1) hs hl).trans (h.base.2.2.2.2 k hk hs hl)
 ·intro k hk;rw[vx]at hk;cases ho:ah ((g,Obj.fact (fA l r2))::cz) k with
  |some y=>rw[ho]at hk;cases hk
  |none=>rw[ho]at hk;exact h.du k hk
 ·intro k x hk;rcases kinds k x hk with ⟨rfl,rfl⟩|⟨lW,h1,h2,h3⟩|⟨lW,h1,h2,h3⟩
  ·obtain⟨lc,q1,v,q2,_⟩:=h.born k _ hg;exact⟨lc,q1,v,q2,hr4⟩
  ·obtain⟨lc,q1,q2⟩:=hm.born k x h2;exact⟨lc,by rw[<-same k x h1];exact q1,q2.below dr (jK k x h1)⟩
  ·obtain⟨lc,q1,q2⟩:=h.born k x h2;refine⟨lc,q1,OE tK q2 h3 bw (λb o cap hx e=>?_) λF v b e1 e2 hF=>?_⟩;rotate_left
   ·by_cases fT:b=l
    ·exact .inl fT
    ·subst e1;subst e2;exact .inr (aI b (q2.wM rfl hF) (xG k F v b h2 q1 hF) fT)
   by_cases fT:b=l
   ·exact .inl fT
   ·right;subst e;rcases hx with hx|hx
    ·exact aI b (h.own k x b o cap h2 hx q1).1 (Dp k x b o cap h1 h2 hx q1) fT
    ·exact aI b (h.seen k x b o cap h2 hx q1).1 (Dq k x b o cap h2 hx q1) fT
 ·intro k x b o cap hk hx hl;rcases kinds k x hk with ⟨rfl,rfl⟩|⟨lW,h1,h2,h3⟩|⟨lW,h1,h2,h3⟩
  ·cases hx
  ·obtain⟨q1,q2⟩:=hm.own k x b o cap h2 hx (by rw[same k x h1];exact hl);exact⟨q1,λhF=>q2 ⟨cC hF.1 h.base.2.2.2.1,hF.2⟩⟩
  ·obtain⟨q1,q2⟩:=h.own k x b o cap h2 hx hl;exact⟨cC q1 bw,q2⟩
 ·intro k j x y b o cap o' aQ hk hx hj hy hl cv;rcases kinds k x hk with ⟨rfl,rfl⟩|⟨lW,h1,h2,h3⟩|⟨lW,h1,h2,h3⟩
  ·cases hx
  ·rcases kinds j y hj with ⟨rfl,rfl⟩|⟨lv,p1,p2,p3⟩|⟨lv,p1,p2,p3⟩
   ·cases hy
   ·exact hm.inj k j x y b o cap o' aQ h2 hx p2 hy (by rw[same k x h1];exact hl) (by rw[same j y p1];exact cv)
   ·exact(part k x b o cap j y o' aQ h1 hl p1 p2 hy cv).elim
  ·rcases kinds j y hj with ⟨rfl,rfl⟩|⟨lv,p1,p2,p3⟩|⟨lv,p1,p2,p3⟩
   ·cases hy
   ·exact(part j y b o' aQ k x o cap p1 cv h1 h2 hx hl).elim
   ·exact h.inj k j x y b o cap o' aQ h2 hx p2 hy hl cv
 ·intro k j x F b o cap v hk hx hl hj hv hF;rcases kinds j _ hj with ⟨rfl,e⟩|⟨lv,p1,p2,p3⟩|⟨lv,p1,p2,p3⟩
  ·injection e with e;subst e;have vR:b=l:=hF;rcases kinds k x hk with ⟨rfl,rfl⟩|⟨lW,h1,h2,h3⟩|⟨lW,h1,h2,h3⟩
   ·cases hx
   ·exact Uv k x b o cap h2 hx (by rw[same k x h1];exact hl) vR
   ·exact aBr k x b o cap h2 hx hl vR
  ·cases p3
  ·have hF:F.cR v W b:=by obtain⟨lc,q1,v',q2,q3⟩:=h.born j _ p2;rw[hv]at q1;injection q1 with q1;subst q1;injection q2 with q2;subst q2;refine(F.soft (p3 F rfl) v W W4 q3 bw λk2 fN cs ty f hc=>?_).2 b hF;rw[aI k2 (F.lt v W k2 q3 fN) (xG j F v k2 p2 hv fN) (λe=>by subst e;exact tK _ _ _ hc)];exact hc
   rcases kinds k x hk with ⟨rfl,rfl⟩|⟨lW,h1,h2,h3⟩|⟨lW,h1,h2,h3⟩
   ·cases hx
   ·have cv:aw k=some (.at b o cap):=by rw[same k x h1];exact hl
    have hb:b<W.heap.size:=by obtain⟨lc,q1,q2⟩:=h.born j _ p2;rw[hv]at q1;injection q1 with q1;subst q1;exact q2.wM rfl hF
    exact(hm.own k x b o cap h2 hx cv).2 ⟨hb,xG j F v b p2 hv hF,Uv k x b o cap h2 hx cv⟩
   ·exact h.apart k j x F b o cap v h2 hx hl p2 hv hF
 ·intro k x b o cap hk hx hl;rcases kinds k x hk with ⟨rfl,rfl⟩|⟨lW,h1,h2,h3⟩|⟨lW,h1,h2,h3⟩
  ·cases hx
  ·cases x<;>simp[Obj.owns,Obj.gw]at h3 hx
  ·obtain⟨q1,q2⟩:=h.seen k x b o cap h2 hx hl;refine⟨cC q1 bw,λj y o' aQ hj hy cv=>?_⟩;rcases kinds j y hj with ⟨rfl,rfl⟩|⟨lv,p1,p2,p3⟩|⟨lv,p1,p2,p3⟩
   ·cases hy
   ·have jH:aw j=some (.at b o' aQ):=by rw[same j y p1];exact cv
    exact(hm.own j y b o' aQ p2 hy jH).2 ⟨q1,Dq k x b o cap h2 hx hl,Uv j y b o' aQ p2 hy jH⟩
   ·exact q2 j y o' aQ p2 hy cv
 ·intro j F hj;rcases kinds j _ hj with ⟨_,e⟩|⟨_,_,_,h3⟩|⟨_,_,_,h3⟩
  ·injection e with e;exact λ_=>⟨r2,e⟩
  ·cases h3
  ·exact λhr=>by rw[h3 F rfl]at hr;cases hr
 ·intro j k F F' hj hk hr tn;rcases kinds j _ hj with ⟨e1,_⟩|⟨_,_,_,h3⟩|⟨_,_,_,h3⟩
  ·rcases kinds k _ hk with ⟨e2,_⟩|⟨_,_,_,h3⟩|⟨_,_,_,h3⟩
   ·rw[e1,e2]
   ·cases h3
   ·rw[h3 F' rfl]at tn;cases tn
  ·cases h3
  ·rw[h3 F rfl]at hr;cases hr
end
def OI:aR->aR->aR
 |[],fr=>fr
 |p::l,fr=>OI l (p::fr)
theorem aBs{m:Map}{N:Nat}:∀(l:aR) {fr:aR} {T:Array Value},T.size=N->(∀ t,nI m (bH fr t) (T.getD t undef))->(∀ p∈l,p.1<N/\flat p.2=true)->
  (l.foldl (λt p=>t.setIfInBounds p.1 p.2) T).size=N/\∀ t,nI m (bH (OI l fr) t) ((l.foldl (λt p=>t.setIfInBounds p.1 p.2) T).getD t undef)
 |[],fr,T,hT,h,_=>⟨hT,h⟩
 |(p,v)::l,fr,T,hT,h,hl=>by
  obtain⟨h1,h2⟩:=hl (p,v) (aU ..);dsimp only at h1 h2;refine aBs l (fr:=(p,v)::fr) (T:=T.setIfInBounds p v) (by simpa using hT) (λt=>?_) λq hq=>hl q (bE _ hq);by_cases e:p=t
  ·subst e;have e1:bH ((p,v)::fr) p=v:=by simp[bH]
   have e2:(T.setIfInBounds p v).getD p undef=v:=by rw[qc,Array.getElem?_setIfInBounds_self_of_lt o_];rfl
   rw[e1,e2];exact .inr (.same h2)
  ·have e1:bH ((p,v)::fr) t=bH fr t:=by show(if Nat.beq p t then _ else _)=_;rw[ou e];rfl
   have e2:(T.setIfInBounds p v).getD t undef=T.getD t undef:=by rw[qc,qc,R1 e]
   rw[e1,e2];exact h t
def exJ:Ex->Option Code
 |.normal=>none
 |.ret=>some .ret
 |.exit id=>some (.exit id)
def j8(fB:FuncId)(T:Array Value)(ps:Array Tmp)(iM eT:Code)(D:Nat):Loop:={ state:=.ready,pending:=none,fn:=fB,tmps:=T,params:=ps,assign:=iM,body:=eT,defers:=D }
def Dr(r:Loop)(j:Option Code):Loop:={ r with state:=if j.isNone then .ready else .done,pending:=j }
section
variable{P:Program}{W1:World}{l g next N D:Nat}{S:Nat->Prop}{m:Map}
theorem OJ{c:Nat->Option Obj}{L:aH}(h:∀ p∈L.map (λp=>(p.1,some p.2)),c p.1=p.2):cV c L:=λk x e=>h (k,some x) (di.2 ⟨(k,x),kj e,rfl⟩)
structure OL(P:Program)(next N:Nat)(ps:Array Tmp)(iM eT:Code)(fr:aR)(Os Vs cz:aH)(eF:aj)(j:Option Code):Prop where
 flat:∀ v∈eF,flat v=true
 len:eF.length=ps.size
 jL:∀ p∈ps,p<N
 low:∀ k x,ah (Os++Vs) k=some x->k<next/\eA (next+1) x
 aBt:∀ k x,ah cz k=some x->eA (next+1) x
 own:∀ k x,ah Os k=some x->x.owns=true
 aBu:∀ k x,ah cz k=some x->x.owns=true
 view:∀ k x,ah Vs k=some x->x.gw=true
 keys:∀ k,ah cz k=none↔ah Os k=none
 run:∃ rA rB:mz,(∀ B,ag P B N iM (OI (ps.toList.zip eF) fr) (Os++Vs) (next+1) rA)/\rA.ex=.normal/\next+1<=rA.next/\ah rA.M next=none/\
  (∀ B,ag P B N eT rA.fr rA.M rA.next rB)/\(∀ k x,ah cz k=some x->ah rB.M k=some x)/\exJ rB.ex=j
theorem OM{ps:Array Tmp}{iM eT:Code}{fr:aR}{Os Vs cz:aH}{eF:aj}{j:Option Code}(az:OL P next N ps iM eT fr Os Vs cz eF j)
  {o:Oper} {x:Operand} (ho:dx o.op=some x) {T:Array Value} {fB:FuncId} (hT:T.size=N) (hTs:∀ t,nI m (bH fr t) (T.getD t undef)) (cW:∀ k lc,m k=some lc->k<next)
  (hS:∀ b,S b↔∃ k x o cap,ah Os k=some x/\m k=some (.at b o cap)) (hSm:∀ k x,ah Os k=some x->m k≠none) :
  cD P (pJ W1 l S m) o (.func (.yield l) #[] #[]::eF) ((next,some (.fact (fA l (j8 fB T ps iM eT D))))::(Os++Vs).map (λp=>(p.1,some p.2))) (.bool j.isNone)
   ((next,.fact (fA l (Dr (j8 fB T ps iM eT D) j)))::cz):=by
 intro R ι c a w hv hm hn K Q hK;obtain⟨rA,rB,hA,Uw,hAn,ON,hB,Ux,Uy⟩:=az.run;have hg:c next=some (.fact (fA l (j8 fB T ps iM eT D))):=hn (next,_) (aU ..);have hL:cV c (Os++Vs):=OJ λp hp=>hn p (bE _ hp);have hO:cV c Os:=λk x e=>hL k x (by rw[gZ,e]);have FC:ah (Os++Vs) next=none:=by
  cases e:ah (Os++Vs) next with
  |none=>rfl
  |some x=>have:=(az.low _ _ e).1;omega
 have Uu:ah Os next=none:=by
  rw[gZ]at FC;cases e:ah Os next with
  |none=>rfl
  |some x=>rw[e]at FC;cases FC
 have aKV:ah cz next=none:=(az.keys next).2 Uu;have OO:∀ k x,ah (Os++Vs) k=some x->x.owns=true->ah Os k=some x:=λk x e hx=>by
  rw[gZ]at e;cases e1:ah Os k with
  |some y=>rw[e1]at e;exact e
  |none=>
   rw[e1]at e;have:=az.view k x e;cases x<;>simp[Obj.owns,Obj.gw]at hx this
 have hr:=BK hm hg;obtain⟨dst,op,ty,pos,after,guard⟩:=o;dsimp only at ho hv;unfold dx at ho;split at ho
 ·rename_i x' lj wS;injection ho with ho;subst ho;have yF:(Op.operands (.call ⟨.value x',lj,wS⟩)).toList=x'::lj.toList:=by simp[Op.operands,Call.operands]
  rw[yF]at hv;cases hv with
  |cons hx rP=>
  obtain⟨kv,fe,he,h1,h2⟩:=hx.Co;have ef:kv=#[]:=by
   cases ko:kv.toList with
   |nil=>exact H8.1 ko
   |cons _ _=>rw[ko]at h1;cases h1
  have ec:fe=#[]:=by
   cases ko:fe.toList with
   |nil=>exact H8.1 ko
   |cons _ _=>rw[ko]at h2;cases h2
  subst ef;subst ec;have aP:lj.toList.map a.eval=eF:=nJ rP az.flat;have e3:execOp a.eval ⟨dst,.call ⟨.value x',lj,wS⟩,ty,pos,after,guard⟩=Instr.yield l eF.toArray:=by
   have:execOp a.eval ⟨dst,.call ⟨.value x',lj,wS⟩,ty,pos,after,guard⟩=(do let d <-Deferred.ofValue (a.eval x') (lj.map a.eval);invoke d.target d.args):=rfl;rw[this,he,<-aP];have:lj.map a.eval=(lj.toList.map a.eval).toArray:=by apply GQ;simp
   rw[this];simp[Deferred.ofValue,invoke,go_sem]
  have hy:=run_yield (P:=P) (args:=eF.toArray) hr (by simpa[j8]using az.len);have aKW:((j8 fB T ps iM eT D).params.zip eF.toArray).foldl (λtmps (t,a)=>tmps.setIfInBounds t a) (j8 fB T ps iM eT D).tmps=(ps.toList.zip eF).foldl (λt p=>t.setIfInBounds p.1 p.2) T:=by rw[<-aBv];simp[j8]
  rw[aKW]at hy;obtain⟨f1,f2⟩:=aBs (ps.toList.zip eF) hT hTs λp hp=>by have:=List.of_mem_zip hp;exact⟨az.jL _ (by simpa using this.1),az.flat _ this.2⟩
  refine⟨λ_ _=>trivial,?_⟩;rw[Mx _ _ _ n_,e3,hy,Oper.uponIn_round];refine⟨λe=>(by cases e),roundIn_of_wpIn trivial ?_⟩
  -- the aVF own memory
  obtain⟨KN,KO,OP,uT⟩:=aKR (next:=next+1) hm hg (Bo _) hL FC (λk x e=>⟨aBw (az.low k x e).1,(az.low k x e).2⟩)
   (λk F e=>by
    rw[gZ]at e;cases e1:ah Os k with
    |some y=>rw[e1]at e;injection e with e;subst e;have:=az.own k _ e1;cases this
    |none=>rw[e1]at e;have:=az.view k _ e;cases this)
   (λk x b o cap e hx hb=>by
    have e1:=OO k x e hx;refine(hS b).2 ⟨k,x,o,cap,e1,?_⟩;cases e2:m k with
    |none=>exact absurd e2 (hSm k x e1)
    |some lc=>rw[hm.oL k lc e2]at hb;exact hb)
  refine hA _ (some l) _ _ _ _ _ ⟨rfl,f1,λt=>(f2 t).mono λk lc e=>by rw[xF (aBw (cW k lc e))];exact hm.oL k lc e⟩ KN KO uT λbP gB a1 w1 jy iT c7 eG dR iC _=>?_;rw[Uw];have tJ:gB next=some (.fact (fA l (j8 fB T ps iM eT D))):=(iC next (Bo _) FC).trans OP;refine⟨_,run_beginRound (BK c7 tJ) rfl,?_⟩;have dC:=aBp (r':={ j8 fB T ps iM eT D with state:=.busy }) c7 tJ;refine hB _ (some l) _ _ _ _ _ iT dC (λk x e=>?_) (λk hk=>?_) λdH rS a2 w2 lk _ yD FD hu3 hk3 _=>?_
  ·unfold aZ;by_cases lW:k=next
   ·subst lW;rw[ON]at e;cases e
   ·rw[au lW];exact eG k x e
  ·unfold aZ;rw[au o_];exact dR k hk
  ·have hg3:rS next=some (.fact (fA l { j8 fB T ps iM eT D with state:=.busy })):=(hk3 next o_ ON).trans (by unfold aZ;rw[ax rfl]);have hm4:=aBp (r':=Dr (j8 fB T ps iM eT D) j) yD hg3;have uV:=run_endRound (P:=P) j (BK yD hg3);have FE:∀ k,k<next+1->∀ lc,dH k=some lc->ι k=some lc:=λk hk lc e=>by
    cases qF:ι k with
    |some zv=>
     have:=lk k zv (jy k zv (by rw[xF hk];exact qF));rw[e]at this;exact this.symm
    |none=>
     exfalso;have hc:c k=none:=by
      cases hc:c k with
      |none=>rfl
      |some y=>obtain⟨zv,q,_⟩:=hm.born k y hc;rw[qF]at q;cases q
     have lW:k≠next:=λe=>by subst e;rw[hg]at hc;cases hc
     have vB:ah (Os++Vs) k=none:=by
      cases e1:ah (Os++Vs) k with
      |none=>rfl
      |some y=>rw[hL k y e1]at hc;cases hc
     have q1:gB k=none:=by
      rw[iC k hk vB];unfold o8;rw[ax hk];have:ah ((next,Obj.fact (fA l (j8 fB T ps iM eT D)))::(Os++Vs)) k=none:=by show(if Nat.beq next k then _ else _)=_;rw[ou (mP lW)];exact vB
      rw[this,hc];rfl
     have hAk:ah rA.M k=none:=by
      cases e1:ah rA.M k with
      |none=>rfl
      |some y=>rw[eG k y e1]at q1;cases q1
     have q2:rS k=none:=by rw[hk3 k o_ hAk];unfold aZ;rw[au lW];exact q1
     rw[yD.du k q2]at e;cases e
   have hmm:=aKS (next:=next+1) (Os:=Os) (cz:=cz) hm hg hO Uu az.own az.aBu az.keys (λb hb=>by
     obtain⟨k,x,o,cap,e1,e2⟩:=(hS b).1 hb;exact⟨k,x,o,cap,e1,hm.oL k _ e2⟩) az.aBt hm4 (by unfold aZ;rw[ax rfl])
    (λk x e=>by
     unfold aZ;by_cases lW:k=next
     ·subst lW;rw[aKV]at e;cases e
     ·rw[au lW];exact FD k x (Ux k x e)) FE (Bo _) (λk x e=>by
     cases e1:ah Os k with
     |none=>rw[(az.keys k).2 e1]at e;cases e
     |some y=>exact aBw (az.low k y (by rw[gZ,e1])).1)
   have fin:=hK ι (.bool j.isNone) _ (Map.le.refl _) (.same rfl) hmm;subst Uy;cases hx:rB.ex with
   |normal=>rw[hx]at uV fin;exact⟨_,_,uV,fin⟩
   |ret=>rw[hx]at uV fin;exact⟨_,_,uV,fin⟩
   |exit id=>rw[hx]at uV fin;exact⟨_,_,uV,fin⟩
 ·cases ho
end
def FF(D:Nat):Deferred:={ target:=.collected D,args:=#[]}
def aa.held(B:aa)(D:Nat):aa where
 G w:=B.G w/\w.heap[D]?=some (.deferred (some []))
 cR k:=B.cR k\/k=D
 ds:=FF D::B.ds
 Fa:=B.Fa
 mp:=B.mp
 lt w k h hk:=by
  rcases hk with hk|rfl
  ·exact B.lt w k h.1 hk
  ·exact(yO.1 h.2).1
 dep w w' h h1 h2 h3 h4 h5:=⟨B.dep w w' h.1 h1 h2 h3 h4 λk hk=>h5 k (.inl hk),(h5 D (.inr rfl)).trans h.2⟩
section
variable{P:Program}{B:aa}{N next:Nat}
structure OQ(P:Program)(next N:Nat)(fr:aR)(Os:aH)(m:Map)(S:Nat->Prop)(T:Array Value):Prop where
 size:T.size=N
 jL:∀ t,nI m (bH fr t) (T.getD t undef)
 low:∀ k lc,m k=some lc->k<next
 set:∀ b,S b↔∃ k x o cap,ah Os k=some x/\m k=some (.at b o cap)
 born:∀ k x,ah Os k=some x->m k≠none
def aKX(P:Program)(Q:Exit->Act->World->Prop)(j:Option Code)(a:Act)(w:World):Prop:=
 match j with
 |none=>Q .normal a w
 |some c=>c.wpIn (FW none) 0 P Q a w
theorem aBx{fr:aR}{Os Vs cz:aH}{ι:Map}{cc:Nat->Option Obj}{a:Act}{w:World}{g:Operand}{gf:FuncId}{ca:aj}{ps:Array Tmp}{iM eT:Code}{j:Option Code}{Q:Exit->Act->World->Prop}
  (hf:fp B ι (bH fr) N a) (hm:aO B ι cc w) (hL:cV cc (Os++Vs)) (hu:eM cc next) (dO:∀ k x,ah Os k=some x->x.owns=true) (pq:∀ k x,ah Vs k=some x->x.gw=true)
  (hg:gk (bH fr) g=.func (.func gf) #[] ca.toArray) (aKY:MH g=true) (eQ:gz P gf=true)
  (j4:∀ k,ah cz k=none↔ah Os k=none) (qY:∀ k x,ah cz k=some x->x.owns=true) (dr:∀ k x,ah (cz++Vs) k=some x->eA next x)
  (yN:∀(fB l D:Nat) (W1:World) (S:Nat->Prop),OQ P next N fr Os ι S a.tmps->∀(κ:Map) (c:Nat->Option Obj) (W:World) (fe:aj),aO (pJ W1 l S ι) κ c W->cV c ((next,.fact (fA l (j8 fB a.tmps ps iM eT D)))::(Os++Vs))->eM c (next+1)->bL (aG κ) ca fe->Calls P gf (.func (.yield l) #[] #[]::fe).toArray W λe W'=>∃ v tL c',e=.returned v/\Map.le κ tL/\aO (pJ W1 l S ι) tL c' W'/\cV c' ((next,.fact (fA l (Dr (j8 fB a.tmps ps iM eT D) j)))::(cz++Vs))/\∀ k,k<next->c k=none->c' k=none)
  (hQ:∀ D bZ w',(∀ k,B.cR k->k≠D)->w.heap.size<=D->fp (B.held D) ι (bH fr) N { a with defers:=FF D::a.defers }->aO (B.held D) ι bZ w'->cV bZ (cz++Vs)->eM bZ next->aKX P Q j { a with defers:=FF D::a.defers } w'):(Code.rangeFunc g ps iM eT).wpIn (FW none) 0 P Q a w:=by
 have hO:cV cc Os:=λk x e=>hL k x (by rw[gZ,e]);have OO:∀ k x,ah (Os++Vs) k=some x->x.owns=true->ah Os k=some x:=λk x e hx=>by
  rw[gZ]at e;cases e1:ah Os k with
  |some y=>rw[e1]at e;exact e
  |none=>
   rw[e1]at e;have:=pq k x e;cases x<;>simp[Obj.owns,Obj.gw]at hx this
 have aBy:∀ k F,ah (Os++Vs) k≠some (.fact F):=λk F e=>by
  rw[gZ]at e;cases e1:ah Os k with
  |some y=>rw[e1]at e;injection e with e;subst e;have:=dO k _ e1;cases this
  |none=>rw[e1]at e;have:=pq k _ e;cases this
 have aKZ:∀ k lc,ι k=some lc->k<next:=λk lc e=>by
  rcases eL k next with h|h
  ·exact h
  ·rw[hm.du k (hu k h)]at e;cases e
 have EJ:=Yw hf aKY (by rw[hg];rfl);rw[hg]at EJ;obtain⟨kv,fe,he,h1,h2⟩:=EJ.Co;have ef:kv=#[]:=by
  cases ko:kv.toList with
  |nil=>exact H8.1 ko
  |cons _ _=>rw[ko]at h1;cases h1
 subst ef;refine wpIn_rangeFunc ?_;intro fB _;obtain⟨W1,KP⟩:∃ W1,(w.alloc (.deferred (some []))).alloc (.loop (j8 fB a.tmps ps iM eT w.heap.size))=W1:=⟨_,rfl⟩;have CT:=run_enterLoop_outer (P:=P) (w:=w) fB a.tmps ps iM eT;rw[show({ state:=.ready,pending:=none,fn:=fB,tmps:=a.tmps,params:=ps,assign:=iM,body:=eT,defers:=w.heap.size }:Loop)=j8 fB a.tmps ps iM eT w.heap.size from rfl,KP]at CT;have mR:Below w.heap.size w W1:=by rw[<-KP];exact((Below.refl _ w).alloc (bt _) _).alloc s_ _
 have aBz:W1.heap.size=w.heap.size+2:=by rw[<-KP];simp
 have hL1:W1.heap[w.heap.size+1]?=some (.loop (j8 fB a.tmps ps iM eT w.heap.size)):=by rw[<-KP];have:=World.alloc_heap_new (w.alloc (.deferred (some []))) (.loop (j8 fB a.tmps ps iM eT w.heap.size));rwa[World.size_alloc]at this
 have hK1:W1.heap[w.heap.size]?=some (.deferred (some [])):=by rw[<-KP];exact(RJ _ _ _ s_).trans (World.alloc_heap_new w _)
 obtain⟨S,hS⟩:∃ S:Nat->Prop,∀ b,S b↔∃ k x o cap,ah Os k=some x/\ι k=some (.at b o cap):=⟨_,λb=>Iff.rfl⟩;have Uz:∀ b,S b->b<w.heap.size/\¬B.cR b:=λb hb=>by obtain⟨k,x,o,cap,e1,e2⟩:=(hS b).1 hb;exact hm.own k x b o cap (hO k x e1) (dO k x e1) e2
 have aBA:∀ k x,ah (Os++Vs) k=some x->∃ lc,ι k=some lc:=λk x e=>by obtain⟨lc,q,_⟩:=hm.born k x (hL k x e);exact⟨lc,q⟩
 refine⟨w.heap.size+1,[{ target:=.collected w.heap.size,args:=#[]}],W1,{ target:=.fn (.func gf) fe,args:=#[.func (.yield (w.heap.size+1)) #[] #[]]},W1,gf,#[.func (.yield (w.heap.size+1)) #[] #[]]++fe,W1,CT,?_,λ_ _=>trivial,?_,λe=>(by cases e),?_⟩
 ·simp only[resolve,he];simp[go_sem]
 ·have:=ML (P:=P) eQ (#[.func (.yield (w.heap.size+1)) #[] #[]]++fe) W1;simpa[invoke,go_sem]using this
 ·have hmW:=hm.call mR
  -- the aVG memory
  have c7:aO (pJ W1 (w.heap.size+1) S ι) ι (λk=>match ah (Os++Vs) k with|some x=>some x|none=>(cc k).map λ_=>.dead) W1:=by
   refine OG (L:=Os++Vs) hmW hL (λ_ _ _=>rfl) (λk x lc _ _ h=>h) ⟨.refl _,rfl,rfl,bt _,λ_ _ _ _=>rfl⟩ (λk x b o cap e hx hl hF=>?_) (bt _) (λk e=>?_) (λk x e=>?_) (λk F e=>absurd e (aBy k F)) (λ_ _ _ _ _ _ h=>h) (Map.le.refl _)
   ·exact hF.2.1 ((hS b).2 ⟨k,x,o,cap,OO k x e hx,hl⟩)
   ·split at e
    ·cases e
    ·cases hc:cc k with
     |none=>exact hm.du k hc
     |some y=>rw[hc]at e;cases e
   ·split at e
    ·rename_i y hy;injection e with e;subst e;exact .inl hy
    ·cases hc:cc k with
     |none=>rw[hc]at e;cases e
     |some y=>
      rw[hc]at e;injection e with e;obtain⟨lc,q,_⟩:=hm.born k y hc;exact .inr ⟨e.symm,lc,q⟩
  generalize gA:(λk=>match ah (Os++Vs) k with|some x=>some x|none=>(cc k).map λ_=>Obj.dead:Nat->Option Obj)=c1 at c7;have KQ:ah (Os++Vs) next=none:=by
   cases e:ah (Os++Vs) next with
   |none=>rfl
   |some x=>have:=hL _ _ e;rw[hu next (bt _)]at this;cases this
  have aBB:∀ k,next<=k->c1 k=none:=λk hk=>by
   rw[<-gA];have:ah (Os++Vs) k=none:=by
    cases e:ah (Os++Vs) k with
    |none=>rfl
    |some x=>have:=hL _ _ e;rw[hu k hk]at this;cases this
   simp only[this,hu k hk,aBC]
  have aK0:∀ k x,ah (Os++Vs) k=some x->c1 k=some x:=λk x e=>by rw[<-gA];simp only[e]
  have aK1:∀ k F,c1 k≠some (.fact F):=λk F e=>by
   rw[<-gA]at e;dsimp only at e;split at e
   ·rename_i y hy;injection e with e;subst e;exact aBy k F hy
   ·cases hc:cc k with
    |none=>rw[hc]at e;cases e
    |some y=>rw[hc]at e;cases e
  have dC:=c7.add (k:=next) (x:=.fact (fA (w.heap.size+1) (j8 fB a.tmps ps iM eT w.heap.size))) (l:=.val undef) (aBB next (bt _)) ⟨undef,rfl,hL1⟩ n_
   (λF v b e _ hF jj y o' aQ hj hy hl=>by
    injection e with e;subst e;have hF:b=w.heap.size+1:=hF;obtain⟨q1,q2⟩:=c7.own jj y b o' aQ hj hy hl;have:∃ lc,ι jj=some lc:=⟨_,hl⟩;have fT:b<w.heap.size:=by
     refine(Uz b ?_).1;have pK:=hj;rw[<-gA]at pK;dsimp only at pK;split at pK
     ·rename_i z hz;injection pK with pK;subst pK;exact(hS b).2 ⟨jj,z,o',aQ,OO jj z hz hy,hl⟩
     ·cases hc:cc jj with
      |none=>rw[hc]at pK;cases pK
      |some z=>rw[hc]at pK;injection pK with pK;subst pK;cases hy
    omega)
   n_ (λF e _=>⟨by injection e with e;exact⟨_,e.symm⟩,λjj F' hj=>absurd hj (aK1 jj F')⟩)
  have lk:Map.le ι (dG ι next (.val undef)):=gN (hm.du next (hu next (bt _)));have kF:OQ P next N fr Os ι S a.tmps:=⟨hf.size,hf.slot,aKZ,hS,λk x e h=>by obtain⟨lc,q⟩:=aBA k x (by rw[gZ,e]);rw[h]at q;cases q⟩
  have iR:=yN fB (w.heap.size+1) w.heap.size W1 S kF (dG ι next (.val undef)) (aZ c1 next (.fact (fA (w.heap.size+1) (j8 fB a.tmps ps iM eT w.heap.size)))) W1 fe.toList dC
   (λk x e=>by
    unfold aZ;by_cases hk:k=next
    ·subst hk;rw[ax rfl];have:ah ((k,Obj.fact (fA (w.heap.size+1) (j8 fB a.tmps ps iM eT w.heap.size)))::(Os++Vs)) k=some (.fact (fA (w.heap.size+1) (j8 fB a.tmps ps iM eT w.heap.size))):=by show(if Nat.beq k k then _ else _)=_;simp
     rw[this]at e;exact e
    ·rw[au hk];have:ah ((next,Obj.fact (fA (w.heap.size+1) (j8 fB a.tmps ps iM eT w.heap.size)))::(Os++Vs)) k=ah (Os++Vs) k:=by show(if Nat.beq next k then _ else _)=_;rw[ou (mP hk)];rfl
     rw[this]at e;exact aK0 k x e)
   (λk hk=>by unfold aZ;rw[au o_];exact aBB k o_) (by
    have:bL (aG ι) ca fe.toList:=by simpa using h2
    exact oe lk this)
  have aK2:(.func (.yield (w.heap.size+1)) #[] #[]::fe.toList:aj).toArray=#[.func (.yield (w.heap.size+1)) #[] #[]]++fe:=by apply GQ;simp
  rw[aK2]at iR;refine MM.2 (iR.mono ?_)
  rintro e W2 ⟨v,tL,c',rfl,uu,bj,jd,gO⟩
  have OH:c' next=some (.fact (fA (w.heap.size+1) (Dr (j8 fB a.tmps ps iM eT w.heap.size) j))):=jd next _ (by show(if Nat.beq next next then _ else _)=_;simp);have hO2:ah Os next=none:=by
   rw[gZ]at KQ;cases e:ah Os next with
   |none=>rfl
   |some x=>rw[e]at KQ;cases KQ
  have hV2:ah Vs next=none:=by rw[gZ,hO2]at KQ;exact KQ
  have aK3:ah (cz++Vs) next=none:=by rw[gZ,(j4 next).2 hO2];exact hV2
  have iA:cV c' (cz++Vs):=λk x e=>jd k x (by
   by_cases hk:k=next
   ·subst hk;rw[aK3]at e;cases e
   ·show(if Nat.beq next k then _ else _)=_;rw[ou (mP hk)];exact e)
  have uV:=run_endLoop (P:=P) (BK bj OH) (by cases j<;>simp[Dr]);refine⟨j,_,uV,?_⟩
  -- the marks of the list
  have UA:∀ k x,ah (cz++Vs) k=some x->∃ y,ah (Os++Vs) k=some y/\(x.owns=true->y.owns=true/\ah Os k=some y):=λk x e=>by
   rw[gZ]at e;cases e1:ah cz k with
   |some z=>
    cases e2:ah Os k with
    |none=>rw[(j4 k).2 e2]at e1;cases e1
    |some y=>exact⟨y,by rw[gZ,e2],λ_=>⟨dO k y e2,rfl⟩⟩
   |none=>
    rw[e1]at e;have e2:=(j4 k).1 e1;refine⟨x,by rw[gZ,e2];exact e,λhx=>?_⟩;have:=pq k x e;cases x<;>simp[Obj.owns,Obj.gw]at hx this
  have aBD:∀ k x,ah (cz++Vs) k=some x->ι k=tL k:=λk x e=>by obtain⟨y,e1,_⟩:=UA k x e;obtain⟨lc,q⟩:=aBA k y e1;rw[q,uu k lc (lk k lc q)]
  have aK4:∀ k,k<next->∀ lc,tL k=some lc->ι k=some lc:=λk hk lc e=>by
   cases q:ι k with
   |some zv=>have:=uu k zv (lk k zv q);rw[e]at this;exact this.symm
   |none=>
    exfalso;have zw:cc k=none:=by
     cases hc:cc k with
     |none=>rfl
     |some y=>obtain⟨zv,q',_⟩:=hm.born k y hc;rw[q]at q';cases q'
    have vB:ah (Os++Vs) k=none:=by
     cases e1:ah (Os++Vs) k with
     |none=>rfl
     |some y=>rw[hL k y e1]at zw;cases zw
    have:c' k=none:=gO k hk (by unfold aZ;rw[au o_,<-gA];simp only[vB,zw,aBC])
    rw[bj.du k this]at e;cases e
  have tK:=OD (BK bj OH);have hDS:¬S w.heap.size:=λh=>by have:=(Uz _ h).1;omega
  have aBE:∀ b,b<w.heap.size+2->¬S b->b≠w.heap.size+1->W2.heap[b]?=W1.heap[b]?:=λb hb hs hl=>bj.base.2.2.2.2 b (by rw[aBz];exact hb) hs hl;have aVH:w.heap.size+2<=W2.heap.size:=by rw[<-aBz];exact bj.base.2.2.2.1
  have UB:∀(o:Go.Obj) b,b≠w.heap.size+1->(W2.putObj (w.heap.size+1) o).heap[b]?=W2.heap[b]?:=λo b hb=>aBq hb;have H9:∀ k,B.cR k->k≠w.heap.size:=λk hk=>by have:=B.lt w k hm.base hk;omega
  have aBF:∀ k F,ah (cz++Vs) k≠some (.fact F):=λk F e=>by
   rw[gZ]at e;cases e1:ah cz k with
   |some y=>rw[e1]at e;injection e with e;subst e;have:=qY k _ e1;cases this
   |none=>rw[e1]at e;have:=pq k _ e;cases this
  have yD:∀ o:Go.Obj,aO (B.held w.heap.size) ι (λk=>match ah (cz++Vs) k with|some x=>some x|none=>(cc k).map λ_=>.dead) (W2.putObj (w.heap.size+1) o):=λo=>by
   refine OG (L:=cz++Vs) bj iA aBD (λk x lc e q ho=>?_) ⟨?_,?_⟩ (λk x b oo cap e hx hl hF=>?_) (by rw[vP];exact bt _) (λk e=>?_) (λk x e=>?_) (λk F e=>absurd e (aBF k F)) (λk F _ _ e=>absurd e (aBF k F)) hm.oL
   ·have oh:∀ F,x≠.fact F:=λF ex=>by
     subst ex;rw[gZ]at e;cases e1:ah cz k with
     |some y=>rw[e1]at e;injection e with e;subst e;have:=qY k _ e1;cases this
     |none=>rw[e1]at e;have:=pq k _ e;cases this
    exact OE tK (ho.below aK4 (dr k x e)) (λF ef=>absurd ef (oh F)) (by rw[vP];exact bt _) (λb _ _ _ _=>(Nat.decEq b (w.heap.size+1)).casesOn (λhb=>.inr (UB o b hb)) λhb=>.inl hb) λF v b ef=>absurd ef (oh F)
   ·refine B.dep w _ hm.base ?_ ?_ ?_ ?_ λk hk=>?_
    ·exact bj.base.1.trans mR.os
    ·exact bj.base.2.1.trans mR.tape
    ·exact bj.base.2.2.1.trans mR.output
    ·rw[vP];omega
    ·have hkl:=B.lt w k hm.base hk;rw[UB o k o_,aBE k o_ (λhs=>(Uz k hs).2 hk) o_];exact mR.block k hkl
   ·rw[UB o _ o_,aBE _ o_ hDS o_];exact hK1
   ·obtain⟨y,e1,e2⟩:=UA k x e;obtain⟨hy,e3⟩:=e2 hx;have cv:ι k=some (.at b oo cap):=(aBD k x e).trans hl;have q:=hm.own k y b oo cap (hO k y e3) hy cv;rcases hF with hF|rfl
    ·exact q.2 hF
    ·omega
   ·split at e
    ·cases e
    ·cases hc:cc k with
     |none=>exact hm.du k hc
     |some y=>rw[hc]at e;cases e
   ·split at e
    ·rename_i y hy;injection e with e;subst e;exact .inl hy
    ·cases hc:cc k with
     |none=>rw[hc]at e;cases e
     |some y=>
      rw[hc]at e;injection e with e;obtain⟨lc,q,_⟩:=hm.born k y hc;exact .inr ⟨e.symm,lc,q⟩
  have fin:=hQ w.heap.size _ _ H9 (bt _) ⟨by show FF _::a.defers=FF _::B.ds;rw[hf.defers],hf.size,hf.slot⟩ (yD (.loop { Dr (j8 fB a.tmps ps iM eT w.heap.size) j with state:=.exhausted })) (λk x e=>by simp only[e]) (λk hk=>by
   have:ah (cz++Vs) k=none:=by
    cases e:ah (cz++Vs) k with
    |none=>rfl
    |some x=>obtain⟨y,e1,_⟩:=UA k x e;have:=hL _ _ e1;rw[hu k hk]at this;cases this
   simp only[this,hu k hk,aBC])
  cases j with
  |none=>exact fin
  |some cj=>exact fin
theorem aBG{D:Nat}{ι:Map}{c:Nat->Option Obj}{W:World}(h:aO (B.held D) ι c W)(oh:∀ F,¬B.Fa F)(hD:∀ k,B.cR k->k≠D):aO B ι c (W.putObj D (.deferred none)):=by
 have tK:=aKO h.base.2;have ne:∀ b,b≠D->(W.putObj D (.deferred none)).heap[b]?=W.heap[b]?:=λb hb=>aBq hb;refine⟨B.dep W _ h.base.1 ⟨rfl,bt _⟩ rfl rfl (by rw[vP];exact bt _) λk hk=>ne k (hD k hk),h.du,?_,?_,h.inj,?_,?_,h.fa,h.one,h.oL⟩
 ·intro k x hk;obtain⟨l,q1,q2⟩:=h.born k x hk;refine⟨l,q1,OE tK q2 (λF e=>?_) (by rw[vP];exact bt _) (λb _ _ _ _=>(Nat.decEq b D).casesOn (λhb=>.inr (ne b hb)) λhb=>.inl hb) λF v b _ _ _=>(Nat.decEq b D).casesOn (λhb=>.inr (ne b hb)) λhb=>.inl hb⟩;subst e;cases hr:F.rc with
  |false=>rfl
  |true=>exact absurd (h.fa k F hk hr) (oh F)
 ·intro k x b o cap hk hx hl;rw[vP];exact⟨(h.own k x b o cap hk hx hl).1,λhF=>(h.own k x b o cap hk hx hl).2 (.inl hF)⟩
 ·intro k j x F b o cap v hk hx hl hj hv hF;obtain⟨lc,q1,v',q2,q3⟩:=h.born j _ hj;rw[hv]at q1;injection q1 with q1;subst q1;injection q2 with q2;subst q2;have hr:F.rc=false:=by
   cases hr:F.rc with
   |false=>rfl
   |true=>exact absurd (h.fa j F hj hr) (oh F)
  refine h.apart k j x F b o cap v hk hx hl hj hv ((F.soft hr v W _ q3 (by rw[vP];exact bt _) λk2 fN cs ty f hc=>?_).2 b hF);rw[ne k2 (λe=>by subst e;exact tK _ _ _ hc)];exact hc
 ·intro k x b o cap hk hx hl;rw[vP];exact h.seen k x b o cap hk hx hl
theorem aK5{D:Nat}{fn:Func}{c:Code}{fr:aR}{M:aH}{r:mz}{v:Value}{R:Ending->World->Prop}(uK:∀ B,ag P B N c fr M next r)(hex:(match r.ex with|.exit _=>false|_=>true)=true)(hv:A7 P fn r.fr r.M=some v)
  {ι:Map} {cc:Nat->Option Obj} {a:Act} {w:World} (hf:fp (B.held D) ι (bH fr) N a) (hm:aO (B.held D) ι cc w) (ha:cV cc M) (hu:eM cc next) (mU:B.ds=[]) (oh:∀ F,¬B.Fa F) (hD:∀ k,B.cR k->k≠D)
  (hR:∀ aw v' w',aG aw v v'->B.G w'->R (.returned v') w'):c.wpIn (FW none) 0 P (bodyPostM (FW none) 0 P fn R) a w:=by
 refine uK _ none ι cc a w _ hf hm ha hu λaw bZ a' w' hle uD bj jd _ _ _=>?_;have dC:=aBG bj oh hD;obtain⟨v',hc,pY⟩:=M6 (fn:=fn) (B:=B) (N:=N) (a:={ a' with defers:=[]}) ⟨mU.symm,uD.size,uD.slot⟩ dC jd hv;have hl:LeavesInM (FW none) 0 P fn a'.tmps R a'.defers .returning w':=by rw[uD.defers];show LeavesInM (FW none) 0 P fn a'.tmps R (FF D::B.ds) .returning w';rw[mU];exact⟨λe=>(by cases e),.inl ⟨D,_,rfl,run_takeDeferred bj.base.2,v',pY,hR aw v' _ hc dC.base⟩⟩
 cases hx:r.ex with
 |normal=>exact hl
 |ret=>exact hl
 |exit id=>rw[hx]at hex;cases hex
end
def zx:Code->Nat->Option Code
 |.region i ops d,k=>if Nat.beq i k then some (.region i ops d)else none
 |.seq x y,k=>match zx x k with|some o=>some o|none=>zx y k
 |.cond _ x y,k=>match zx x k with|some o=>some o|none=>zx y k
 |.block _ b,k=>zx b k
 |.loop b,k=>zx b k
 |.scope b,k=>zx b k
 |.rangeFunc _ _ x y,k=>match zx x k with|some o=>some o|none=>zx y k
 |_,_=>none
def KR(fn:Func)(k:Nat):Code:=match fn.body with|some c=>(match zx c k with|some o=>o|none=>.skip)|none=>.skip
def Ds:Code->Option Code
 |.seq x y=>match Ds x with|some o=>some o|none=>Ds y
 |.cond _ x y=>match Ds x with|some o=>some o|none=>Ds y
 |.block _ b=>Ds b
 |.loop b=>Ds b
 |.scope b=>Ds b
 |.rangeFunc g p x y=>some (.rangeFunc g p x y)
 |_=>none
def vS(fn:Func):Code:=match fn.body with|some c=>(match Ds c with|some o=>o|none=>.skip)|none=>.skip
def Ia:Code->Code|.rangeFunc _ _ x _=>x|c=>c
def Ib:Code->Code|.rangeFunc _ _ _ y=>y|c=>c
def bY(k:Nat):Value:=.pointer (some ⟨k,0,some 7⟩)
section
variable{P:Program}{B:aa}{N next:Nat}
theorem nW{L:aH}{p:Nat×Obj->Bool}(h:L.all p=true){k:Nat}{x:Obj}(hk:ah L k=some x):p (k,x)=true:=bh.1 h _ (kj hk)
theorem UC:∀{L:aH} {k:Nat},ah L k=none↔k∉L.map (·.1)
 |[],k=>by simp[ah]
 |(j,x)::L,k=>by
  by_cases h:j=k
  ·subst h;simp[ah]
  ·have e:ah ((j,x)::L) k=ah L k:=by show(if Nat.beq j k then _ else _)=_;rw[ou h];rfl
   rw[e,UC];simp[mP h]
theorem Ic{L L':aH}(h:L'.map (·.1)=L.map (·.1))(k:Nat):ah L' k=none↔ah L k=none:=by rw[UC,UC,h]
def oE(next:Nat)(p:Nat×Obj):Bool:=p.2.cells.all (nM next)
theorem Dt{next:Nat}{p:Nat×Obj}(h:oE next p=true):eA next p.2:=λv hv=>bh.1 h v hv
theorem OR{ps:Array Tmp}{iM eT:Code}{fr:aR}{Os Vs cz:aH}{eF:aj}{j:Option Code}(cQ:eF.all flat=true)(hlen:eF.length=ps.size)(yL:(ps.toList.all λp=>Nat.blt p N)=true)
  (dr:((Os++Vs).all λp=>Nat.blt p.1 next&&oE (next+1) p)=true) (FG:(cz.all (oE (next+1)))=true) (dO:(Os.all λp=>p.2.owns)=true) (qY:(cz.all λp=>p.2.owns)=true) (pq:(Vs.all λp=>p.2.gw)=true) (j4:cz.map (·.1)=Os.map (·.1))
  {rA rB:mz} (hA:∀ B,ag P B N iM (OI (ps.toList.zip eF) fr) (Os++Vs) (next+1) rA) (Uw:rA.ex=.normal) (hAn:Nat.ble (next+1) rA.next=true) (ON:ah rA.M next=none)
  (hB:∀ B,ag P B N eT rA.fr rA.M rA.next rB) (Ux:∀ k x,ah cz k=some x->ah rB.M k=some x) (Uy:exJ rB.ex=j):OL P next N ps iM eT fr Os Vs cz eF j where
 flat:=bh.1 cQ
 len:=hlen
 jL p hp:=by have:=bh.1 yL p (by simpa using hp);simpa[A1]using this
 low k x h:=by have:=nW dr h;simp only[de,A1]at this;exact⟨this.1,Dt this.2⟩
 aBt k x h:=Dt (nW FG h)
 own k x h:=nW dO h
 aBu k x h:=nW qY h
 view k x h:=nW pq h
 keys:=Ic j4
 run:=⟨rA,rB,hA,Uw,rN hAn,ON,hB,Ux,Uy⟩
theorem aK6{fn:Func}{args args':aj}{ι:Map}(dj:bL (aG ι) args args')(hN:N=args.length+(fn.ntmps-args.length))(mU:B.ds=[]):
  fp B ι (bH (jL 0 args)) N { tmps:=args'.toArray++Array.replicate (fn.ntmps-args'.toArray.size) undef,defers:=[]}:=by
 refine⟨mU.symm,by simp[hN,dj.length],λt=>?_⟩;rcases M7 dj 0 t (List.replicate (fn.ntmps-args'.length) undef)with h|h
 ·simp only[lh,qG,GY]at h;have e:(args'.toArray++Array.replicate (fn.ntmps-args'.toArray.size) undef).getD t undef=(args'++List.replicate (fn.ntmps-args'.length) undef).getD t undef:=by simp[qc,EC,<-Array.getElem?_toList]
  dsimp only;rw[e];exact h
 ·exact .inl h
theorem aBH{D:Nat}{fn:Func}{fr:aR}{M:aH}{v:Value}{R:Ending->World->Prop}(hv:A7 P fn fr M=some v)
  {ι:Map} {cc:Nat->Option Obj} {a:Act} {w:World} (hf:fp (B.held D) ι (bH fr) N a) (hm:aO (B.held D) ι cc w) (ha:cV cc M) (mU:B.ds=[]) (oh:∀ F,¬B.Fa F) (hD:∀ k,B.cR k->k≠D)
  (hR:∀ aw v' w',aG aw v v'->B.G w'->R (.returned v') w'):LeavesInM (FW none) 0 P fn a.tmps R a.defers .returning w:=by
 have dC:=aBG hm oh hD;obtain⟨v',hc,pY⟩:=M6 (fn:=fn) (B:=B) (N:=N) (a:={ a with defers:=[]}) ⟨mU.symm,hf.size,hf.slot⟩ dC ha hv;rw[hf.defers];show LeavesInM (FW none) 0 P fn a.tmps R (FF D::B.ds) .returning w;rw[mU];exact⟨λe=>(by cases e),.inl ⟨D,_,rfl,run_takeDeferred hm.base.2,v',pY,hR ι v' _ hc dC.base⟩⟩
theorem aBI{f:FuncId}{fn:Func}{c:Code}{args:aj}{v:Value}(hf:P.funcs[f]?=some fn)(hb:fn.body=some c)(hN:N=args.length+(fn.ntmps-args.length))(dj:args.all flat=true)
  (h:∀ w a,fp (aa.at w) (λ_=>none) (bH (jL 0 args)) N a->aO (aa.at w) (λ_=>none) (λ_=>none) w->c.wpIn (FW none) 0 P (bodyPostM (FW none) 0 P fn λe w'=>e=.returned v/\Below w.heap.size w w') a w):aE P f args v:=by
 intro w;rw[bh]at dj;exact MM.1 (callsIn_of_wp_marks (F:=FW none) (n:=0) hf hb trivial (h w _ (aK6 (kx dj) hN rfl) (qP w)))
theorem aBJ{f gf:FuncId}{fn:Func}{args:aj}{cells:aj}{ty:TypeId}{o:Oper}{x:Operand}{k:Nat}(gF:P.follows .mixedOrders=true)(hf:P.funcs[f]?=some fn)(ho:dx o.op=some x)(eQ:gz P f=true)(n:Nat)
  (rs:∀ w,bI P (aa.at w) (args.length+(fn.ntmps-args.length)))
  (h:∀ w,nN (fW (P:=P) fn n args [] 0 (rs w)) [(0,.aI cells ty)]=nO (fW fn n args [] 0 (rs w)) (.func (.func gf) #[] #[.pointer (some ⟨0,0,some 7⟩)]) [(0,.aI cells ty)]) (dj:args.all flat=true) (cQ:cells.all flat=true) :
  cD P B o (.func (.func f) #[] #[]::args) [(k,none)] (.func (.func gf) #[] #[.pointer (some ⟨k,0,some 7⟩)]) [(k,.aI cells ty)]:=by
 have:=jM (P:=P) (B:=B) (o:=o) (x:=x) (f:=f) (fi:=[]) (args:=args) (ca:=[]) (need:=[(k,none)]) (val:=.func (.func gf) #[] #[.pointer (some ⟨k,0,some 7⟩)]) (cU:=[(k,.aI cells ty)]) ho eQ ?_
 ·simpa using this
 ·intro ι c w hm hn args' ha;have hk:c k=none:=hn (k,none) (aU ..);rw[bh]at dj cQ;have e:args'=args:=nJ (by simpa using ha) dj;subst e;refine rY gF hf rfl n (h w) (kx dj) (qP w) n_ (λ_ _=>rfl) λaw bZ v' w' _ hc bj dE=>?_;obtain⟨kv,fe,rfl,h1,h2⟩:=hc.Co;have h0:bZ 0=some (.aI cells ty):=dE (0,_) (aU ..);obtain⟨l,q1,b,bA,rfl,q2,q3⟩:=bj.born 0 _ h0;obtain⟨q4,q5⟩:=bj.own 0 _ b 0 0 h0 rfl q1;have hbn:w.heap.size<=b:=OS q5;have ec:bA=cells:=nJ q2 cQ;subst ec;have ef:kv=#[]:=by
   cases ko:kv.toList with
   |nil=>exact H8.1 ko
   |cons _ _=>rw[ko]at h1;cases h1
  subst ef;have iq:fe.toList=[.pointer (some ⟨b,0,none⟩)]:=by
   have h2:bL (aG aw) [.pointer (some ⟨0,0,some 7⟩)] fe.toList:=h2;generalize fe.toList=l at h2;cases h2 with
   |cons p q=>
    cases q;obtain⟨b',o',aQ,e1,e2⟩:=p.yB rfl;rw[q1]at e1;injection e1 with e1;injection e1 with e1 e3 _;subst e1;subst e3;rw[e2];simp
  have dC:=hm.new (k:=k) (x:=.aI bA ty) (l:=.at b 0 0) bj.base hk ⟨b,bA,rfl,kx cQ,q3⟩ (λb' o' aQ _ e=>by injection e with e _ _;subst e;exact⟨hbn,q4⟩) n_ rfl;refine⟨dG ι k (.at b 0 0),_,rfl,gN (hm.du k hk),?_,dC⟩;refine .fn .nil ?_;rw[iq];exact .cons (.ptr (fK _ _ _)) .nil
theorem FH{gf:FuncId}{OT:Func}{ca:aj}{W1 W:World}{l:Nat}{S:Nat->Prop}{m κ:Map}{c:Nat->Option Obj}{fe:aj}{M M':aH}{v:Value}(gF:P.follows .mixedOrders=true)(hf:P.funcs[gf]?=some OT)
  (hN:N=(ca.length+1)+(OT.ntmps-(ca.length+1))) (n:Nat) {rs:bI P (pJ W1 l S m) N} (hm:aO (pJ W1 l S m) κ c W) (ha:cV c M) (hu:eM c (next+1)) (iq:bL (aG κ) ca fe)
  (h:nN (fW (P:=P) OT n (.func (.yield l) #[] #[]::ca) M (next+1) rs) M'=nO (fW OT n (.func (.yield l) #[] #[]::ca) M (next+1) rs) v M') :
  Calls P gf (.func (.yield l) #[] #[]::fe).toArray W λe W'=>∃ v tL c',e=.returned v/\Map.le κ tL/\aO (pJ W1 l S m) tL c' W'/\cV c' M'/\∀ k,k<next->c k=none->c' k=none:=by
 refine Sw gF hf (by simpa using hN) n h (.cons (.same rfl) iq) hm ha hu λaw bZ v' w' hle hc bj dE hk=>⟨v',aw,bZ,rfl,hle,bj,λk x e=>dE (k,x) (kj e),λk gO zw=>?_⟩;rw[hk k o_ (by
  cases e:ah M k with
  |none=>rfl
  |some x=>rw[ha k x e]at zw;cases zw)]
 exact zw
end
end Go.Proofs.YtjjefbkbljlgdaaGreatDoor
