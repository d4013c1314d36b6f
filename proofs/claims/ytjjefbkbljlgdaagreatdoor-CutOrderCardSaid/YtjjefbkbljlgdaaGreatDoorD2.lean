/- Two cuts in either order: the proof of CutOrderCardSaid (the law's function answers true at every set it can be given; theorem cutOrder_card, last part), part 2 of 7; no condition. -/
import Derived.Test.YtjjefbkbljlgdaaGreatDoorD1
namespace Go.Proofs.YtjjefbkbljlgdaaGreatDoor
open Go Go.RowKit Tryz
section
variable{P:Program}{B:aa}{N:Nat}
theorem jv.aIh{uy bM dC:Map}{w0 w1:World}{l:o9}{x:Obj}(h0:jv uy w0 l x)(h1:jv bM w1 l x)(vy:Map.le uy bM)(EU:Map.le uy dC):jv dC w1 l x:=by
 cases x with
 |aI cells ty=>
  obtain⟨b,cs,e1,e2,_⟩:=h0;obtain⟨b',bt,CH,Cw,Cx⟩:=h1;rw[ED Cw (nR vy e2)]at Cx;rw[e1]at CH;injection CH with CH _ _;subst CH;exact⟨b,cs,e1,nR EU e2,Cx⟩
 |row cells ty size=>
  rcases h0 with h0|⟨b,cap,cur,e1,e2,e3,e4,e5⟩
  ·exact .inl h0
  ·rcases h1 with h1|⟨b',aO,fN,CH,Cw,Cx,e4',e5'⟩
   ·exact .inl h1
   ·refine .inr ⟨b',aO,fN,CH,Cw,Cx,e4',?_⟩;rw[ED e5' (nR vy e5)];exact nR EU e5
 |view cells=>
  rcases h0 with h0|⟨b,o,cap,cs,e1,e2,e3⟩
  ·exact .inl h0
  ·rcases h1 with h1|⟨b',o',aO,bt,CH,Cw,Cx⟩
   ·exact .inl h1
   ·refine .inr ⟨b',o',aO,bt,CH,?_,Cx⟩;rw[ED Cw (nR vy e2)];exact nR EU e2
 |fact F=>exact h1
 |dead=>trivial
def lF(ι:Map)(next:Nat)(σ:List (Option Nat)):Map:=λk=>if k<next then ι k else match σ[k-next]? with
 |some (some m)=>ι m
 |some none=>some .nil
 |none=>none
def AY(c0:Nat->Option Obj)(next:Nat)(X:List Obj):Nat->Option Obj:=λk=>if k<next then c0 k else X[k-next]?
def marks:Nat->List Obj->aH
 |_,[]=>[]
 |k,x::l=>(k,x)::marks (k+1) l
def dP:List (Option Nat)->List Obj->aH
 |some m::σ,x::l=>(m,x)::dP σ l
 |none::σ,_::l=>dP σ l
 |_,_=>[]
def Obj.isNil:Obj->Bool
 |.row [] _ _=>true
 |.view []=>true
 |_=>false
def w7(next:Nat)(σ:List (Option Nat)):Value->Value
 |.slice (some ad) n c=>if Nat.ble next ad.block&&nh ad then(match σ[ad.block-next]? with
   |some (some m)=>.slice (some ⟨m,ad.off,some 7⟩) n c
   |some none=>.slice none 0 0
   |none=>.slice (some ad) n c)else .slice (some ad) n c
 |v=>v
def G4(next:Nat)(σ:List (Option Nat)):Value->Bool
 |.slice (some ad) n c=>if Nat.ble next ad.block&&nh ad then(match σ[ad.block-next]? with
   |some (some _)=>true
   |some none=>Nat.beq ad.off 0&&(Nat.beq n 0&&Nat.beq c 0)
   |none=>false)else nr next (.slice (some ad) n c)
 |v=>nr next v
def gR(next:Nat)(σ:List (Option Nat))(fr:aV):aV:=fr.map λp=>(p.1,w7 next σ p.2)
theorem JV{ι:Map}{next:Nat}{σ:List (Option Nat)}{k:Nat}(h:k<next):lF ι next σ k=ι k:=by unfold lF;rw[aw h]
theorem Sv{ι:Map}{next:Nat}{σ:List (Option Nat)}{j m:Nat}(h:σ[j]?=some (some m)):lF ι next σ (next+j)=ι m:=by unfold lF;rw[ao o_,EV,h]
theorem Zw{ι:Map}{next:Nat}{σ:List (Option Nat)}{j:Nat}(h:σ[j]?=some none):lF ι next σ (next+j)=some .nil:=by unfold lF;rw[ao o_,EV,h]
theorem Zx{ι:Map}{next:Nat}{σ:List (Option Nat)}{v v':Value}(ay:G4 next σ v=true)(h:aG ι (w7 next σ v) v'):aG (lF ι next σ) v v':=by
 have low:∀ k,k<next->∀ l,ι k=some l->lF ι next σ k=some l:=λk hk l e=>by rw[JV hk];exact e
 have gB:∀{v:Value},nr next v=true->aG ι v v'->aG (lF ι next σ) v v':=λhb h=>h.low low hb;cases v with
 |slice oa n c=>
  cases oa with
  |none=>exact gB ay h
  |some ad=>
   unfold G4 at ay;unfold w7 at h;dsimp only at ay h;split at ay
   ·rename_i hc;rw[aw hc]at h;simp only[db]at hc;have dM:=rm hc.1;obtain⟨j,hj⟩:∃ j,ad.block=next+j:=⟨ad.block-next,by omega⟩;have wW:ad.block-next=j:=by omega
    rw[wW]at ay h;have eta:=Cc hc.2;cases G6:σ[j]? with
    |none=>rw[G6]at ay;cases ay
    |some o=>
     cases o with
     |none=>
      rw[G6]at ay h;simp only[db]at ay;have h1:=j0 ay.1;have h2:=j0 ay.2.1;have h3:=j0 ay.2.2;rw[h.eR rfl,eta,h1,h2,h3,hj];exact .slcN (Zw G6)
     |some m=>
      rw[G6]at h;dsimp only at h;rw[eta,hj];rcases h.gW rfl with ⟨q1,q2,q3,q4,q5⟩|⟨b,o,cap,c',q1,q2,q3,q5⟩
      ·dsimp only at q1 q4;rw[q5,q2,q3,q4];exact .slcN (by rw[Sv G6];exact q1)
      ·dsimp only at q1 q5;rw[q5];exact .slc (by rw[Sv G6];exact q1) q2 q3
   ·rename_i hc;rw[ao hc]at h;exact gB ay h
 |_=>exact gB ay h
theorem Sw:∀(X:List Obj) (next k:Nat),ag (marks next X) k=if k<next then none else X[k-next]?
 |[],next,k=>by unfold marks ag;split<;>simp
 |x::X,next,k=>by
  unfold marks ag;by_cases h:next=k
  ·subst h;have:Nat.beq next next=true:=EA next;rw[aw this,ao (Nat.lt_irrefl _),ux];rfl
  ·rw[nW h];simp only[uz,uA];rw[Sw X (next+1) k];by_cases h2:k<next
   ·rw[aw o_,aw h2]
   ·rw[ao o_,ao h2];obtain⟨d,rfl⟩:∃ d,k=next+1+d:=⟨k-next-1,by omega⟩;rw[EV,show next+1+d-next=d+1 by omega];rfl
theorem Zy:∀{σ:List (Option Nat)} {X:List Obj} {j m:Nat} {x:Obj},σ[j]?=some (some m)->X[j]?=some x->(m,x)∈dP σ X
 |o::σ,y::X,0,m,x,h1,h2=>by simp at h1 h2;subst h1;subst h2;exact aT ..
 |o::σ,y::X,j+1,m,x,h1,h2=>by
  have:=Zy (σ:=σ) (X:=X) (j:=j) (by simpa using h1) (by simpa using h2);cases o with
  |none=>exact this
  |some q=>exact bB _ this
 |[],_,j,m,x,h1,_=>by simp at h1
 |_::_,[],j,m,x,_,h2=>by simp at h2
structure G7(M:aH)(next:Nat)(σ:List (Option Nat))(fr:aV)(F:aH)(X:List Obj):Prop where
 len:X.length=σ.length
 nodup:∀ i j m:Nat,σ[i]?=some (some m)->σ[j]?=some (some m)->i=j
 low:∀ i m:Nat,σ[i]?=some (some m)->m<next->ag F m=none/\ag M m≠none
 nil:∀(i:Nat) (x:Obj),σ[i]?=some none->X[i]?=some x->x.isNil=true
 jA:∀ p∈fr,G4 next σ p.2=true
 keys:∀ p∈F,p.1<next/\ag M p.1≠none
 aIi:∀ p∈F,fP next p.2
 news:∀ x∈X,fP next x
theorem rename{uy bM:Map}{c0 c1:Nat->Option Obj}{w0 w1:World}{M:aH}{next:Nat}{σ:List (Option Nat)}{fr:aV}{F:aH}{X:List Obj}(ok:G7 M next σ fr F X)
  (h0:aM B uy c0 w0) (CI:eD c0 next) (oF:cS c0 M) (vy:Map.le uy bM) (h1:aM B bM c1 w1) (hF:cS c1 F) (hX:∀ p∈dP σ X,c1 p.1=some p.2) (hk:∀ k,k<next->ag M k=none->c1 k=c0 k) :
  ∃ c2,Map.le uy (lF bM next σ)/\aM B (lF bM next σ) c2 w1/\cS c2 (F++marks next X)/\eD c2 (next+X.length)/\(∀ k,k<next->ag M k=none->c2 k=c0 k):=by
 have Sx:∀ k l,uy k=some l->k<next:=λk l e=>by
  rcases eC k next with h|h
  ·exact h
  ·rw[h0.dr k (CI k h)]at e;cases e
 have hle:Map.le uy (lF bM next σ):=λk l e=>by rw[JV (Sx k l e)];exact vy k l e
 have low:∀ k,k<next->∀ l,bM k=some l->lF bM next σ k=some l:=λk hk l e=>by rw[JV hk];exact e
 -- the objects
 let cl:Nat->Option Obj:=λk=>match ag F k with
  |some x=>some x
  |none=>match ag M k with
   |none=>c1 k
   |some _=>some .dead
 have iH:∀ k x,cl k=some x->(x=.dead/\ag M k≠none)\/(c1 k=some x/\(ag F k=some x\/(ag F k=none/\ag M k=none))):=by
  intro k x hx;have hx:(match ag F k with|some x=>some x|none=>match ag M k with|none=>c1 k|some _=>some Obj.dead)=some x:=hx;cases hf:ag F k with
  |some y=>rw[hf]at hx;injection hx with hx;subst hx;exact .inr ⟨hF k y hf,.inl rfl⟩
  |none=>
   rw[hf]at hx;dsimp only at hx;cases hm:ag M k with
   |none=>rw[hm]at hx;exact .inr ⟨hx,.inr ⟨rfl,rfl⟩⟩
   |some y=>rw[hm]at hx;injection hx with hx;exact .inl ⟨hx.symm,λe=>by cases e⟩
 have aIj:∀(j:Nat) (x:Obj),X[j]?=some x->(σ[j]?=some none/\x.isNil=true)\/∃ m,σ[j]?=some (some m)/\c1 m=some x:=by
  intro j x hx;have hj:j<σ.length:=by rw[<-ok.len];exact(eE.1 hx).1
  cases hs:σ[j]? with
  |none=>rw[Zz]at hs;omega
  |some o=>
   cases o with
   |none=>exact .inl ⟨rfl,ok.nil j x hs hx⟩
   |some m=>exact .inr ⟨m,rfl,hX _ (Zy hs hx)⟩
 -- where a mark that is not dead comes from
 have src:∀ k x,AY cl next X k=some x->(x=.dead/\k<next/\ag M k≠none)\/(x.isNil=true/\lF bM next σ k=some .nil/\¬k<next)\/
   ∃ m,c1 m=some x/\lF bM next σ k=bM m/\((k<next/\m=k/\(ag F k=some x\/(ag F k=none/\ag M k=none)))\/(¬k<next/\σ[k-next]?=some (some m)/\X[k-next]?=some x)):=by
  intro k x hx;unfold AY at hx;split at hx
  ·rename_i al;rcases iH k x hx with h|⟨h1,h2⟩
   ·exact .inl ⟨h.1,al,h.2⟩
   ·exact .inr (.inr ⟨k,h1,JV al,.inl ⟨al,rfl,h2⟩⟩)
  ·rename_i dM;obtain⟨j,rfl⟩:∃ j,k=next+j:=⟨k-next,by omega⟩;rw[EV]at hx ⊢;rcases aIj j x hx with ⟨h1,h2⟩|⟨m,h1,h2⟩
   ·exact .inr (.inl ⟨h2,Zw h1,dM⟩)
   ·exact .inr (.inr ⟨m,h2,Sv h1,.inr ⟨dM,h1,hx⟩⟩)
 have aUx:∀{x:Obj},x.isNil=true->∀ b o cap,lF bM next σ=lF bM next σ->(some o9.nil:Option o9)=some (.at b o cap)->False:=λ_ b o cap _ e=>by cases e
 -- an owner comes from an owner
 have own:∀ k x b o cap,AY cl next X k=some x->x.owns=true->lF bM next σ k=some (.at b o cap)->∃ m,c1 m=some x/\bM m=some (.at b o cap)/\((k<next/\m=k/\(ag F k=some x\/(ag F k=none/\ag M k=none)))\/(¬k<next/\σ[k-next]?=some (some m)/\X[k-next]?=some x)):=by
  intro k x b o cap hx ho hl;rcases src k x hx with ⟨rfl,_⟩|⟨_,h,_⟩|⟨m,h1,h2,h3⟩
  ·cases ho
  ·rw[h]at hl;cases hl
  ·exact⟨m,h1,by rw[<-h2];exact hl,h3⟩
 have view:∀ k x b o cap,AY cl next X k=some x->x.gj=true->lF bM next σ k=some (.at b o cap)->∃ m,c1 m=some x/\bM m=some (.at b o cap):=by
  intro k x b o cap hx ho hl;rcases src k x hx with ⟨rfl,_⟩|⟨_,h,_⟩|⟨m,h1,h2,h3⟩
  ·cases ho
  ·rw[h]at hl;cases hl
  ·exact⟨m,h1,by rw[<-h2];exact hl⟩
 refine⟨AY cl next X,hle,⟨h1.base,?_,?_,?_,?_,?_,?_,?_,?_,h0.oC.trans hle⟩,?_,?_,?_⟩
 ·intro k hk;unfold AY at hk;split at hk
  ·rename_i al;rw[JV al];have hk:(match ag F k with|some x=>some x|none=>match ag M k with|none=>c1 k|some _=>some Obj.dead)=none:=hk;cases hf:ag F k with
   |some y=>rw[hf]at hk;cases hk
   |none=>
    rw[hf]at hk;dsimp only at hk;cases hm:ag M k with
    |none=>rw[hm]at hk;exact h1.dr k hk
    |some y=>rw[hm]at hk;cases hk
  ·rename_i dM;unfold lF;rw[ao dM];have:σ[k-next]?=none:=by rw[Zz]at hk ⊢;rw[<-ok.len];exact hk
   rw[this]
 ·intro k x hx;rcases src k x hx with ⟨rfl,al,hM⟩|⟨hn,h,_⟩|⟨m,q1,q2,q3⟩
  ·cases hm:ag M k with
   |none=>exact absurd hm hM
   |some y=>
    obtain⟨l,e1,_⟩:=h0.born k y (oF k y hm);exact⟨l,hle k l e1,trivial⟩
  ·refine⟨.nil,h,?_⟩;cases x with
   |row cells ty size=>cases cells with
    |nil=>exact .inl ⟨rfl,rfl⟩
    |cons _ _=>cases hn
   |view cells=>cases cells with
    |nil=>exact .inl ⟨rfl,rfl⟩
    |cons _ _=>cases hn
   |_=>cases hn
  ·obtain⟨l,e1,e2⟩:=h1.born m x q1;refine⟨l,by rw[q2];exact e1,?_⟩;rcases q3 with ⟨al,rfl,h|⟨hf,hm⟩⟩|⟨dM,hs,rR⟩
   ·exact e2.below low (ok.aIi _ (j4 h))
   ·have e:=hk m al hm;rw[q1]at e;obtain⟨l',f1,f2⟩:=h0.born m x e.symm;have:=vy m l' f1;rw[e1]at this;injection this with this;subst this;exact f2.aIh e2 vy hle
   ·exact e2.below low (ok.news _ (cQ rR))
 ·intro k x b o cap hx ho hl;obtain⟨m,q1,q2,_⟩:=own k x b o cap hx ho hl;exact h1.own m x b o cap q1 ho q2
 ·intro k j x y b o cap o' aO hx Eg hy El hl cg;obtain⟨m,q1,q2,q3⟩:=own k x b o cap hx Eg hl;obtain⟨m',qv,AZ,lG⟩:=own j y b o' aO hy El cg;have e:=h1.inj m m' x y b o cap o' aO q1 Eg qv El q2 AZ;subst e;have JW:∀ k j x y,(k<next/\m=k/\(ag F k=some x\/(ag F k=none/\ag M k=none)))->(¬j<next/\σ[j-next]?=some (some m)/\X[j-next]?=some y)->False:=by
   rintro k j x y ⟨al,rfl,h⟩ ⟨_,hs,_⟩
   obtain⟨p1,p2⟩:=ok.low _ _ hs al;rcases h with h|h
   ·rw[p1]at h;cases h
   ·exact p2 h.2
  rcases q3 with q3|q3<;>rcases lG with lG|lG
  ·rw[<-q3.2.1,lG.2.1]
  ·exact(JW _ _ _ _ q3 lG).elim
  ·exact(JW _ _ _ _ lG q3).elim
  ·have:=ok.nodup _ _ _ q3.2.1 lG.2.1;have:=q3.1;have:=lG.1;omega
 ·intro k j x F' b o cap v hx Eg hl hj hv hf;obtain⟨m,q1,q2,_⟩:=own k x b o cap hx Eg hl;rcases src j (.fact F') hj with ⟨e,_⟩|⟨hn,_⟩|⟨m',p1,p2,_⟩
  ·cases e
  ·cases hn
  ·exact h1.apart m m' x F' b o cap v q1 Eg q2 p1 (by rw[<-p2];exact hv) hf
 ·intro k x b o cap hx JX hl;obtain⟨m,q1,q2⟩:=view k x b o cap hx JX hl;obtain⟨p1,p2⟩:=h1.seen m x b o cap q1 JX q2;refine⟨p1,λj y o' aO hy El hj=>?_⟩;obtain⟨m',s1,s2,_⟩:=own j y b o' aO hy El hj;exact p2 m' y o' aO s1 El s2
 ·intro j F' hj;rcases src j (.fact F') hj with ⟨e,_⟩|⟨hn,_⟩|⟨m',p1,_,_⟩
  ·cases e
  ·cases hn
  ·exact h1.fa m' F' p1
 ·intro k j F' ZA hx hy hr sU;rcases src k (.fact F') hx with ⟨e,_⟩|⟨hn,_⟩|⟨m,q1,q2,q3⟩
  ·cases e
  ·cases hn
  rcases src j (.fact ZA) hy with ⟨e,_⟩|⟨hn,_⟩|⟨m',qv,AZ,lG⟩
  ·cases e
  ·cases hn
  have e:=h1.one m m' F' ZA q1 qv hr sU;subst e;have JW:∀ k j x y,(k<next/\m=k/\(ag F k=some x\/(ag F k=none/\ag M k=none)))->(¬j<next/\σ[j-next]?=some (some m)/\X[j-next]?=some y)->False:=by
   rintro k j x y ⟨al,rfl,h⟩ ⟨_,hs,_⟩
   obtain⟨p1,p2⟩:=ok.low _ _ hs al;rcases h with h|h
   ·rw[p1]at h;cases h
   ·exact p2 h.2
  rcases q3 with q3|q3<;>rcases lG with lG|lG
  ·rw[<-q3.2.1,lG.2.1]
  ·exact(JW _ _ _ _ q3 lG).elim
  ·exact(JW _ _ _ _ lG q3).elim
  ·have:=ok.nodup _ _ _ q3.2.1 lG.2.1;have:=q3.1;have:=lG.1;omega
 ·intro k x hx;rw[gM]at hx;unfold AY;cases hf:ag F k with
  |some y=>
   rw[hf]at hx;injection hx with hx;subst hx;have al:=(ok.keys _ (j4 hf)).1;dsimp only at al;rw[aw al];show(match ag F k with|some x=>some x|none=>match ag M k with|none=>c1 k|some _=>some Obj.dead)=some y;rw[hf]
  |none=>
   rw[hf]at hx;dsimp only at hx;rw[Sw]at hx;by_cases al:k<next
   ·rw[aw al]at hx;cases hx
   ·rw[ao al]at hx ⊢;exact hx
 ·intro k gD;unfold AY;rw[ao o_,Zz];omega
 ·intro k al hm;unfold AY;rw[aw al];show(match ag F k with|some x=>some x|none=>match ag M k with|none=>c1 k|some _=>some Obj.dead)=c0 k;cases hf:ag F k with
  |some y=>exact absurd hm (ok.keys _ (j4 hf)).2
  |none=>rw[hm];exact hk k al hm
theorem aIk{ι:Map}{AK fr:aV}{a:Act}{next:Nat}{σ:List (Option Nat)}(hf:e9 B ι (bC AK) N a)(ay:∀ p∈fr,G4 next σ p.2=true)(h:∀ p∈gR next σ fr,bC AK p.1=p.2)(A0:∀ p∈fr,lQ (w7 next σ p.2)=false):
  e9 B (lF ι next σ) (bC fr) N a:=by
 refine⟨hf.defers,hf.size,λt=>?_⟩;have key:∀(l:aV),(∀ p∈l,p∈fr)->ni (lF ι next σ) (bC l t) (a.tmps.getD t undef):=by
  intro l;induction l with
  |nil=>intro _;exact .inl rfl
  |cons p l ih=>
   intro hl;obtain⟨s,v⟩:=p;show ni _ (if Nat.beq s t then v else bC l t) _;by_cases hs:Nat.beq s t=true
   ·rw[aw hs];have hm:=hl _ (aT ..);have h1:=h (s,w7 next σ v) (di.2 ⟨(s,v),hm,rfl⟩);dsimp only at h1;have e:=j0 hs;subst e;have h2:=hf.slot s;rw[h1]at h2;exact .inr (Zx (ay _ hm) (h2.As (A0 _ hm)))
   ·rw[ao hs];exact ih λq hq=>hl q (bB _ hq)
 exact key fr λ_ h=>h
theorem Sy:∀{σ:List (Option Nat)} {X:List Obj} {m:Nat} {x:Obj},(∀ i j m:Nat,σ[i]?=some (some m)->σ[j]?=some (some m)->i=j)->(m,x)∈dP σ X->ag (dP σ X) m=some x
 |[],_,m,x,_,h=>by simp[dP]at h
 |none::_,[],m,x,_,h=>by simp[dP]at h
 |some _::_,[],m,x,_,h=>by simp[dP]at h
 |none::σ,y::X,m,x,hn,h=>Sy (σ:=σ) (X:=X) (λi j m h1 h2=>by have:=hn (i+1) (j+1) m (by simpa using h1) (by simpa using h2);omega) h
 |some q::σ,y::X,m,x,hn,h=>by
  have lY:∀ i j m:Nat,σ[i]?=some (some m)->σ[j]?=some (some m)->i=j:=λi j m h1 h2=>by have:=hn (i+1) (j+1) m (by simpa using h1) (by simpa using h2);omega
  show(if Nat.beq q m then some y else ag (dP σ X) m)=some x;rcases cy.1 h with e|h'
  ·injection e with e1 e2;subst e1;subst e2;rw[aw (EA m)]
  ·have aU:q≠m:=by
    rintro rfl
    have idx:∀{σ:List (Option Nat)} {X:List Obj},(q,x)∈dP σ X->∃ j:Nat,σ[j]?=some (some q):=by
     intro σ;induction σ with
     |nil=>intro X h;simp[dP]at h
     |cons o σ ih=>
      intro X h;cases X with
      |nil=>cases o<;>simp[dP]at h
      |cons z X=>
       cases o with
       |none=>obtain⟨j,hj⟩:=ih (X:=X) h;exact⟨j+1,by simpa using hj⟩
       |some t=>
        rcases cy.1 h with e|h
        ·injection e with e1 _;exact⟨0,by simp[e1]⟩
        ·obtain⟨j,hj⟩:=ih (X:=X) h;exact⟨j+1,by simpa using hj⟩
    obtain⟨j,hj⟩:=idx h';have:=hn 0 (j+1) q s_ (by simpa using hj);omega
   rw[nW aU];simp only[uz,uA];exact Sy lY h'
theorem SA:∀{σ:List (Option Nat)} {X:List Obj} {m:Nat} {x:Obj},(m,x)∈dP σ X->∃ j:Nat,σ[j]?=some (some m)
 |[],_,_,_,h=>by simp[dP]at h
 |none::_,[],_,_,h=>by simp[dP]at h
 |some _::_,[],_,_,h=>by simp[dP]at h
 |none::σ,_::X,_,_,h=>by obtain⟨j,hj⟩:=SA (σ:=σ) (X:=X) h;exact⟨j+1,by simpa using hj⟩
 |some t::σ,_::X,m,x,h=>by
  rcases cy.1 h with e|h
  ·injection e with e1 _;exact⟨0,by simp[e1]⟩
  ·obtain⟨j,hj⟩:=SA (σ:=σ) (X:=X) h;exact⟨j+1,by simpa using hj⟩
theorem G7.ZB{M:aH}{next:Nat}{σ:List (Option Nat)}{fr:aV}{F:aH}{X:List Obj}(ok:G7 M next σ fr F X){c:Nat->Option Obj}(h:cS c (F++dP σ X)):
  cS c F/\∀ p∈dP σ X,c p.1=some p.2:=by
 refine⟨λk x hx=>h k x (by rw[gM,hx]),λp hp=>?_⟩;obtain⟨m,x⟩:=p;have hf:ag F m=none:=by
  obtain⟨j,hj⟩:=SA hp;rcases eC m next with al|dM
  ·exact(ok.low j m hj al).1
  ·cases hF:ag F m with
   |none=>rfl
   |some y=>have:=(ok.keys _ (j4 hF)).1;dsimp only at this;omega
 exact h m x (by rw[gM,hf];exact Sy ok.nodup hp)
theorem aIl{ι:Map}{fr:aV}{a:Act}{next:Nat}{σ:List (Option Nat)}(hf:e9 B ι (bC (gR next σ fr)) N a)(ay:∀ p∈fr,G4 next σ p.2=true)(A0:∀ p∈fr,lQ (w7 next σ p.2)=false):
  e9 B (lF ι next σ) (bC fr) N a:=by
 refine⟨hf.defers,hf.size,λt=>?_⟩;have key:∀(l:aV),(∀ p∈l,p∈fr)->ni ι (bC (gR next σ l) t) (a.tmps.getD t undef)->ni (lF ι next σ) (bC l t) (a.tmps.getD t undef):=by
  intro l;induction l with
  |nil=>intro _ _;exact .inl rfl
  |cons p l ih=>
   intro hl h;obtain⟨s,v⟩:=p;have h:ni ι (if Nat.beq s t then w7 next σ v else bC (gR next σ l) t) (a.tmps.getD t undef):=h;show ni _ (if Nat.beq s t then v else bC l t) _;by_cases hs:Nat.beq s t=true
   ·rw[aw hs]at h ⊢;have hm:=hl _ (aT ..);exact .inr (Zx (ay _ hm) (h.As (A0 _ hm)))
   ·rw[ao hs]at h ⊢;exact ih (λq hq=>hl q (bB _ hq)) h
 exact key fr (λ_ h=>h) (hf.slot t)
theorem aIm{b:Code}{fr:aV}{M:aH}{next p:Nat}{r:lZ}(n:Nat)(I:Nat->aV)(F:Nat->aH)(X:Nat->List Obj)(hp:∀ i,i<=n->(X i).length=p)
  (start:∃ σ,G7 M next σ (I 0) (F 0) (X 0)/\(∀ q∈I 0,lQ (w7 next σ q.2)=false)/\(∀ q∈gR next σ (I 0),bC fr q.1=q.2)/\(∀ k x,ag (F 0++dP σ (X 0)) k=some x->ag M k=some x))
  (body:∀ i,i<n->∃ σ ij,G7 M next σ (I (i+1)) (F (i+1)) (X (i+1))/\(∀ q∈I (i+1),lQ (w7 next σ q.2)=false)/\ah P B N b (I i) (F i++marks next (X i)) (next+p) ⟨.normal,gR next σ (I (i+1)),F (i+1)++dP σ (X (i+1)),ij⟩)
  (last:ah P B N b (I n) (F n++marks next (X n)) (next+p) r) (hr:r.ex≠.normal):ah P B N (.loop b) fr M next r:=by
 intro R uy c0 a0 w0 Q Ez kA oF CI hQ;refine RX (n+1) ?_;have key:∀ d i,i+d=n->∀(bM:Map) (c1:Nat->Option Obj) (a1:Act) (w1:World),Map.le uy bM->e9 B bM (bC (I i)) N a1->aM B bM c1 w1->cS c1 (F i++marks next (X i))->eD c1 (next+p)->
   (∀ k,k<next->ag M k=none->ag (F i) k=none)->(∀ k,k<next->ag M k=none->c1 k=c0 k)->
   (∀ t,ui (.loop b) t=false->a1.tmps.getD t undef=a0.tmps.getD t undef)->Code.roundsIn (FW R) 0 P b Q (d+1) a1 w1:=by
  have uh:∀(i k:Nat),k<next->ag M k=none->ag (F i) k=none->ag (F i++marks next (X i)) k=none:=λi k hk _ hf=>by rw[gM,hf];dsimp only;rw[Sw,aw hk]
  intro d;induction d with
  |zero=>
   intro i hi bM c1 a1 w1 jq fv cW eA dK SB ig jO;have:i=n:=by omega
   subst this;rw[EB];refine last R bM c1 a1 w1 _ fv cW eA dK λdC c2 a2 w2 kW iG dx hJ fq fF rE=>?_;have:=hQ dC c2 a2 w2 (jq.trans kW) iG dx hJ fq (λk hk h0=>(fF k o_ (uh i k hk h0 (SB k hk h0))).trans (ig k hk h0)) λt ht=>(rE t ht).trans (jO t ht);show Exit.then _ Q r.ex.AB a2 w2;cases hx:r.ex with
   |normal=>exact absurd hx hr
   |exit id=>rw[hx]at this;exact this
   |ret=>rw[hx]at this;exact this
  |succ d ih=>
   intro i hi bM c1 a1 w1 jq fv cW eA dK SB ig jO;rw[EB];obtain⟨σ,ij,ok,A0,hb⟩:=body i o_;refine hb R bM c1 a1 w1 _ fv cW eA dK λdC c2 a2 w2 kW iG dx hJ fq fF rE=>?_;obtain⟨q1,q2⟩:=ok.ZB hJ;have gD:∀ k,k<next->ag M k=none->c2 k=c0 k:=λk hk h0=>(fF k o_ (uh i k hk h0 (SB k hk h0))).trans (ig k hk h0);obtain⟨c3,e1,e2,e3,e4,e5⟩:=rename ok kA CI oF (jq.trans kW) dx q1 q2 gD;rw[hp (i+1) o_]at e4;refine ih (i+1) o_ _ c3 a2 w2 e1 (aIl iG ok.jA A0) e2 e3 e4 (λk hk h0=>?_) e5 λt ht=>(rE t ht).trans (jO t ht);cases hF:ag (F (i+1)) k with
   |none=>rfl
   |some y=>exact absurd h0 (ok.keys _ (j4 hF)).2
 obtain⟨σ,ok,A0,mC,hM⟩:=start;obtain⟨q1,q2⟩:=ok.ZB (c:=c0) λk x hx=>oF k x (hM k x hx);obtain⟨c3,e1,e2,e3,e4,e5⟩:=rename ok kA CI oF (Map.le.refl _) kA q1 q2 (λ_ _ _=>rfl);rw[hp 0 o_]at e4;refine key n 0 o_ _ c3 a0 w0 e1 (aIk Ez ok.jA mC A0) e2 e3 e4 (λk hk h0=>?_) e5 λ_ _=>rfl;cases hF:ag (F 0) k with
 |none=>rfl
 |some y=>exact absurd h0 (ok.keys _ (j4 hF)).2
end
def gA(n a:Nat):List UInt8:=(List.range n).map λi=>UInt8.ofNat (a/256^(n-1-i)%256)
theorem JY(n a:Nat):(gA n a).length=n:=by simp[gA]
theorem w9(n a:Nat):gA (n+1) a=UInt8.ofNat (a/256^n%256)::gA n a:=by
 unfold gA;rw[List.range_succ_eq_map,rI,SC]
 congr 1
 refine yv λi hi=>?_;have hi:=j5.1 hi;show UInt8.ofNat (a/256^(n+1-1-(i+1))%256)=_;rw[show n+1-1-(i+1)=n-1-i by omega]
theorem Nj(a:Nat):gA 0 a=[]:=rfl
theorem ZC(n a m:Nat)(h:n<=m):gA n (a%256^m)=gA n a:=by
 unfold gA;refine yv λi hi=>?_;have hi:=j5.1 hi
 congr 1
 obtain⟨s,hs⟩:∃ s,m=(n-1-i)+1+s:=⟨m-(n-1-i)-1,by omega⟩;have e:256^m=256^(n-1-i)*(256*256^s):=by rw[hs,ep,dw,fG]
 rw[e,AU,JP]
theorem ZD(m n a:Nat):gA (m+n) a=gA m (a/256^n)++gA n a:=by
 induction m with
 |zero=>simp[Nj]
 |succ m ih=>
  rw[show m+1+n=(m+n)+1 by omega,w9,w9,ih,EW,kB,<-ep,mF n m]
theorem aIn(n a:Nat):fR (gA n a)=a%256^n:=by
 induction n with
 |zero=>simp[Nj,fR,tf]
 |succ n ih=>
  rw[w9,JO,ih,JY];have h1:(UInt8.ofNat (a/256^n%256)).toNat=a/256^n%256:=by rw[Nk];exact dF (cH _ d_)
  rw[h1,dw,MU,cP (256^n),mF]
def cd(a:Nat):List UInt8:=gA (nd 256 a) a
theorem EX(a:Nat):fR (cd a)=a:=by unfold cd;rw[aIn,dF (dO d_ a)]
theorem CJ:cd 0=[]:=by unfold cd;rw[pf];rfl
theorem ti(a:Nat):(cd a).length=nd 256 a:=JY _ _
theorem aIo{a:Nat}:cd a=[]↔a=0:=by
 constructor
 ·intro h;have:=EX a;rw[h]at this;exact this.symm
 ·rintro rfl;exact CJ
theorem aIp{a b:Nat}(h:cd a=cd b):a=b:=by rw[<-EX a,h,EX]
theorem Nl{a:Nat}(h:a≠0):∃ c l,cd a=c::l/\c≠0:=by
 have hp:=ur (B:=256) d_ h;obtain⟨n,hn⟩:∃ n,nd 256 a=n+1:=⟨nd 256 a-1,by omega⟩;have al:=dO (B:=256) d_ a;rw[hn]at al;refine⟨_,_,by unfold cd;rw[hn,w9],λe=>?_⟩;have h1:(UInt8.ofNat (a/256^n%256)).toNat=a/256^n%256:=by rw[Nk];exact dF (cH _ d_)
 rw[e]at h1;have h2:a<256^n:=(GP d_ al).1 h1.symm;have:=jd (B:=256) d_ h2;omega
theorem aIq(k:Nat)(l:List UInt8):jE (List.replicate k 0++l)=k+jE l:=by
 induction k with
 |zero=>simp
 |succ k ih=>
  have e:jE (0::(List.replicate k 0++l))=jE (List.replicate k 0++l)+1:=rfl;rw[List.replicate_succ,EW,e,ih];omega
theorem ZE{n k a:Nat}(h:a<256^n):gA (k+n) a=List.replicate k 0++gA n a:=by
 rw[ZD,l4 h]
 congr 1
 induction k with
 |zero=>rfl
 |succ k ih=>rw[w9,ih,List.replicate_succ,Nat.zero_div];rfl
theorem aIr{n a:Nat}(h:a<256^n):JR (gA n a)=cd a:=by
 have hle:=jd (B:=256) d_ h;obtain⟨k,hk⟩:∃ k,n=k+nd 256 a:=⟨n-nd 256 a,by omega⟩;have hz:jE (gA (nd 256 a) a)=0:=by
  by_cases h0:a=0
  ·subst h0;rw[pf];rfl
  ·obtain⟨c,l,e,hc⟩:=Nl h0;unfold cd at e;rw[e];unfold jE;rw[ao hc]
 unfold JR;rw[hk,ZE (dO d_ a),aIq,hz,jn,List.drop_append_of_le_length s_];simp[cd]
theorem ZF{c:UInt8}{l:List UInt8}(h:c≠0):256^l.length<=fR (c::l):=by
 rw[JO];have:1<=c.toNat:=by
  rcases nZ c.toNat with e|e
  ·exact absurd (Nd.1 (by rw[e];rfl)) h
  ·exact e
 have:=e8 (256^l.length) this;omega
theorem aIs{l:List UInt8}(h:∀ c r,l=c::r->c≠0):cd (fR l)=l:=by
 have hlen:nd 256 (fR l)=l.length:=by
  refine ZG (jd d_ (AR l)) ?_;cases l with
  |nil=>simp
  |cons c r=>
   have h1:=ZF (l:=r) (h c r rfl);rcases eC (nd 256 (fR (c::r))) (r.length+1)with h2|h2
   ·have h3:=dO (B:=256) d_ (fR (c::r));have h4:256^nd 256 (fR (c::r))<=256^r.length:=cY d_ o_;omega
   ·exact h2
 unfold cd;rw[hlen];clear hlen h;induction l with
 |nil=>rfl
 |cons c r ih=>
  have hv:=AR r;have hp:0<256^r.length:=cG d_;rw[oD,w9,JO]
  congr 1
  ·rw[mF,ph _ _ hp,l4 hv,jZ];have hc:c.toNat<256:=c.toNat_lt;rw[dF hc];simp
  ·rw[<-ZC _ _ _ (bh r.length),mF,CK,dF hv,ih]
theorem aIt(d:Nat):gA 4 d=[UInt8.ofNat (d/16777216%256),UInt8.ofNat (d/65536%256),UInt8.ofNat (d/256%256),UInt8.ofNat (d%256)]:=by rw[w9,w9,w9,w9,Nj];simp
section
variable{P:Program}{B:aa}{N:Nat}
def aX.mkc(fn:Func)(key k cp e size bytes:Nat)(z:Value)(hb:bytes*cp<=281474976710656)(hn:cp<=maxLen)(ho:MR P (av fn key)=some (e,size,bytes,z)):aX P B N:=
 .step key (av fn key) [vI 0,vI cp] [(k,none)] (.slice (some ⟨k,0,some 7⟩) 0 0) [(k,.row [] e size)] (by
  unfold MR at ho;split at ho
  ·rename_i t a b bN;split at ho
   ·rename_i e' ht;split at ho
    ·rename_i i hi;split at ho
     ·rename_i z' nT;injection ho with ho;injection ho with h1 ho;injection ho with h2 ho;injection ho with h3 h4;subst h1;subst h4;have:=X2 (P:=P) (B:=B) bN ht hi nT (kl:=.i64) (kc:=.i64) (l:=0) (cp:=cp) (kU _) (by rw[h3];exact hb) hn (cells:=[]) (by rw[lB,ZH]) s_ n_ k;rw[h2]at this;exact this.step
     ·cases ho
    ·cases ho
   ·cases ho
  ·cases ho)
def aX.pj(fn:Func)(key k j n m nm e size bytes:Nat)(cells:aj)(q:Nat)(x:Obj)(new:aj)(lv:n+m=nm)(hx:x.reads=true)(hlen:x.cells.length=m*size)(jc:cells.length=n*size)(kT:cells++x.cells=new)
  (h1:∀ v∈x.cells,v.oneCell'=true) (bA:0<size) (h63:nm<=maxLen) (hb:nm*bytes<=140737488355328) (ho:ET P (av fn key)=some (e,size,bytes,size,true)):aX P B N:=
 .step key (av fn key) [.slice (some ⟨j,0,some 7⟩) n 0,.slice (some ⟨q,0,some 7⟩) m 0] [(k,none),(j,some (.row cells e size)),(q,some x)] (.slice (some ⟨k,0,some 7⟩) nm 0) [(k,.row new e size),(j,.dead)] (by
  subst lv;have hs:Ca B (.slice (some ⟨q,0,some 7⟩) m 0) m x.cells [(q,some x)]:=by have:=Mh (B:=B) (k:=q) (off:=0) (m:=m) (cc:=0) hx (len:=m*size) (λh=>by rw[h,lB]);rw[l5,kj (u9 hlen)]at this;exact this
  have:=Zs (B:=B) ho bA hs hlen h1 (j:=j) (n:=n) (cells:=cells) (u9 jc.symm) h63 hb k;rw[kj (u9 jc),kT]at this;exact this)
def gG(l:List UInt8):aj:=l.map λc=>.int .u8 (c.toNat:Int)
theorem aIu(l:List UInt8):∀ u∈gG l,flat u=true:=λu hu=>by obtain⟨x,_,rfl⟩:=di.1 hu;rfl
theorem ZI(l:List UInt8):∀ acc:List UInt8,(l.map λc=>(c.toNat:Int)).foldl (λ(r:ByteArray) (n:Int)=>r.push (UInt8.ofNat n.toNat)) (BA acc)=BA (acc++l):=by
 induction l with
 |nil=>intro acc;simp
 |cons c l ih=>
  intro acc;rw[rI,vl];have e:(BA acc).push (UInt8.ofNat ((c.toNat:Int)).toNat)=BA (acc++[c]):=by unfold BA;simp[ByteArray.push]
  rw[e,ih,Ey];rfl
def Nn(P:Program)(o:Oper):Bool:=match o.op with
 |.convert src dst _=>match P.underlying src,P.underlying dst with
  |some (.slice e),some .string=>(match P.underlying e with|some (.int .u8)=>true|_=>false)
  |_,_=>false
 |_=>false
def aX.SD(fn:Func)(key k n:Nat)(l:List UInt8)(x:Obj)(hx:x.reads=true)(hc:x.cells=gG l)(hn:l.length=n)(ho:Nn P (av fn key)=true):aX P B N:=
 .step key (av fn key) [.slice (some ⟨k,0,some 7⟩) n 0] [(k,some x)] (.string (BA l)) [] (by
  unfold Nn at ho;split at ho
  ·rename_i src dst y bN;split at ho
   ·rename_i e hs hd;split at ho
    ·rename_i he;have:=X4 (P:=P) (B:=B) bN hs he hd (k:=k) (off:=0) (n:=n) (cc:=0) (y:=x) (ns:=l.map λc=>(c.toNat:Int)) hx (by rw[hc,l5,kj (by simp[gG,hn])];simp[gG,Function.comp_def]) (by simpa using hn)
     have e2:=ZI l [];rw[jo]at e2;rw[show ByteArray.empty=BA []from rfl,e2]at this;exact this.step
    ·cases ho
   ·cases ho
  ·cases ho)
end
section
variable{P:Program}{B:aa}{N:Nat}
theorem G8{m:Nat}{x:Obj}(h:∀ u∈x.cells,flat u=true):fP m x:=λu hu=>iK (h u hu)
def G9:List (Option Nat)->Bool
 |[]=>true
 |none::l=>G9 l
 |some m::l=>(l.all λo=>match o with|some k=>!Nat.beq m k|none=>true)&&G9 l
theorem ZJ:∀{σ:List (Option Nat)},G9 σ=true->∀ i j m:Nat,σ[i]?=some (some m)->σ[j]?=some (some m)->i=j
 |[],_,i,j,m,h,_=>by simp at h
 |o::l,h,i,j,m,h1,h2=>by
  have hl:G9 l=true/\∀ k,o=some k->∀ j:Nat,l[j]?≠some (some k):=by
   cases o with
   |none=>exact⟨h,λk e=>by cases e⟩
   |some q=>
    simp only[G9,db,bf]at h;refine⟨h.2,λk e j hj=>?_⟩;injection e with e;subst e;have:=h.1 _ (cQ hj);simp at this
  cases i with
  |zero=>
   cases j with
   |zero=>rfl
   |succ j=>
    simp at h1 h2;exact absurd h2 (hl.2 m h1 j)
  |succ i=>
   cases j with
   |zero=>
    simp at h1 h2;exact absurd h1 (hl.2 m h2 i)
   |succ j=>
    simp at h1 h2;rw[ZJ hl.1 i j m h1 h2]
def ZK(M:aH)(F:aH)(next:Nat)(σ:List (Option Nat)):Bool:=σ.all λo=>match o with
 |some m=>Nat.ble next m||((match ag F m with|none=>true|some _=>false)&&(match ag M m with|none=>false|some _=>true))
 |none=>true
def Ha:List (Option Nat)->List Obj->Bool
 |none::σ,x::X=>x.isNil&&Ha σ X
 |some _::σ,_::X=>Ha σ X
 |_,_=>true
theorem ZL:∀{σ:List (Option Nat)} {X:List Obj},Ha σ X=true->∀(i:Nat) (x:Obj),σ[i]?=some none->X[i]?=some x->x.isNil=true
 |[],_,_,i,x,h,_=>by simp at h
 |_::_,[],_,i,x,_,h=>by simp at h
 |o::σ,y::X,h,i,x,h1,h2=>by
  cases i with
  |zero=>
   simp at h1 h2;subst h1;subst h2;simp only[Ha,db]at h;exact h.1
  |succ i=>
   simp at h1 h2;refine ZL (σ:=σ) (X:=X) ?_ i x h1 h2;cases o with
   |none=>simp only[Ha,db]at h;exact h.2
   |some _=>exact h
def CL(M:aH)(next:Nat)(σ:List (Option Nat))(fr:aV)(F:aH)(X:List Obj):Bool:=
 Nat.beq X.length σ.length&&(G9 σ&&(ZK M F next σ&&(Ha σ X&&((fr.all λp=>G4 next σ p.2&&!lQ (w7 next σ p.2))&&(F.all λp=>Nat.blt p.1 next&&(match ag M p.1 with|none=>false|some _=>true))))))
theorem ZM{M:aH}{next:Nat}{σ:List (Option Nat)}{fr:aV}{F:aH}{X:List Obj}(h:CL M next σ fr F X=true)(hF:∀ p∈F,fP next p.2)(hX:∀ x∈X,fP next x):
  G7 M next σ fr F X/\∀ q∈fr,lQ (w7 next σ q.2)=false:=by
 simp only[CL,db,bf,AD]at h;obtain⟨h1,h2,h3,h4,h5,h6⟩:=h;refine⟨⟨j0 h1,ZJ h2,λi m hi hm=>?_,ZL h4,λp hp=>(h5 p hp).1,λp hp=>?_,hF,hX⟩,λq hq=>(h5 q hq).2⟩
 ·unfold ZK at h3;rw[bf]at h3;have:=h3 _ (cQ hi);simp only[um,db]at this;rcases this with this|⟨p1,p2⟩
  ·have:=rm this;omega
  ·constructor
   ·cases hf:ag F m with
    |none=>rfl
    |some y=>rw[hf]at p1;cases p1
   ·intro e;rw[e]at p2;cases p2
 ·obtain⟨q1,q2⟩:=h6 p hp;refine⟨Nat.lt_of_succ_le (by simpa[Nat.blt]using q1),λe=>?_⟩;rw[e]at q2;cases q2
theorem rS{b:Code}{next p:Nat}{r:lZ}(n:Nat)(I:Nat->aV)(F:Nat->aH)(X:Nat->List Obj)(A1:List (Option Nat))(hp:∀ i,i<=n->(X i).length=p)
  (CM:∀ i,i<=n->(∀ q∈F i,fP next q.2)/\∀ x∈X i,fP next x) (h0:CL (F 0++dP A1 (X 0)) next A1 (I 0) (F 0) (X 0)=true)
  (hs:((gR next A1 (I 0)).map λq=>bC (gR next A1 (I 0)) q.1)=(gR next A1 (I 0)).map λq=>q.2)
  (body:∀ i,i<n->∃ σ ij,CL (F 0++dP A1 (X 0)) next σ (I (i+1)) (F (i+1)) (X (i+1))=true/\ah P B N b (I i) (F i++marks next (X i)) (next+p) ⟨.normal,gR next σ (I (i+1)),F (i+1)++dP σ (X (i+1)),ij⟩)
  (last:ah P B N b (I n) (F n++marks next (X n)) (next+p) r) (hr:r.ex≠.normal):ah P B N (.loop b) (gR next A1 (I 0)) (F 0++dP A1 (X 0)) next r:=by
 refine aIm n I F X hp ?_ ?_ last hr
 ·obtain⟨q1,q2⟩:=ZM h0 (CM 0 (kU _)).1 (CM 0 (kU _)).2;exact⟨A1,q1,q2,MP hs,λ_ _ h=>h⟩
 ·intro i hi;obtain⟨σ,ij,e1,e2⟩:=body i hi;obtain⟨q1,q2⟩:=ZM e1 (CM (i+1) o_).1 (CM (i+1) o_).2;exact⟨σ,ij,q1,q2,e2⟩
end
def vb(m:Nat):Value:=.int .u8 (m:Int)
theorem aIv(d:Nat):gG (gA 4 d)=[vb (d/16777216%256),vb (d/65536%256),vb (d/256%256),vb (d%256)]:=by
 have e:∀ m,Value.int .u8 ((UInt8.ofNat (m%256)).toNat:Int)=vb (m%256):=λm=>by rw[Nk,dF (cH _ d_)];rfl
 rw[aIt];simp only[gG,rI,SE,e]
theorem Np(l m:List UInt8):gG (l++m)=gG l++gG m:=by simp[gG]
theorem EY(l:List UInt8):(gG l).length=l.length:=by simp[gG]
section
variable{Bs:aa}{n a:Nat}
def Hb(n j m:Nat):aV:=[(4,df j),(0,sl 0 n),(3,sl 2 (4*m))]
def EZ(n a:Nat):aH:=[(0,.view (ak (ae base n a)))]
def E0(a j m:Nat):List Obj:=[.row (gG (gA (4*m) (a/base^j))) 5 1]
theorem aIw{j m:Nat}(hn:n=m+1+j)(h63:n<35184372088832):
  ah prog Bs 45 (aE (af f176 0)) (Hb n (j+1) m) (EZ n a++marks 2 (E0 a (j+1) m)) 3 ⟨.normal,gR 2 [some 4] (Hb n j (m+1)),EZ n a++dP [some 4] (E0 a j (m+1)),5⟩:=by
 have hj:j<n:=by omega
 obtain⟨d,hd⟩:∃ d,d=a/base^j%base:=⟨_,rfl⟩;have mH:d<base:=by rw[hd];exact gP d_ a j
 have iX:(ak (ae base n a))[j]?=some (aW d):=by rw[hd];exact kD (eg hj)
 have sh:∀ k:Nat,(d:Int).fdiv ((2:Int)^k)=((d/2^k:Nat):Int):=λk=>by rw[rM _ (Hc d_),tg,Hd];rfl
 have w8:∀ m:Nat,IntKind.u8.wrap ((m:Nat):Int)=((m%256:Nat):Int):=λm=>by rw[ZN];omega
 have kT:gG (gA (4*m) (a/base^(j+1)))++[vb (d/2^24%256),vb (d/2^16%256),vb (d/2^8%256),vb (d%256)]=gG (gA (4*(m+1)) (a/base^j)):=by
  have e1:a/base^j/256^4=a/base^(j+1):=by rw[show(256:Nat)^4=base by decide,kB,<-dw]
  rw[show 4*(m+1)=4*m+4 by omega,ZD,e1,Np,<-ZC 4 (a/base^j) 4 (bh _),show a/base^j%256^4=d from hd.symm,aIv]
 exact aA [.rw 12 (df (j+1)) (vI j) (dT j),.ge 13 j 0 true s_,.rw 18 (df (j+1)) (vI j) (dT j),.ix f176 19 0 n j hj k_,.ld f176 20 176 0 j (.view (ak (ae base n a))) (aW d) rfl (by rw[fH];exact iX) k_,.quo 21 .u32 ((d:Int).fdiv ((2:Int)^24)) ((d/2^24:Nat):Int) (sh 24),.wr 22 .u8 ((d/2^24:Nat):Int) ((d/2^24%256:Nat):Int) (w8 _),.rw 24 (df (j+1)) (vI j) (dT j),.ix f176 25 0 n j hj k_,.ld f176 26 176 0 j (.view (ak (ae base n a))) (aW d) rfl (by rw[fH];exact iX) k_,.quo 27 .u32 ((d:Int).fdiv ((2:Int)^16)) ((d/2^16:Nat):Int) (sh 16),.wr 28 .u8 ((d/2^16:Nat):Int) ((d/2^16%256:Nat):Int) (w8 _),.rw 30 (df (j+1)) (vI j) (dT j),.ix f176 31 0 n j hj k_,.ld f176 32 176 0 j (.view (ak (ae base n a))) (aW d) rfl (by rw[fH];exact iX) k_,.quo 33 .u32 ((d:Int).fdiv ((2:Int)^8)) ((d/2^8:Nat):Int) (sh 8),.wr 34 .u8 ((d/2^8:Nat):Int) ((d/2^8%256:Nat):Int) (w8 _),.rw 36 (df (j+1)) (vI j) (dT j),.ix f176 37 0 n j hj k_,.ld f176 38 176 0 j (.view (ak (ae base n a))) (aW d) rfl (by rw[fH];exact iX) k_,.wr 39 .u8 (d:Int) ((d%256:Nat):Int) (w8 _),.bs f176 40 3 4 5 1 [0,1,2,3] (vb 0) [vb (d/2^24%256),vb (d/2^16%256),vb (d/2^8%256),vb (d%256)] #[vb (d/2^24%256),vb (d/2^16%256),vb (d/2^8%256),vb (d%256)]
   (.row [vb (d/2^24%256),vb (d/2^16%256),vb (d/2^8%256),vb (d%256)] 5 1) rfl (λv hv=>by simp at hv;rcases hv with rfl|rfl|rfl|rfl<;>rfl) (λv hv=>by simp at hv;rcases hv with rfl|rfl|rfl|rfl<;>rfl) k_ rfl o_ o_ k_,
  .pj f176 41 4 2 (4*m) 4 (4*(m+1)) 5 1 1 (gG (gA (4*m) (a/base^(j+1)))) 3 (.row [vb (d/2^24%256),vb (d/2^16%256),vb (d/2^8%256),vb (d%256)] 5 1) (gG (gA (4*(m+1)) (a/base^j)))
   o_ rfl rfl (by rw[EY,JY];omega) kT (λv hv=>by simp[Obj.cells]at hv;rcases hv with rfl|rfl|rfl|rfl<;>rfl) o_ (by simp[maxLen];omega) o_ k_,
  .rw 14 (df (j+1)) (vI j) (dT j),.wr 15 .i64 ((j:Int)-1) ((j:Int)-1) (oL o_)]
theorem aIx(h63:n<35184372088832):
  ah prog Bs 45 (.block 0 (af f176 0)) (gR 2 [some 1] (Hb n n 0)) (EZ n a++dP [some 1] (E0 a n 0)) 2 ⟨.normal,Hb n 0 n,EZ n a++marks 2 (E0 a 0 n),3⟩:=by
 have:=rS (P:=prog) (B:=Bs) (N:=45) (b:=aE (af f176 0)) (next:=2) (p:=1) (r:=⟨.exit 0,Hb n 0 n,EZ n a++marks 2 (E0 a 0 n),3⟩) n (λi=>Hb n (n-i) i) (λ_=>EZ n a) (λi=>E0 a (n-i) i) [some 1] (λ_ _=>rfl)
  (λi _=>⟨λq hq=>by simp[EZ]at hq;subst hq;exact G8 (fA _),λx hx=>by simp[E0]at hx;subst hx;exact G8 (aIu _)⟩) k_ k_
  (λi hi=>⟨[some 4],5,k_,by
   obtain⟨j,hj⟩:∃ j,n=i+1+j:=⟨n-(i+1),by omega⟩;have e1:n-i=j+1:=by omega
   have e2:n-(i+1)=j:=by omega
   simp only[e1,e2];exact aIw hj h63⟩)
  (by simp only[ux];exact aA [.rw 13 (.bool (decide (((0:Nat):Int)-1>=0))) (.bool false) rfl]) n_
 simp only[GN]at this;exact bO (id:=0) this
end
theorem ZO{w:World}{va:Value}{a:Nat}(ga:iz w va a)(h1:nd base a<35184372088832):
  Calls prog 176 #[va] w λe w'=>e=.returned (.string (BA (cd a)))/\Below w.heap.size w w':=by
 have al:=dO (B:=base) d_ a;have hl:∀ s∈[cz.row va (nd base a) (ak (ae base (nd base a) a))],s.OK w:=by intro s hs;simp at hs;subst hs;exact⟨ga,fA _⟩
 unfold iz at ga;generalize nd base a=n at *;have ht:JR (gA (4*n) (a/base^0))=cd a:=by rw[rN,ER];refine aIr ?_;rw[rO];exact al
 have tl:=aH4 (gA (4*n) (a/base^0));rw[ht]at tl
 refine lC (Q:=λe w'=>e=.returned (.string (BA (cd a)))/\Below w.heap.size w w') mixed func176 [cz.row va n (ak (ae base n a))] hl 100 (N:=45) k_
  (rs:=[(aX.wr 7 .i64 (4*(n:Int)) ((4*n:Nat):Int) (by rw[c8];omega):aX prog (aa.at w) 45),.mkc f176 8 1 (4*n) 5 1 1 (vb 0) o_ (by simp[maxLen];omega) k_,.wr 11 .i64 ((n:Int)-1) ((n:Int)-1) (oL o_),.code 0 _ _ _ _ _ (aIx (n:=n) (a:=a) h1),.SD f176 43 2 (4*n) (gA (4*n) (a/base^0)) (.row (gG (gA (4*n) (a/base^0))) 5 1) rfl rfl (JY _ _) k_,tl.at 44])
  (v:=.string (BA (cd a))) (ms:=[]) k_ λau bY v' w' hc bj _ _=>⟨by rw[hc.eR rfl],bj.base⟩
section
variable{P:Program}{B:aa}{N:Nat}
def cz.apart(g:Nat):cz->Prop
 |.plain _=>True
 |.row v n _=>∀ b o c',v=.slice (some ⟨b,o,none⟩) n c'->b≠g
theorem SF{w:World}{g:Nat}:∀(l:List cz) (k:Nat) (ι:Map) (c:Nat->Option Obj),aM B ι c w->(∀ j x b o cap,c j=some x->x.owns=true->ι j=some (.at b o cap)->b=g)->eD c k->(∀ s∈l,cz.OK w s)->(∀ s∈l,cz.apart g s)->
  ∃ au c',Map.le ι au/\aM B au c' w/\eD c' (s8 k l)/\cS c' (uo k l)/\(∀ j,j<k->c' j=c j)/\bI (aG au) (rK k l) (l.map cz.real)/\k<=s8 k l
 |[],k,ι,c,hm,ho,hu,_,_=>⟨ι,c,Map.le.refl _,hm,hu,λk x h=>(by cases h),λ_ _=>rfl,.nil,bh _⟩
 |.plain v::l,k,ι,c,hm,ho,hu,hl,aU=>by obtain⟨au,c',h1,h2,h3,h4,h5,h6,h7⟩:=SF l k ι c hm ho hu (λs hs=>hl s (bB _ hs)) (λs hs=>aU s (bB _ hs));have hv:flat v=true:=hl _ (aT ..);exact⟨au,c',h1,h2,h3,h4,h5,.cons (.same hv) h6,h7⟩
 |.row v n xs::l,k,ι,c,hm,ho,hu,hl,aU=>by
  obtain⟨hv,cN⟩:cK w v n xs/\∀ u∈xs,flat u=true:=hl _ (aT ..);have hap:∀ b o c',v=.slice (some ⟨b,o,none⟩) n c'->b≠g:=aU _ (aT ..);obtain⟨bM,q1,q2,q3⟩:=yy hm (k:=k) (hu k (bh _)) hv cN (λb o c' hb j y o' aO hj hy he=>hap b o c' hb (ho j y b o' aO hj hy he));have xa:∀ j x b o cap,aY c k (.view xs) j=some x->x.owns=true->bM j=some (.at b o cap)->b=g:=by
   intro j x b o cap hj hx hb;unfold aY at hj;by_cases bL:j=k
   ·rw[aw bL]at hj;injection hj with hj;subst hj;cases hx
   ·rw[ao bL]at hj;obtain⟨lo,e1,_⟩:=hm.born j x hj;have:=q1 j lo e1;rw[hb]at this;injection this with this;subst this;exact ho j x b o cap hj hx e1
  have dK:eD (aY c k (.view xs)) (k+1):=λj hj=>by unfold aY;rw[ao o_];exact hu j o_
  obtain⟨au,c',h1,h2,h3,h4,h5,h6,h7⟩:=SF l (k+1) bM _ q2 xa dK (λs hs=>hl s (bB _ hs)) (λs hs=>aU s (bB _ hs));refine⟨au,c',q1.trans h1,h2,h3,λj x hj=>?_,λj hj=>?_,.cons (q3.mono h1) h6,by show k<=s8 (k+1) l;omega⟩
  ·unfold uo ag at hj;split at hj
   ·rename_i hb;injection hj with hj;subst hj;rw[<-j0 hb,h5 k o_];unfold aY;rw[aw rfl]
   ·exact h4 j x hj
  ·rw[h5 j o_];unfold aY;rw[ao o_]
theorem aIy{f:FuncId}{fn:Func}{w:World}{g cap size:Nat}{cur:Array Value}{ty:TypeId}{cells cells':aj}{off m cc c':Nat}{v:Value}{ms:aH}{Q:Ending->World->Prop}(gv:P.follows .mixedOrders=true)(hf:P.funcs[f]?=some fn)
  (hg:w.heap[g]?=some (.cells cur ty (0,0))) (jy:cap<=maxLen) (bA:cur.size=cap*size) (hc:cur.toList.take cells.length=cells) (cN:∀ v∈cells,flat v=true) (AQ:∀ v∈cells',flat v=true) (hn:m<=c') (mz:cc+c'=cap)
  (l:List cz) (hl:∀ s∈l,cz.OK w s) (aU:∀ s∈l,cz.apart g s) (n:Nat) {N:Nat} (hN:N=((.slice (some ⟨0,off,some 7⟩) m cc:Value)::rK 1 l).length+(fn.ntmps-((.slice (some ⟨0,off,some 7⟩) m cc:Value)::rK 1 l).length))
  {rs:bE P (aa.vu w g) N}
  (h:nt (fQ (P:=P) fn n (.slice (some ⟨0,off,some 7⟩) m cc::rK 1 l) ((0,.row cells ty size)::uo 1 l) (s8 1 l) rs) ((0,.row cells' ty size)::ms)=nu (fQ fn n (.slice (some ⟨0,off,some 7⟩) m cc::rK 1 l) ((0,.row cells ty size)::uo 1 l) (s8 1 l) rs) v ((0,.row cells' ty size)::ms))
  (hQ:∀ au SG v' w',au 0=some (.at g 0 cap)->aG au v v'->AP g w w'->(∃ fN,w'.heap[g]?=some (.cells fN ty (0,0))/\fN.size=cap*size/\fN.toList.take cells'.length=cells')->aM (aa.vu w g) au SG w'->(∀ p∈ms,SG p.1=some p.2)->Q (.returned v') w') :
  Calls P f (.slice (some ⟨g,off,none⟩) m c'::l.map cz.real).toArray w Q:=by
 have kA:=Se hg jy bA hc cN;have ZP:dB (λ_=>none) 0 (.at g 0 cap) 0=some (.at g 0 cap):=fE _ _ _;obtain⟨ι,c,h1,h2,h3,h4,h5,h6,h7⟩:=SF (g:=g) l 1 _ _ kA (λj x b o cp hj _ hb=>by
   by_cases A2:j=0
   ·subst A2;rw[ZP]at hb;injection hb with hb;injection hb with hb _ _;exact hb.symm
   ·unfold dB at hb;rw[ao A2]at hb;cases hb) (λk hk=>by unfold aY;rw[ao o_]) hl aU
 have qp:ι 0=some (.at g 0 cap):=h1 0 _ ZP;have ha:cS c ((0,.row cells ty size)::uo 1 l):=λk x hk=>by
  unfold ag at hk;split at hk
  ·rename_i hb;injection hk with hk;subst hk;rw[<-j0 hb,h5 0 o_];unfold aY;rw[aw rfl]
  ·exact h4 k x hk
 have aIz:aG ι (.slice (some ⟨0,off,some 7⟩) m cc) (.slice (some ⟨g,off,none⟩) m c'):=by have:=aG.slc (off:=off) qp hn mz;rwa[jZ]at this
 refine rJ gv hf hN n h (.cons aIz h6) h2 ha h3 λau bY v' w' hle jY hm dz=>?_;obtain⟨e1,e2⟩:=Sf hm (hle 0 _ qp) (dz _ (aT ..)) AQ;exact hQ au bY v' w' (hle 0 _ qp) jY e1 e2 hm λp hp=>dz p (bB _ hp)
theorem aIA{o:Oper}{x:Operand}{f:FuncId}{k k2 off m cc size n2 SH:Nat}{ty:TypeId}{cells cells':aj}{x2:Obj}{val:Value}(ho:dp o.op=some x)(eG:gk P f=true)(hkk:k2≠k)(kA:0<m)
  (cN:∀ v∈cells,flat v=true) (AQ:∀ v∈cells',flat v=true) (nA:flat val=true) (gN:x2.reads=true) (aIB:∀ v∈x2.cells,flat v=true) (aIC:n2=0->SH=0)
  (h:∀ w g cap cur c' v2,w.heap[g]?=some (.cells cur ty (0,0))->m<=c'->cc+c'=cap->cap<=maxLen->cur.size=cap*size->cur.toList.take cells.length=cells->cK w v2 n2 (x2.cells.take SH)->(∀ b o c,v2=.slice (some ⟨b,o,none⟩) n2 c->b≠g)->Calls P f #[.slice (some ⟨g,off,none⟩) m c',v2] w λe w'=>e=.returned val/\AP g w w'/\∃ fN,w'.heap[g]?=some (.cells fN ty (0,0))/\fN.size=cap*size/\fN.toList.take cells'.length=cells') :
  cA P B o [.func (.func f) #[] #[],.slice (some ⟨k,off,some 7⟩) m cc,.slice (some ⟨k2,0,some 7⟩) n2 0] [(k,some (.row cells ty size)),(k2,some x2)] val [(k,.row cells' ty size)]:=by
 refine jB (fi:=[]) (ca:=[]) ho eG λι c w hm jS args' ba=>?_;have hk:c k=some (.row cells ty size):=jS _ (aT ..);have fF:c k2=some x2:=jS _ (bB _ (aT ..));obtain⟨v,v2,rfl,hv,iw⟩:=jx ba;have hr:=oH hm fF gN aIB aIC iw;rw[l5]at hr;rcases hv.gW rfl with ⟨_,h0,_⟩|⟨g,oo,cap,c',hb,lp,mz,he⟩
 ·omega
 ·dsimp only at hb he;obtain⟨l,q1,q2⟩:=hm.born k _ hk;rw[hb]at q1;injection q1 with q1;subst q1;rcases q2 with q2|⟨b,aO,cur,e1,lW,dy,fX,jc⟩
  ·cases q2.1
  ·injection e1 with e1 e2 e3;subst e1;subst e2;subst e3;rw[jZ]at he;rw[he];have aU:∀ b o c,v2=.slice (some ⟨b,o,none⟩) n2 c->b≠g:=by
    rintro b o c1 rfl rfl
    rcases iw.gW rfl with ⟨_,_,_,_,e⟩|⟨b',o',aO,c2,gw,_,_,e⟩
    ·cases e
    ·injection e with e _ _;injection e with e;injection e with e _ _;subst e;simp only[Obj.reads,um]at gN;rcases gN with gN|gN
     ·exact hkk (hm.inj k2 k x2 _ _ _ _ _ _ fF gN hk rfl gw hb)
     ·exact(hm.seen k2 x2 _ _ _ fF gN gw).2 k _ _ _ hk rfl hb
   refine(h w g cap cur c' v2 lW lp mz dy fX (nj jc cN) hr aU).mono ?_
   rintro e w' ⟨rfl,pV,fN,p1,p2,p3⟩
   refine⟨ι,val,rfl,Map.le.refl _,.same nA,hm.write hk rfl hb pV.os pV.tape pV.output pV.size (λj hj EN=>pV.block j hj EN) (.inr ⟨g,cap,fN,rfl,p1,dy,p2,?_⟩) n_ rfl⟩;rw[p3];exact kg AQ
end
section
variable{B U V n T v1 v2 u2:Nat}
structure l9(B n U V T u2 v1 v2:Nat):Prop where
 hB:2<=B
 hU:U<V*B
 hT:T=U/B^(n+1)
 hu:u2=U/B^n%B
 kz:v1=V/B^(n+1)
 iw:v2=V/B^n%B
 top:B<=2*v1
 CN:v1<B
theorem l9.pow(h:l9 B n U V T u2 v1 v2):0<B^n:=cG (by have:=h.hB;omega)
theorem l9.two(h:l9 B n U V T u2 v1 v2):U/B^n=T*B+u2/\V/B^n=v1*B+v2:=by rw[h.hT,h.hu,h.kz,h.iw];exact⟨wS U n,wS V n⟩
theorem l9.aID(h:l9 B n U V T u2 v1 v2){q:Nat}(hq:q*v1<=T->False):U/V<q:=by
 have qD:0<V:=by
  rcases nZ V with e|e
  ·have:=h.hU;rw[e]at this;omega
  ·exact e
 refine Nat.lt_of_not_le λhle=>hq ?_;have h1:q*V<=U:=(CO qD).1 hle;rw[h.hT,h.kz];have hp:0<B^(n+1):=cG (by have:=h.hB;omega);rw[CO hp];have h2:V/B^(n+1)*B^(n+1)<=V:=CP _ _
 calc q*(V/B^(n+1))*B^(n+1)=q*(V/B^(n+1)*B^(n+1)):=by rw[fG]
  _<=q*V:=jr _ h2
  _<=U:=h1
structure A3(U V T v1 q r:Nat):Prop where
 eq:q*v1+r=T
 le:U/V<=q
theorem l9.start(h:l9 B n U V T u2 v1 v2):A3 U V T v1 (T/v1) (T%v1):=by
 refine⟨by rw[cP];exact je T v1,?_⟩;have hv:0<v1:=by have:=h.top;have:=h.hB;omega
 have:=h.aID (q:=T/v1+1) λhle=>by have:=(CO hv).2 hle;omega
 omega
theorem l9.small(h:l9 B n U V T u2 v1 v2):U/V<B:=by
 have qD:0<V:=by
  rcases nZ V with e|e
  ·have:=h.hU;rw[e]at this;omega
  ·exact e
 exact(iy qD).2 (by rw[cP];exact h.hU)
theorem l9.aIE(h:l9 B n U V T u2 v1 v2){q r:Nat}(g:A3 U V T v1 q r)(hc:B<=q\/r*B+u2<q*v2):U/V<q:=by
 rcases hc with hc|hc
 ·exact cx h.small hc
 ·have qD:0<V:=by
   rcases nZ V with e|e
   ·have:=h.hU;rw[e]at this;omega
   ·exact e
  rw[iy qD];obtain⟨e1,e2⟩:=h.two;have hp:=h.pow;have h1:U/B^n<q*(V/B^n):=by rw[e1,e2,<-g.eq,oJ,ft,<-fG];omega
  have h2:U<q*(V/B^n)*B^n:=(iy hp).1 h1;rw[fG]at h2;exact cx h2 (jr _ (CP _ _))
theorem l9.less(h:l9 B n U V T u2 v1 v2){q r:Nat}(g:A3 U V T v1 q r)(hc:B<=q\/r*B+u2<q*v2):0<q/\A3 U V T v1 (q-1) (r+v1):=by have al:=h.aIE g hc;obtain⟨p,rfl⟩:∃ p,q=p+1:=⟨q-1,(Nat.sub_add_cancel (Nat.one_le_of_lt al)).symm⟩;refine⟨by omega,?_,Nat.le_of_lt_succ al⟩;have:=g.eq;rw[ft,pU]at this;rw[Nq];omega
theorem l9.fin(h:l9 B n U V T u2 v1 v2){q r:Nat}(g:A3 U V T v1 q r)(hc:(q<B/\q*v2<=r*B+u2)\/B<=r):q<B/\q*V<U+V:=by
 obtain⟨e1,e2⟩:=h.two;have hp:=h.pow;have gZ:B^(n+1)=B^n*B:=dw ..;have hVd:=je V (B^n);have hVm:=cH V hp;rcases hc with ⟨hq,hc⟩|hr
 ·refine⟨hq,?_⟩;have h1:q*(V/B^n)<=U/B^n:=by rw[e1,e2,<-g.eq,oJ,ft,<-fG];omega
  have h2:q*(V/B^n)*B^n<=U:=(CO hp).1 h1;have h3:q*V=q*(V/B^n)*B^n+q*(V%B^n):=by rw[fG,<-oJ,cP (V/B^n),hVd]
  have h4:q*(V%B^n)<V:=by
   have h5:q*(V%B^n)<=(B-1)*B^n:=yN o_ (iM hVm);have h6:v1*B^(n+1)<=V:=by rw[h.kz];exact CP _ _
   have h7:1*B^(n+1)<=v1*B^(n+1):=e8 _ (by have:=h.top;have:=h.hB;omega);have h8:(B-1)*B^n<B^(n+1):=by rw[gZ,cP (B^n)];exact A4 (by have:=h.hB;omega) hp
   omega
  omega
 ·have xb:V<(v1+1)*B^(n+1):=by rw[h.kz];have jf:0<B^(n+1):=cG (by have:=h.hB;omega);exact(iy jf).1 (A5 _)
  have jf:0<B^(n+1):=cG (by have:=h.hB;omega);have hTU:T*B^(n+1)<=U:=by rw[h.hT];exact CP _ _
  have ZQ:T<(v1+1)*B:=by rw[h.hT,iy jf];refine cx h.hU ?_;rw[fG,cP B,<-fG];exact e8 _ (iM xb)
  have hqB:q<B:=by
   have h1:q*v1<B*v1:=by have:=g.eq;rw[ft,pU,cP v1]at ZQ;omega
   exact aIF h1
  refine⟨hqB,?_⟩;have h2:q*V<=q*((v1+1)*B^(n+1)):=jr _ (iM xb);have h3:q*((v1+1)*B^(n+1))<=T*B^(n+1):=by rw[<-fG];refine e8 _ ?_;have:=g.eq;rw[oJ,fZ];omega
  have qD:0<V:=by
   rcases nZ V with e|e
   ·have:=h.hU;rw[e]at this;omega
   ·exact e
  omega
theorem l9.aIG(h:l9 B n U V T u2 v1 v2)(r:Nat):B<=r+v1+v1:=by have:=h.top;omega
theorem l9.aIH(h:l9 B n U V T u2 v1 v2){q r:Nat}(g:A3 U V T v1 q r):q<=B*2+1:=by
 have jf:0<B^(n+1):=cG (by have:=h.hB;omega);have xb:V<(v1+1)*B^(n+1):=by rw[h.kz];exact(iy jf).1 (A5 _)
 have ZQ:T<(v1+1)*B:=by rw[h.hT,iy jf];refine cx h.hU ?_;rw[fG,cP B,<-fG];exact e8 _ (iM xb)
 have hv:0<v1:=by have:=h.top;have:=h.hB;omega
 have h1:q*v1<(B*2)*v1:=by
  have:=g.eq;have h2:(v1+1)*B<=(B*2)*v1:=by
   rw[ft,pU,fG,cP v1];have:B*1<=B*v1:=jr _ hv;have e:B*(2*v1)=B*v1+B*v1:=by rw[Nat.two_mul,oJ]
   omega
  omega
 have:=aIF h1;omega
def n9(B q V i:Nat):Nat:=q*(V%B^i)/B^i
theorem aII{q:Nat}:n9 B q V 0=0:=by simp[n9,tf]
theorem ZR(hB:0<B)(q V i:Nat):n9 B q V i+q*(V/B^i%B)=q*(V%B^(i+1))/B^i:=by have hp:0<B^i:=cG hB;rw[pg,oJ,<-fG,ph _ _ hp];rfl
theorem aIJ(hB:0<B)(q V i:Nat):(n9 B q V i+q*(V/B^i%B))/B=n9 B q V (i+1):=by rw[ZR hB,kB,<-dw];rfl
theorem ZS(hB:0<B)(q V i:Nat):(n9 B q V i+q*(V/B^i%B))%B=q*V/B^i%B:=by
 have hp:0<B^i:=cG hB;rw[ZR hB];have e:q*V=q*(V%B^(i+1))+(q*(V/B^(i+1))*B)*B^i:=by
  have h1:=je V (B^(i+1));have h2:q*(V/B^(i+1))*B*B^i=q*(B^(i+1)*(V/B^(i+1))):=by rw[dw];simp only[cP,mG,fG]
  rw[h2,<-oJ,mF,h1]
 rw[e,ph _ _ hp,CK]
theorem ZT(hB:0<B){q:Nat}(hq:q<B)(V i:Nat):n9 B q V i<B:=by have hp:0<B^i:=cG hB;unfold n9;rw[iy hp];have h1:q*(V%B^i)<=q*B^i:=jr _ (iM (cH _ hp));exact eW h1 (A4 hq hp)
end
section
variable{B:Nat}
def gg(B j R D:Nat):Nat:=R%B^j+D*B^j
theorem xc(hB:0<B)(j R D i:Nat):gg B j R D/B^(j+i)%B=D/B^i%B:=by have hp:0<B^j:=cG hB;unfold gg;rw[ep,<-kB,ph _ _ hp,l4 (cH _ hp),jZ]
theorem SI(hB:0<B){j t:Nat}(ht:t<j)(R D:Nat):gg B j R D/B^t%B=R/B^t%B:=by
 unfold gg;obtain⟨s,rfl⟩:∃ s,j=t+1+s:=⟨j-(t+1),by omega⟩;have hp:0<B^t:=cG hB;have e1:R%B^(t+1+s)/B^t%B=R/B^t%B:=by
  have e:B^(t+1+s)=B^t*(B*B^s):=by rw[ep,dw,fG]
  rw[e,AU,JP]
 have e2:D*B^(t+1+s)=(D*B^s*B)*B^t:=by rw[ep,dw];simp only[cP,mG,fG]
 rw[e2,ph _ _ hp,CK,e1]
theorem He(hB:0<B){j m D:Nat}(R:Nat)(h:D<B^m):gg B j R D<B^(j+m):=by have hp:0<B^j:=cG hB;unfold gg;have h1:=cH R hp;have h2:(D+1)*B^j<=B^m*B^j:=e8 _ h;rw[ft,pU]at h2;rw[ep,cP (B^j)];omega
theorem ZU(hB:0<B)(j R D E:Nat):gg B j (gg B j R D) E=gg B j R E:=by unfold gg;rw[CK,Nat.mod_mod]
theorem aIK(j R:Nat):gg B j R (R/B^j)=R:=by unfold gg;rw[cP,mF];exact je R (B^j)
theorem Hf(j R i:Nat):R/B^(j+i)%B=R/B^j/B^i%B:=by rw[ep,kB]
theorem Nr(hB:0<B)(L j R D:Nat):cX B L j (gg B j R D) R=ae B L R:=by
 unfold cX ae;refine yv λt _=>?_;by_cases h:t<j
 ·rw[aw h,SI hB h]
 ·rw[ao h]
theorem E1(hB:0<B){L m R S:Nat}(hR:R<B^m)(hS:S<B^m):cX B L m S R=ae B L S:=by
 unfold cX ae;refine yv λt _=>?_;by_cases h:t<m
 ·rw[aw h]
 ·rw[ao h,qC hR o_ hB,qC hS o_ hB]
def fT(B m U V q:Nat):Nat:=(U+B^(m+1)-q*V)%B^(m+1)
section
variable{m U V q:Nat}
theorem SJ(hB:0<B):fT B m U V q<B^(m+1):=cH _ (cG hB)
theorem ZV(hB:0<B){a i k:Nat}(h:i<k):a%B^k/B^i%B=a/B^i%B:=by have:=SI hB h a 0;unfold gg at this;rw[lB,jn]at this;exact this
theorem aIL(hB:0<B){a i k:Nat}(h:i<k):(a+B^k)/B^i%B=a/B^i%B:=by
 have e:B^k=B^(k-i-1)*B*B^i:=by rw[<-dw,<-ep];congr 1;omega
 rw[e,ph _ _ (cG hB),CK]
theorem aIM{a i k:Nat}(h:i<=k):(a+B^k)%B^i=a%B^i:=by
 have e:B^k=B^i*B^(k-i):=by rw[<-ep];congr 1;omega
 rw[e,EK]
def oM(B U V q i:Nat):Nat:=kC B U (q*V) i
theorem aIN{a b i k:Nat}(h:i<=k):kC B (a+B^k) b i=kC B a b i:=by unfold kC;rw[aIM h]
theorem aIO(hB:0<B)(hq:q*V<=U+B^(m+1)){i:Nat}(hi:i<=m):
  (U/B^i%B+2*B-(n9 B q V i+q*(V/B^i%B))%B-oM B U V q i)%B=fT B m U V q/B^i%B:=by
 unfold fT oM;rw[ZV hB o_,ZS hB,<-aIL hB (show i<m+1 by omega),<-aIN (show i<=m+1 by omega)];exact Sb hB hq i
theorem aIP(hB:0<B)(i:Nat):(if U/B^i%B<(n9 B q V i+q*(V/B^i%B))%B+oM B U V q i then 1 else 0)=oM B U V q (i+1):=by unfold oM;rw[ZS hB];exact Sa hB _ _ _
theorem aIQ(hB:0<B)(hq:q<B)(hV:V<B^m):q*V<B^(m+1):=by rw[dw,cP (B^m)];exact eW (e8 _ (iM hq)) (Y2 hV hB)
theorem aIR(hB:0<B)(hq:q<B)(hV:V<B^m)(hU:U<V*B):oM B U V q (m+1)=if U<q*V then 1 else 0:=by
 have CQ:U<B^(m+1):=by rw[dw];exact cx hU (e8 _ (iM hV))
 unfold oM kC;rw[dF CQ,dF (aIQ hB hq hV)]
theorem ZW(hB:0<B)(hV:V<B^m)(hU:U<V*B)(hle:U/V<=q)(h:¬U<q*V):q=U/V/\fT B m U V q=U%V:=by
 have CQ:U<B^(m+1):=by rw[dw];exact cx hU (e8 _ (iM hV))
 have qD:0<V:=by
  rcases nZ V with e|e
  ·rw[e]at hU;omega
  ·exact e
 have e:q=U/V:=by have:=(CO qD).2 (JZ.1 h);omega
 refine⟨e,?_⟩;unfold fT;have h1:=je U V;rw[cP]at h1;rw[<-e]at h1;have h2:U+B^(m+1)-q*V=U%V+B^(m+1):=by omega
 rw[h2,J0,dF (eW (JH _ _) CQ)]
theorem ZX(hB:0<B)(hV:V<B^m)(hU:U<V*B)(hb:q*V<U+V)(h:U<q*V):q=U/V+1/\(fT B m U V q+V)%B^(m+1)=U%V:=by
 have CQ:U<B^(m+1):=by rw[dw];exact cx hU (e8 _ (iM hV))
 have qD:0<V:=by
  rcases nZ V with e|e
  ·rw[e]at hU;omega
  ·exact e
 have mI:0<q:=by
  rcases nZ q with e|e
  ·rw[e,lB]at h;omega
  ·exact e
 obtain⟨p,rfl⟩:∃ p,q=p+1:=⟨q-1,by omega⟩;rw[ft,pU]at h hb;have e:p=U/V:=by have h1:p<=U/V:=(CO qD).2 o_;have h2:U/V<p+1:=(iy qD).2 (by rw[ft,pU];exact h);omega
 refine⟨by rw[e],?_⟩;unfold fT;have h1:=je U V;rw[cP,<-e]at h1;rw[Nat.mod_add_mod,ft,pU];have hpV:p*V<=U:=by omega
 have SK:V<=B^(m+1):=dh (iM hV) (cY hB o_);have h2:U+B^(m+1)-(p*V+V)+V=U%V+B^(m+1):=by omega
 rw[h2,J0,dF (eW (JH _ _) CQ)]
theorem SL(hB:0<B){D:Nat}{i:Nat}(hi:i<=m):(D/B^i%B+V/B^i%B+eH B D V i)%B=(D+V)%B^(m+1)/B^i%B:=by rw[ZV hB o_];exact GS hB D V i
end
theorem ZY(hB:0<B)(A V j:Nat):gg B j (A%(V*B^(j+1))) (A%(V*B^(j+1))/B^j%V)=A%(V*B^j):=by
 have hp:0<B^j:=cG hB;have h1:A%(V*B^j)=A%(V*B^(j+1))%(B^j*V):=by rw[cP (B^j),dw,<-fG,JP]
 rw[h1];generalize A%(V*B^(j+1))=R;rw[MU];unfold gg;rw[cP (B^j) (_%V)]
theorem ZZ(A V j:Nat):A%(V*B^(j+1))/B^j/V=A/V/B^j%B:=by rw[kB,dw,<-fG,cP (B^j) V,AU,kB]
theorem Z0{V:Nat}(hB:0<B)(hV:0<V)(A j:Nat):A%(V*B^(j+1))/B^j<V*B:=by have hp:0<B^j:=cG hB;rw[iy hp,fG,cP B,<-dw];exact cH _ (qE hV (cG hB))
theorem Z1{B k X i:Nat}(hB:0<B)(hk:∃ c,B=2^k*c):((X/B^(i+1)%B*B+X/B^i%B)/2^k)%B=X/2^k/B^i%B:=by
 obtain⟨c,hc⟩:=hk;have h2:0<2^k:=cG d_;have e1:X/B^i=X/B^(i+1)*B+X/B^i%B:=wS X i;have e2:X/B^(i+1)=X/B^(i+1)/B*B+X/B^(i+1)%B:=by rw[cP];exact(je _ _).symm
 have e3:X/2^k/B^i=X/B^i/2^k:=by rw[kB,kB,cP]
 rw[e3];generalize X/B^i%B=x0 at *;generalize X/B^i=Y at *;generalize X/B^(i+1)%B=x1 at *;generalize X/B^(i+1)/B=H at *;generalize X/B^(i+1)=Z at *;subst e1;subst e2;have e4:(H*B+x1)*B+x0=(x1*B+x0)+H*B*c*2^k:=by
  rw[ft];have:H*B*c*2^k=H*B*B:=by rw[fG (H*B),cP c,<-hc]
  omega
 have e5:H*B*c=H*c*B:=by rw[fG,cP B c,<-fG]
 rw[e4,ph _ _ h2,e5,CK]
end
section
variable{Bs:aa}{N:Nat}
def pX(x:Obj)(a:Nat):Prop:=x.reads=true/\∃ M,nd base a<=M/\x.cells=ak (ae base M a)
theorem A6{ι:Map}{c:Nat->Option Obj}{w:World}(hm:aM Bs ι c w){k a:Nat}{x:Obj}{v:Value}(hk:c k=some x)(hx:pX x a)(hv:aG ι (sl k (nd base a)) v):iz w v a:=by
 obtain⟨h1,M,h2,h3⟩:=hx;have:=oH (len:=nd base a) hm hk h1 (by rw[h3];exact fA _) (λh=>h) hv;rw[h3,l5]at this;have e:(ak (ae base M a)).take (nd base a)=ak (ae base (nd base a) a):=by unfold ak;rw[<-Co,JE h2]
 rw[e]at this;exact this
def oN(a:Nat):Obj:=.row (ak (ae base (nd base a) a)) 176 1
theorem nD(a:Nat):pX (oN a) a:=⟨rfl,_,bh _,rfl⟩
theorem xd(a:Nat):pX (.view (ak (ae base (nd base a) a))) a:=⟨rfl,_,bh _,rfl⟩
theorem Ns{o:Oper}{y:Operand}{f:FuncId}{args:aj}{c:Nat}(ho:dp o.op=some y)(eG:gk prog f=true)(de:∀ v∈args,flat v=true)
  (h:∀ w,Calls prog f args.toArray w λe w'=>∃ v,e=.returned v/\jD w w' v c/\Below w.heap.size w w') (k:Nat) :
  cA prog Bs o (.func (.func f) #[] #[]::args) [(k,none)] (sl k (nd base c)) [(k,oN c)]:=by
 refine jB (fi:=[]) (ca:=[]) ho eG λι cc w hm hn args' ba=>?_;rw[jo,iY]at ba;rw[nj ba de];refine(h w).mono ?_
 rintro e w' ⟨v,rfl,h1,h2⟩
 obtain⟨au,q1,q2,q3⟩:=EG hm h2 (k:=k) (hn _ (aT ..)) h1 (fA _);exact⟨au,v,rfl,q1,q3,q2⟩
theorem SM{o:Oper}{y:Operand}{f:FuncId}{k1 k2 a b c:Nat}{x1 x2:Obj}(ho:dp o.op=some y)(eG:gk prog f=true)(hx:pX x1 a)(gN:pX x2 b)
  (h:∀ w va vb,iz w va a->iz w vb b->Calls prog f #[va,vb] w λe w'=>∃ v,e=.returned v/\jD w w' v c/\Below w.heap.size w w') (k:Nat) :
  cA prog Bs o [.func (.func f) #[] #[],sl k1 (nd base a),sl k2 (nd base b)] [(k1,some x1),(k2,some x2),(k,none)] (sl k (nd base c)) [(k,oN c)]:=by
 refine jB (fi:=[]) (ca:=[]) ho eG λι cc w hm hn args' ba=>?_;rw[jo,iY]at ba;obtain⟨va,vb,rfl,hv,iw⟩:=jx ba;refine(h w va vb (A6 hm (hn (k1,some x1) s_) hx hv) (A6 hm (hn (k2,some x2) s_) gN iw)).mono ?_
 rintro e w' ⟨v,rfl,h1,h2⟩
 obtain⟨au,q1,q2,q3⟩:=EG hm h2 (k:=k) (hn (k,none) s_) h1 (fA _);exact⟨au,v,rfl,q1,q3,q2⟩
theorem Hg{o:Oper}{y:Operand}{f:FuncId}{post:aj}{k1 a:Nat}{x1:Obj}{res:Value}(ho:dp o.op=some y)(eG:gk prog f=true)(hx:pX x1 a)(Sg:∀ v∈post,flat v=true)(AE:flat res=true)
  (h:∀ w va,iz w va a->Calls prog f (va::post).toArray w λe w'=>e=.returned res/\Below w.heap.size w w') :
  cA prog Bs o (.func (.func f) #[] #[]::sl k1 (nd base a)::post) [(k1,some x1)] res []:=by
 refine jB (fi:=[]) (ca:=[]) ho eG λι cc w hm hn args' ba=>?_;rw[jo,iY]at ba;cases ba with
 |cons hv hp=>
 rw[nj hp Sg];refine(h w _ (A6 hm (hn _ (aT ..)) hx hv)).mono ?_
 rintro e w' ⟨rfl,h2⟩
 exact⟨ι,res,rfl,Map.le.refl _,.same AE,hm.call h2⟩
theorem Nt{o:Oper}{y:Operand}{f:FuncId}{k1 k2 a b:Nat}{x1 x2:Obj}{res:Value}(ho:dp o.op=some y)(eG:gk prog f=true)(hx:pX x1 a)(gN:pX x2 b)(AE:flat res=true)
  (h:∀ w va vb,iz w va a->iz w vb b->Calls prog f #[va,vb] w λe w'=>e=.returned res/\Below w.heap.size w w') :
  cA prog Bs o [.func (.func f) #[] #[],sl k1 (nd base a),sl k2 (nd base b)] [(k1,some x1),(k2,some x2)] res []:=by
 refine jB (fi:=[]) (ca:=[]) ho eG λι cc w hm hn args' ba=>?_;rw[jo,iY]at ba;obtain⟨va,vb,rfl,hv,iw⟩:=jx ba;refine(h w va vb (A6 hm (hn (k1,some x1) s_) hx hv) (A6 hm (hn (k2,some x2) s_) gN iw)).mono ?_
 rintro e w' ⟨rfl,h2⟩
 exact⟨ι,res,rfl,Map.le.refl _,.same AE,hm.call h2⟩
end
def pk(a:Nat):Value:=.string (BA (cd a))
def E2(neg:Bool)(a:Nat):Value:=.agg #[.bool (neg&&decide (a≠0)),pk a]
theorem qF(a:Nat):((BA (cd a)).toList==(ByteArray.mk #[]).toList)=decide (a=0):=by rw[EO,s9];exact aIo
theorem Z2{w:World}{va:Value}{a:Nat}{neg:Bool}(ga:iz w va a)(h1:nd base a<35184372088832):
  Calls prog 149 #[va,.bool neg] w λe w'=>e=.returned (E2 neg a)/\Below w.heap.size w w':=by
 have hl:∀ s∈[cz.row va (nd base a) (ak (ae base (nd base a) a)),.plain (.bool neg)],s.OK w:=by
  intro s hs;simp at hs;rcases hs with rfl|rfl
  ·exact⟨ga,fA _⟩
  ·exact rfl
 cases neg with
 |false=>
  exact lC (Q:=λe w'=>e=.returned (E2 false a)/\Below w.heap.size w w') mixed func149 [cz.row va (nd base a) (ak (ae base (nd base a) a)),.plain (.bool false)] hl 100 (N:=15) k_
   (rs:=[(.step 7 (av f149 7) _ _ _ _ (Hg (y:=.func 176) (k1:=0) (post:=[]) k_ k_ (xd a) n_ rfl λw va h=>ZO h h1):aX prog (aa.at w) 15)])
   (v:=.agg #[.bool false,pk a]) (ms:=[]) k_ λau bY v' w' hc bj _ _=>⟨by rw[hc.eR rfl];rfl,bj.base⟩
 |true=>
  have e:(!((BA (cd a)).toList==(ByteArray.mk #[]).toList))=decide (a≠0):=by rw[qF];simp
  exact lC (Q:=λe w'=>e=.returned (E2 true a)/\Below w.heap.size w w') mixed func149 [cz.row va (nd base a) (ak (ae base (nd base a) a)),.plain (.bool true)] hl 100 (N:=15) k_
   (rs:=[(.step 7 (av f149 7) _ _ _ _ (Hg (y:=.func 176) (k1:=0) (post:=[]) k_ k_ (xd a) n_ rfl λw va h=>ZO h h1):aX prog (aa.at w) 15),.rw 11 (.bool (!((BA (cd a)).toList==(ByteArray.mk #[]).toList))) (.bool (decide (a≠0))) (by rw[e])])
   (v:=.agg #[.bool (decide (a≠0)),pk a]) (ms:=[]) k_ λau bY v' w' hc bj _ _=>⟨by rw[hc.eR rfl];simp[E2],bj.base⟩
section
variable{Bs:aa}{n a k:Nat}
theorem aIS{B L X Y i d e:Nat}(h:i+1<L)(h0:d=Y/B^i%B)(h1:e=Y/B^(i+1)%B)(ho:∀ t,t≠i->t≠i+1->X/B^t%B=Y/B^t%B):((ae B L X).set i d).set (i+1) e=ae B L Y:=by
 refine SN λt=>?_;rw[List.getElem?_set,List.getElem?_set];by_cases ht:t<L
 ·rw[eg ht,eg ht];by_cases h2:i+1=t
  ·subst h2;rw[aw rfl,aw (by simp[oI];omega),h1]
  ·rw[ao h2];by_cases h3:i=t
   ·subst h3;rw[aw rfl,aw (by rw[oI];omega),h0]
   ·rw[ao h3,ho t (λe=>h3 e.symm) (λe=>h2 e.symm)]
 ·have e1:(ae B L X)[t]?=none:=Av (by rw[oI];omega);have e2:(ae B L Y)[t]?=none:=Av (by rw[oI];omega);rw[e1,e2,ao o_,ao o_]
theorem aIT{x c k:Nat}(hk:k<=31)(hx:x<base)(hc:c<2^k):(c||| (x*2^k%base))=(c+x*2^k)%base/\(c+x*2^k)/base=x*2^k/base/\x*2^k/base<2^k:=by
 obtain⟨m,hm⟩:∃ m,base=m*2^k:=⟨2^(32-k),by rw[<-ep,show 32-k+k=32 by omega]⟩;have hp:0<2^k:=cG d_;have po:0<m:=by
  rcases nZ m with e|e
  ·rw[e,lB]at hm;exact absurd hm d_
  ·exact e
 have e1:x*2^k%base=x%m*2^k:=by rw[hm,Z3]
 have e2:x*2^k/base=x/m:=by rw[hm,Z4 _ _ hp]
 have e3:(c+x*2^k)/base=x/m:=by rw[hm,cP m,<-kB,ph _ _ hp,l4 hc,jZ]
 have e4:(c+x*2^k)%base=c+x%m*2^k:=by
  have h1:=je (c+x*2^k) base;rw[e3]at h1;have h2:=je x m;have h3:x*2^k=base*(x/m)+x%m*2^k:=by
   rw[hm]
   conv=>lhs;rw[<-h2]
   rw[ft,A7]
  generalize base*(x/m)=z at h1 h3;omega
 refine⟨?_,e3.trans e2.symm,?_⟩
 ·have:=Nb (i:=k) hc (x%m);rw[e1,e4,Nat.or_comm,cP,<-this];omega
 ·rw[e2,iy po,cP,<-hm];exact hx
theorem aIU{i:Nat}(hk:k<=31):(a%base^i*2^k)/base^i%base=(a%base^i*2^k)/base^i/\(a%base^i*2^k)/base^i<2^k:=by
 have hp:0<base^i:=cG d_;have h1:(a%base^i*2^k)/base^i<2^k:=by rw[iy hp,cP];exact Y2 (cH _ hp) (cG d_)
 refine⟨dF (cx h1 ?_),h1⟩;exact dh (cY d_ hk) d_
theorem aIV{i:Nat}:(a%base^(i+1)*2^k)/base^i=(a%base^i*2^k)/base^i+a/base^i%base*2^k:=by have hp:0<base^i:=cG d_;rw[pg,ft,A7,ph _ _ hp]
def rT(n a k i:Nat):aV:=[(14,vI i),(13,vI n),(12,sl 0 n),(5,sl 1 (n+1)),(1,vI k)]
def oO(n a k i:Nat):aH:=[(0,.view (ak (ae base n a))),(1,.row (ak (ae base (n+1) (a%base^i*2^k))) 176 1)]
theorem SO{i:Nat}(hi:i<n)(hk:k<=31)(h63:n<35184372088832):
  ah prog Bs 40 (aE (af f204 0)) (rT n a k i) (oO n a k i) 2 ⟨.normal,rT n a k (i+1),oO n a k (i+1),2⟩:=by
 have hx:=gP (B:=base) d_ a i;obtain⟨s1,s2⟩:=aIU (a:=a) (k:=k) (i:=i) hk;have s3:=aIV (a:=a) (k:=k) (i:=i);have iX:(ak (ae base (n+1) (a%base^i*2^k)))[i]?=some (aW ((a%base^i*2^k)/base^i)):=by rw[<-s1];exact kD (eg o_)
 have jm:∀ d e,d=(a%base^(i+1)*2^k)/base^i%base->e=(a%base^(i+1)*2^k)/base^(i+1)%base->((ae base (n+1) (a%base^i*2^k)).set i d).set (i+1) e=ae base (n+1) (a%base^(i+1)*2^k):=by
  intro d e hd he;refine aIS o_ hd he λt h1 h2=>?_;rcases eC t i with h|h
  ·have e1:a%base^(i+1)*2^k=gg base i (a%base^i*2^k) ((a%base^i*2^k)/base^i+a/base^i%base*2^k):=by unfold gg;rw[pg,ft,ft,<-ug,Nat.mod_add_div',A7]
   rw[e1,SI d_ h]
  ·have hp:0<base^i:=cG d_;have b1:a%base^i*2^k<base^(i+1):=by rw[dw];exact Z5 (cH _ hp) (dh (cY d_ hk) d_) d_
   have b2:a%base^(i+1)*2^k<base^(i+2):=by rw[dw _ (i+1)];exact Z5 (cH _ (cG d_)) (dh (cY d_ hk) d_) d_
   rw[qC b1 o_ d_,qC b2 o_ d_]
 generalize hc:(a%base^i*2^k)/base^i=c at *;generalize Hh:a/base^i%base=x at *;obtain⟨t1,t2,t3⟩:=aIT hk hx s2;have hd:(c||| x*2^k%base)=(a%base^(i+1)*2^k)/base^i%base:=by rw[s3,t1]
 have he:x*2^k/base=(a%base^(i+1)*2^k)/base^(i+1)%base:=by
  have e5:∀ Z:Nat,Z/base^(i+1)=Z/base^i/base:=λZ=>by rw[dw,kB]
  rw[e5,s3,t2];exact(dF (cx t3 (dh (cY d_ hk) d_))).symm
 have jm:=jm _ _ hd he;have h64:x*2^k<18446744073709551616:=by have h1:x*2^k<=(base-1)*2^31:=yN o_ (cY d_ hk);exact eW h1 d_
 have w25:IntKind.u32.wrap ((x:Int)*2^(min k IntKind.u32.bits))=((x*2^k%base:Nat):Int):=by
  have e:(x:Int)*2^k=((x*2^k:Nat):Int):=by simp
  rw[show min k IntKind.u32.bits=k from nV (by show k<=32;omega),nw,e];unfold base;omega
 have w34:IntKind.u64.wrap ((x:Int)*2^(min k IntKind.u64.bits))=((x*2^k:Nat):Int):=by
  have e:(x:Int)*2^k=((x*2^k:Nat):Int):=by simp
  rw[show min k IntKind.u64.bits=k from nV (by show k<=64;omega),jR,e];omega
 have q1:x*2^k%base<base:=cH _ d_;have q2:c<base:=cx s2 (dh (cY d_ hk) d_);have q3:x*2^k/base<base:=cx t3 (dh (cY d_ hk) d_);have J1:eU prog 176 (ak (ae base (n+1) (a%base^i*2^k))) i (aW (c||| x*2^k%base))=some (ak ((ae base (n+1) (a%base^i*2^k)).set i (c||| x*2^k%base))):=by rw[yF _ _ _ (by simp[ak,oI];omega),yG]
 have SP:eU prog 176 (ak ((ae base (n+1) (a%base^i*2^k)).set i (c||| x*2^k%base))) (i+1) (aW (x*2^k/base))=some (ak (ae base (n+1) (a%base^(i+1)*2^k))):=by rw[yF _ _ _ (by simp[ak,oI];omega),yG,jm]
 generalize x*2^k=y at *;generalize kX:(c||| y%base)=d at *;exact aA [.lt 15 i n true (by simp[hi]),.ix f204 17 0 n i hi k_,.ld f204 18 176 0 i (.view (ak (ae base n a))) (aW x) rfl (by rw[fH,<-Hh];exact kD (eg hi)) k_,.ix f204 21 1 (n+1) i o_ k_,.ld f204 22 176 1 i (.row (ak (ae base (n+1) (a%base^i*2^k))) 176 1) (aW c) rfl (by rw[fH];exact iX) k_,.shl f204 25 .u32 (x:Int) ((y%base:Nat):Int) k w25 k_,.quo 26 .u32 _ ((d:Nat):Int) ((Sd q2 q1).trans (by rw[kX])),.ix f204 27 1 (n+1) i o_ k_,.st f204 100027 176 1 i (.row (ak (ae base (n+1) (a%base^i*2^k))) 176 1) (aW d) (.row (ak ((ae base (n+1) (a%base^i*2^k)).set i d)) 176 1) rfl J1 rfl k_,.sum 30 i 1 (i+1) rfl o_,.wr 32 .u64 (x:Int) (x:Int) (by rw[jR];unfold base at hx;omega),.shl f204 34 .u64 (x:Int) (y:Int) k w34 k_,.quo 35 .u64 ((y:Int).fdiv ((2:Int)^32)) ((y/base:Nat):Int) (by rw[rM _ d_];unfold base;omega),.wr 36 .u32 ((y/base:Nat):Int) ((y/base:Nat):Int) (by rw[nw];unfold base at q3 ⊢;omega),.ix f204 37 1 (n+1) (i+1) o_ k_,.st f204 100037 176 1 (i+1) (.row (ak ((ae base (n+1) (a%base^i*2^k)).set i d)) 176 1) (aW (y/base)) (.row (ak (ae base (n+1) (a%base^(i+1)*2^k))) 176 1) rfl SP rfl k_,.sum 38 i 1 (i+1) rfl o_]
theorem SQ(hk:k<=31)(h63:n<35184372088832):
  ah prog Bs 40 (.block 0 (af f204 0)) (rT n a k 0) (oO n a k 0) 2 ⟨.normal,rT n a k n,oO n a k n,2⟩:=
 bO (ch (b:=aE (af f204 0)) (r:=⟨.exit 0,rT n a k n,oO n a k n,2⟩) n (rT n a k) (oO n a k) (λi t _=>jP (l:=oO n a k i) (m:=oO n a k 0) rfl t) (λi hi=>SO hi hk h63)
  (aA [.lt 15 n n false s_]) n_)
end
def Z6(w w':World)(v:Value)(n a:Nat):Prop:=w'.ownsRow w.heap.size 176 1 v n (ak (ae base n a))
theorem aIW{w:World}{va:Value}{a k:Nat}(ga:iz w va a)(hk:k<=31)(h1:nd base a<35184372088832):
  Calls prog 204 #[va,vI k] w λe w'=>∃ v,e=.returned v/\Z6 w w' v (nd base a+1) (a*2^k)/\Below w.heap.size w w':=by
 have al:=dO (B:=base) d_ a;have hl:∀ s∈[cz.row va (nd base a) (ak (ae base (nd base a) a)),.plain (vI k)],s.OK w:=by
  intro s hs;simp at hs;rcases hs with rfl|rfl
  ·exact⟨ga,fA _⟩
  ·exact rfl
 unfold iz at ga;generalize nd base a=n at *;have ba:a%base^n=a:=dF al
 refine lC (Q:=λe w'=>∃ v,e=.returned v/\Z6 w w' v (n+1) (a*2^k)/\Below w.heap.size w w') mixed func204 [cz.row va n (ak (ae base n a)),.plain (vI k)] hl 100 (N:=40) k_
  (rs:=[(aX.sum 10 n 1 (n+1) rfl o_:aX prog (aa.at w) 40),.pS f204 11 1 (n+1) 176 4 (aW 0) (ak (ae base (n+1) (a%base^0*2^k))) (by rw[rN,tf,lB,Sj,EL]) rfl rfl o_ (by simp[maxLen];omega) k_,.code 0 _ _ _ _ _ (SQ (n:=n) (a:=a) hk h1)])
  (v:=sl 1 (n+1)) (ms:=[(1,.row (ak (ae base (n+1) (a%base^n*2^k))) 176 1)]) k_ λau bY v' w' hc bj dz _=>⟨v',rfl,?_,bj.base⟩
 have:=vo bj (dz _ (aT ..)) hc (by simp[ak,oI]) (fA _);rw[kj (by simp[ak,oI]),ba]at this;exact this
def bl(x:Nat):Nat:=if x=0 then 0 else x.log2+1
theorem SR{x k:Nat}(h:2^k<=x):bl x=bl (x/2^k)+k:=by
 have hp:0<2^k:=cG d_;have hx:x≠0:=by omega
 have hq:0<x/2^k:=Nu h hp;unfold bl;rw[ao hx,ao o_];have h1:=Z7 (n:=x/2^k) o_;have h2:=Nat.lt_log2_self (n:=x/2^k);have e:x.log2=(x/2^k).log2+k:=by
  rw[Nat.log2_eq_iff hx];constructor
  ·rw[ep];exact(CO hp).1 h1
  ·rw[show(x/2^k).log2+k+1=((x/2^k).log2+1)+k by omega,ep];exact(iy hp).1 h2
 omega
theorem Z8{x n:Nat}(h:x<2^n):bl x<=n:=by
 unfold bl;split
 ·omega
 ·rename_i hx;have:=Z7 hx;rcases eC x.log2 n with h1|h1
  ·omega
  ·have:=cY (show 0<2 by decide) h1;omega
theorem aIX{x:Nat}(h:x≠0):∃ k,bl x=k+1/\2^k<=x/\x<2^(k+1):=by refine⟨x.log2,by unfold bl;rw[ao h],Z7 h,Nat.lt_log2_self⟩
section
variable{P:Program}{B:aa}{N:Nat}
theorem aIY{o:Oper}(ho:G1 P o=true){kd:IntKind}{s:ByteArray}{i:Nat}{c:UInt8}(hc:s[i]?=some c):cA P B o [.string s,.int kd i] [] (.int .u8 (c.toNat:Int)) []:=by
 unfold G1 at ho;split at ho
 ·rename_i t p q bN;split at ho
  ·rename_i ht;refine(B8 (λu hu=>by simp at hu;rcases hu with rfl|rfl<;>rfl) rfl λρ fO w _=>?_).step;rw[bN]at fO;simp[Op.operands]at fO;have h0:(0:Int)<=(i:Int):=by omega
   simp[execOp,bN,fO.1,fO.2,Instr.index,asIntOf,iI ht,h0,hc]
  ·cases ho
 ·cases ho
def aX.Nv(fn:Func)(key:Nat)(kd:IntKind)(s:ByteArray)(i:Nat)(c:UInt8)(hc:s[i]?=some c)(ho:G1 P (av fn key)=true):aX P B N:=
 .step key (av fn key) [.string s,.int kd i] [] (.int .u8 (c.toNat:Int)) [] (aIY ho hc)
end
noncomputable def Hi:ByteArray:=match (av f193 16).op with|.index _ (.const (.string s)) _=>s|_=>default
theorem aIZ:∀ i,i<256->Hi[i]?=some (UInt8.ofNat (bl i)):=by decide +kernel
theorem aI0{x:Nat}(hx:x<base):aD prog 193 [aW x] (vI (bl x)):=by
 have fin:∀ z,z<256->∃ c:UInt8,Hi[z]?=some c/\c.toNat=bl z:=λz hz=>⟨_,aIZ z hz,by have:=Z8 (x:=z) (n:=8) hz;rw[Nk];exact dF o_⟩
 have w8:∀ z,z<256->IntKind.u8.wrap ((z:Nat):Int)=(z:Int):=λz h=>by rw[ZN];omega
 have shr:∀(z k:Nat),(z:Int).fdiv ((2:Int)^k)=((z/2^k:Nat):Int):=λz k=>by rw[rM _ (Hc d_),tg,Hd];rfl
 by_cases h1:65536<=x
 ·have e1:=SR (k:=16) h1;obtain⟨y,hy⟩:∃ y,y=x/2^16:=⟨_,rfl⟩;have GB:y<65536:=by rw[hy];unfold base at hx;omega
  by_cases h2:256<=y
  ·have e2:=SR (x:=y) (k:=8) h2;obtain⟨z,hz⟩:∃ z,z=y/2^8:=⟨_,rfl⟩;have A8:z<256:=by rw[hz];omega
   obtain⟨c,c1,c2⟩:=fin z A8;have e:bl x=24+c.toNat:=by rw[e1,<-hy,e2,<-hz,c2];omega
   rw[e];exact aK func193 (λ_=>[.ge 4 x 65536 true (by simp[h1]),.quo 6 .u32 ((x:Int).fdiv ((2:Int)^16)) (y:Int) (by rw[shr,hy]),.ge 8 y 256 true (by simp[h2]),.quo 10 .u32 ((y:Int).fdiv ((2:Int)^8)) (z:Int) (by rw[shr,hz]),.wr 15 .u8 (z:Int) (z:Int) (w8 z A8),.Nv f193 16 .u8 Hi z c c1 k_,.wr 17 .i64 (c.toNat:Int) (c.toNat:Int) (by rw[c8];have:=c.toNat_lt;omega),.sum 18 24 c.toNat (24+c.toNat) rfl (by have:=c.toNat_lt;omega)])
  ·obtain⟨c,c1,c2⟩:=fin y o_;have e:bl x=16+c.toNat:=by rw[e1,<-hy,c2];omega
   rw[e];exact aK func193 (λ_=>[.ge 4 x 65536 true (by simp[h1]),.quo 6 .u32 ((x:Int).fdiv ((2:Int)^16)) (y:Int) (by rw[shr,hy]),.ge 8 y 256 false (by simp;omega),.wr 15 .u8 (y:Int) (y:Int) (w8 y o_),.Nv f193 16 .u8 Hi y c c1 k_,.wr 17 .i64 (c.toNat:Int) (c.toNat:Int) (by rw[c8];have:=c.toNat_lt;omega),.sum 18 16 c.toNat (16+c.toNat) rfl (by have:=c.toNat_lt;omega)])
 ·by_cases h2:256<=x
  ·have e2:=SR (x:=x) (k:=8) h2;obtain⟨z,hz⟩:∃ z,z=x/2^8:=⟨_,rfl⟩;have A8:z<256:=by rw[hz];omega
   obtain⟨c,c1,c2⟩:=fin z A8;have e:bl x=8+c.toNat:=by rw[e2,<-hz,c2];omega
   rw[e];exact aK func193 (λ_=>[.ge 4 x 65536 false (by simp;omega),.ge 8 x 256 true (by simp[h2]),.quo 10 .u32 ((x:Int).fdiv ((2:Int)^8)) (z:Int) (by rw[shr,hz]),.wr 15 .u8 (z:Int) (z:Int) (w8 z A8),.Nv f193 16 .u8 Hi z c c1 k_,.wr 17 .i64 (c.toNat:Int) (c.toNat:Int) (by rw[c8];have:=c.toNat_lt;omega),.sum 18 8 c.toNat (8+c.toNat) rfl (by have:=c.toNat_lt;omega)])
  ·obtain⟨c,c1,c2⟩:=fin x o_;have e:bl x=0+c.toNat:=by rw[c2];omega
   rw[e];exact aK func193 (λ_=>[.ge 4 x 65536 false (by simp;omega),.ge 8 x 256 false (by simp;omega),.wr 15 .u8 (x:Int) (x:Int) (w8 x o_),.Nv f193 16 .u8 Hi x c c1 k_,.wr 17 .i64 (c.toNat:Int) (c.toNat:Int) (by rw[c8];have:=c.toNat_lt;omega),.sum 18 0 c.toNat (0+c.toNat) rfl (by have:=c.toNat_lt;omega)])
theorem aI1{x:Nat}(hx:x<base):aD prog 203 [aW x] (vI (32-bl x)):=
 aK func203 (λ_=>[(aI0 hx).at 4,.eV 5 32 (bl x) (32-bl x) (by have:=Z8 (x:=x) (n:=32) hx;omega) o_])
def pY(x:Nat):Value:=.int .u64 (x:Int)
theorem qG{x:Nat}(h:x<18446744073709551616):IntKind.u64.wrap (x:Int)=(x:Int):=by rw[jR];omega
theorem SS{x:Nat}(h:x<base):IntKind.u64.wrap ((x:Int)*2^32)=((x*base:Nat):Int):=by
 have e:(x:Int)*2^32=((x*base:Nat):Int):=by rw[nU];rfl
 rw[e];exact qG (by have:=A4 (k:=base) h d_;exact cx this d_)
theorem SV{x y:Nat}(hx:x<base)(hy:y<base):IntKind.u64.wrap (((BitVec.ofInt IntKind.u64.bits ((x*base:Nat):Int))||| (BitVec.ofInt IntKind.u64.bits (y:Int))).toNat:Int)=((x*base+y:Nat):Int):=by
 have h1:x*base<18446744073709551616:=by have:=A4 (k:=base) hx d_;exact cx this d_
 have h2:=Nb (i:=32) hy x;rw[Sq h1 (l8 hy d_),cP x base];exact cI _ h2.symm
section
variable{Bs:aa}{j m L R V T v1 v2 u2:Nat}
def us(j m:Nat):Value:=.slice (some ⟨0,j,some 7⟩) (m+1) j
def kE(j m q r:Nat):aV:=[(7,pY q),(8,pY r),(5,vI m),(0,us j m),(1,sl 1 m)]
def gS(L R m V:Nat):aH:=[(0,.row (ak (ae base L R)) 176 1),(1,.view (ak (ae base m V)))]
structure DG(j e L R V T v1 v2 u2:Nat):Prop where
 ds:l9 base e (R/base^j) V T u2 v1 v2
 hL:j+(e+2)+1<=L
 hV:V<base^(e+2)
 h63:L<35184372088832
section
variable{e:Nat}(h:DG j e L R V T v1 v2 u2)
include h
theorem DG.hR:R/base^j<base^(e+3):=by have h1:=h.ds.hU;have h2:V*base<=base^(e+2)*base:=e8 _ (iM h.hV);rw[<-dw]at h2;exact cx h1 h2
theorem DG.ud{i:Nat}(hi:i<=e+2):(ak (ae base L R))[j+i]?=some (aW (R/base^j/base^i%base)):=by rw[<-Hf];exact kD (eg (by have:=h.hL;omega))
omit h in
theorem DG.vd{i:Nat}(hi:i<e+2):(ak (ae base (e+2) V))[i]?=some (aW (V/base^i%base)):=kD (eg hi)
theorem DG.SX:V/base^(e+1)%base=v1:=by rw[h.ds.kz];exact EH h.hV
theorem DG.Z9:R/base^j/base^(e+2)%base*base+R/base^j/base^(e+1)%base=T:=by rw[EH (h.hR),h.ds.hT,<-wS]
theorem DG.u2d:R/base^j/base^e%base=u2:=h.ds.hu.symm
theorem DG.v2d:V/base^e%base=v2:=h.ds.iw.symm
end
noncomputable def SY{e:Nat}(h:DG j e L R V T v1 v2 u2)(q r:Nat)(Hj:q<base)(hr:r<base)(tr:Bool)(hq:tr=decide (r*base+u2<q*v2))(more:bE prog Bs 159):bE prog Bs 159:=
 have iw:v2<base:=by rw[h.ds.iw];exact cH _ d_
 have fq:u2<base:=by rw[h.ds.hu];exact cH _ d_
 have hp:q*v2<18446744073709551616:=cx (pT Hj iw) d_;
  .ge 48 q 4294967296 false (by simp;exact Hj)::.eV 53 (e+2) 2 e rfl (by have:=h.hL;have:=h.h63;omega)::.ix f205 54 1 (e+2) e o_ k_::
  .ld f205 55 176 1 e (.view (ak (ae base (e+2) V))) (aW v2) rfl (by rw[fH,<-h.v2d];exact DG.vd o_) k_::.wr 56 .u64 (v2:Int) (v2:Int) (qG (l8 iw d_))::
  .wr 57 .u64 ((q:Int)*(v2:Int)) ((q*v2:Nat):Int) (by rw[<-nU];exact qG hp)::.wr 59 .u64 ((r:Int)*2^32) ((r*base:Nat):Int) (SS hr)::
  .eV 62 (e+2) 2 e rfl (by have:=h.hL;have:=h.h63;omega)::.wP f205 63 0 j (e+3) j e o_ k_::
  .ld f205 64 176 0 (j+e) (.row (ak (ae base L R)) 176 1) (aW u2) rfl (by rw[fH,<-h.u2d];exact h.ud o_) k_::.wr 65 .u64 (u2:Int) (u2:Int) (qG (l8 fq d_))::
  .quo 66 .u64 _ ((r*base+u2:Nat):Int) (SV hr fq)::.gt 67 (q*v2) (r*base+u2) tr hq.symm::more
noncomputable def Nw{e:Nat}(h:DG j e L R V T v1 v2 u2)(q r:Nat)(hq:0<q/\q<18446744073709551616)(hr:r<base)(tr:Bool)(ht:tr=decide (base<=r+v1)):bE prog Bs 159:=
 have kz:v1<base:=h.ds.CN;
 [.wr 70 .u64 ((q:Int)-1) ((q-1:Nat):Int) (by rw[jR];omega),.eV 74 (e+2) 1 (e+1) rfl (by have:=h.hL;have:=h.h63;omega),.ix f205 75 1 (e+2) (e+1) o_ k_,.ld f205 76 176 1 (e+1) (.view (ak (ae base (e+2) V))) (aW v1) rfl (by rw[fH,<-h.SX];exact DG.vd o_) k_,.wr 77 .u64 (v1:Int) (v1:Int) (qG (l8 kz d_)),.wr 78 .u64 ((r:Int)+(v1:Int)) ((r+v1:Nat):Int) (by rw[<-vz];exact qG (by unfold base at hr kz;omega)),.ge 80 (r+v1) 4294967296 tr ht.symm]
section
variable{e:Nat}(h:DG j e L R V T v1 v2 u2)
include h
theorem aAa{q r:Nat}(Hj:q<base)(hr:r<base)(hq:q*v2<=r*base+u2):
  ah prog Bs 159 (aE (af f205 0)) (kE j (e+2) q r) (gS L R (e+2) V) 2 ⟨.exit 0,kE j (e+2) q r,gS L R (e+2) V,2⟩:=
 aA (SY h q r Hj hr false (by simp;omega) [])
theorem aI2{q r:Nat}(hq:0<q/\q<18446744073709551616)(hr:r<base)(hc:base<=q\/r*base+u2<q*v2)(ht:r+v1<base):
  ah prog Bs 159 (aE (af f205 0)) (kE j (e+2) q r) (gS L R (e+2) V) 2 ⟨.normal,kE j (e+2) (q-1) (r+v1),gS L R (e+2) V,2⟩:=by
 by_cases hb:base<=q
 ·exact aA (.ge 48 q 4294967296 true (by simp;exact hb)::Nw h q r hq hr false (by simp;omega))
 ·exact aA (SY h q r o_ hr true (by simp[hc.resolve_left hb]) (Nw h q r hq hr false (by simp;omega)))
theorem aAb{q r:Nat}(hq:0<q/\q<18446744073709551616)(hr:r<base)(hc:base<=q\/r*base+u2<q*v2)(ht:base<=r+v1):
  ah prog Bs 159 (aE (af f205 0)) (kE j (e+2) q r) (gS L R (e+2) V) 2 ⟨.exit 0,kE j (e+2) (q-1) (r+v1),gS L R (e+2) V,2⟩:=by
 by_cases hb:base<=q
 ·exact aA (.ge 48 q 4294967296 true (by simp;exact hb)::Nw h q r hq hr true (by simp;omega))
 ·exact aA (SY h q r o_ hr true (by simp[hc.resolve_left hb]) (Nw h q r hq hr true (by simp;omega)))
theorem aI3:∃ q r,ah prog Bs 159 (.block 0 (af f205 0)) (kE j (e+2) (T/v1) (T%v1)) (gS L R (e+2) V) 2 ⟨.normal,kE j (e+2) q r,gS L R (e+2) V,2⟩/\q<base/\q*V<R/base^j+V/\R/base^j/V<=q:=by
 have kz:v1<base:=h.ds.CN;have xe:=h.ds.top;have E3:0<v1:=by unfold base at xe;omega
 have oh:T%v1<v1:=cH _ E3;have g0:=h.ds.start;have sm:∀{q r},A3 (R/base^j) V T v1 q r->q<18446744073709551616:=λg=>eW (h.ds.aIH g) d_;have one:∀{q r q' r':Nat},ah prog Bs 159 (.loop (aE (af f205 0))) (kE j (e+2) q r) (gS L R (e+2) V) 2 ⟨.exit 0,kE j (e+2) q' r',gS L R (e+2) V,2⟩->
   ah prog Bs 159 (.block 0 (af f205 0)) (kE j (e+2) q r) (gS L R (e+2) V) 2 ⟨.normal,kE j (e+2) q' r',gS L R (e+2) V,2⟩:=λg=>bO (id:=0) g
 have zero:∀{q r:Nat} {o:lZ},o.ex≠.normal->ah prog Bs 159 (aE (af f205 0)) (kE j (e+2) q r) (gS L R (e+2) V) 2 o->ah prog Bs 159 (.loop (aE (af f205 0))) (kE j (e+2) q r) (gS L R (e+2) V) 2 o:=λ{q r o} ho g=>
  ch (P:=prog) (B:=Bs) (N:=159) (b:=aE (af f205 0)) (next:=2) 0 (λ_=>kE j (e+2) q r) (λ_=>gS L R (e+2) V) (λ_ _ _=>Iff.rfl) (λi hi=>by omega) g ho
 generalize T/v1=q0 at *;generalize T%v1=r0 at *;by_cases c1:base<=q0\/r0*base+u2<q0*v2
 ·obtain⟨p1,g1⟩:=h.ds.less g0 c1;by_cases t1:base<=r0+v1
  ·obtain⟨a1,a2⟩:=h.ds.fin g1 (.inr t1);exact⟨_,_,one (zero n_ (aAb h ⟨p1,sm g0⟩ o_ c1 t1)),a1,a2,g1.le⟩
  ·have t1:=Nat.not_le.1 t1;have two:∀{o:lZ},o.ex≠.normal->ah prog Bs 159 (aE (af f205 0)) (kE j (e+2) (q0-1) (r0+v1)) (gS L R (e+2) V) 2 o->ah prog Bs 159 (.loop (aE (af f205 0))) (kE j (e+2) q0 r0) (gS L R (e+2) V) 2 o:=λ{o} ho g=>
    ch (P:=prog) (B:=Bs) (N:=159) (b:=aE (af f205 0)) (next:=2) 1 (λi=>if i=0 then kE j (e+2) q0 r0 else kE j (e+2) (q0-1) (r0+v1)) (λ_=>gS L R (e+2) V) (λ_ _ _=>Iff.rfl) (λi hi=>by
     have:i=0:=by omega
     subst this;exact aI2 h ⟨p1,sm g0⟩ o_ c1 t1) g ho
   by_cases c2:base<=q0-1\/(r0+v1)*base+u2<(q0-1)*v2
   ·obtain⟨p2,g2⟩:=h.ds.less g1 c2;have t2:=h.ds.aIG r0;obtain⟨a1,a2⟩:=h.ds.fin g2 (.inr t2);exact⟨_,_,one (two n_ (aAb h ⟨p2,sm g1⟩ t1 c2 t2)),a1,a2,g2.le⟩
   ·have A9:q0-1<base/\(q0-1)*v2<=(r0+v1)*base+u2:=by
     constructor
     ·exact Nat.not_le.1 λhh=>c2 (.inl hh)
     ·exact JZ.1 λhh=>c2 (.inr hh)
    obtain⟨a1,a2⟩:=h.ds.fin g1 (.inl A9);exact⟨_,_,one (two n_ (aAa h A9.1 t1 A9.2)),a1,a2,g1.le⟩
 ·have Ba:q0<base/\q0*v2<=r0*base+u2:=by
   constructor
   ·exact Nat.not_le.1 λhh=>c1 (.inl hh)
   ·exact JZ.1 λhh=>c1 (.inr hh)
  obtain⟨a1,a2⟩:=h.ds.fin g0 (.inl Ba);exact⟨_,_,one (zero n_ (aAa h Ba.1 o_ Ba.2)),a1,a2,g0.le⟩
end
end
section
variable{Bs:aa}{j L R V T v1 v2 u2:Nat}
theorem Hk{L i R S t:Nat}(ht:t<L)(h:i<=t):(ak (cX base L i S R))[t]?=some (aW (R/base^t%base)):=kD (Cr ht h)
theorem J2{L i R S:Nat}(hi:i<L){d:Nat}(hd:d=S/base^i%base):eU prog 176 (ak (cX base L i S R)) i (aW d)=some (ak (cX base L (i+1) S R)):=by rw[yF _ i _ (by simp[ak,wR];omega),yG,yE hi hd]
def fU(j m R V q:Nat):Nat:=gg base j R (fT base m (R/base^j) V q)
def CS(j m R V q i:Nat):aV:=
 [(83,vI i),(82,vI m),(81,sl 1 m),(7,pY q),(9,pY (n9 base q V i)),(10,aW (oM base (R/base^j) V q i)),(5,vI m),(0,us j m),(1,sl 1 m)]
def Bb(j m L R V q i:Nat):aH:=[(0,.row (ak (cX base L (j+i) (fU j m R V q) R)) 176 1),(1,.view (ak (ae base m V)))]
section
variable{e q:Nat}(h:DG j e L R V T v1 v2 u2)(hq:q<base)(nq:q*V<R/base^j+V)
include h hq nq
omit hq in
theorem DG.qle:q*V<=R/base^j+base^(e+3):=by have h1:V<=base^(e+3):=dh (iM h.hV) (cY d_ o_);omega
omit hq in
theorem DG.sub{i:Nat}(hi:i<=e+2):aD prog 221 [aW (R/base^j/base^i%base),aW ((n9 base q V i+q*(V/base^i%base))%base),aW (oM base (R/base^j) V q i)]
  (.tuple #[aW (fU j (e+2) R V q/base^(j+i)%base),aW (oM base (R/base^j) V q (i+1))]):=by
 have hb:oM base (R/base^j) V q i<=1:=MW _ _ _;have:=Zf (x:=R/base^j/base^i%base) (y:=(n9 base q V i+q*(V/base^i%base))%base) (b:=oM base (R/base^j) V q i) (cH _ d_) (cH _ d_) hb;rw[aIO d_ (h.qle nq) hi,aIP d_]at this;unfold fU;rw[xc d_];exact this
theorem aI4{i:Nat}(hi:i<e+2):
  ah prog Bs 159 (aE (af f205 2)) (CS j (e+2) R V q i) (Bb j (e+2) L R V q i) 2 ⟨.normal,CS j (e+2) R V q (i+1),Bb j (e+2) L R V q (i+1),2⟩:=by
 have hL:=h.hL;have h63:=h.h63;have wW:=h.sub nq (show i<=e+2 by omega);have hc:=ZT (B:=base) d_ hq V i;have vk:=aIJ (B:=base) d_ q V i;have hv:V/base^i%base<base:=cH _ d_;have bJ:eU prog 176 (ak (cX base L (j+i) (fU j (e+2) R V q) R)) (j+i) (aW (fU j (e+2) R V q/base^(j+i)%base))=some (ak (cX base L (j+(i+1)) (fU j (e+2) R V q) R)):=J2 o_ rfl;have SZ:=DG.vd (V:=V) hi;have S0:(ak (cX base L (j+i) (fU j (e+2) R V q) R))[j+i]?=some (aW (R/base^j/base^i%base)):=by rw[<-Hf];exact Hk o_ (bh _)
 generalize R/base^j/base^i%base=x at *;generalize V/base^i%base=y at *;generalize hC:n9 base q V i=C at *;have hp:q*y<18446744069414584321:=by have h1:q*y<=(base-1)*(base-1):=yN o_ o_;exact eW h1 d_
 have hs:C+q*y<18446744073709551616:=by unfold base at hc;omega
 have e1:CS j (e+2) R V q i=[(83,vI i),(82,vI (e+2)),(81,sl 1 (e+2)),(7,pY q),(9,pY C),(10,aW (oM base (R/base^j) V q i)),(5,vI (e+2)),(0,us j (e+2)),(1,sl 1 (e+2))]:=by unfold CS;rw[hC]
 rw[e1];generalize hP:q*y=W at *;exact aA [.lt 84 i (e+2) true (by simp[hi]),.ix f205 86 1 (e+2) i hi k_,.ld f205 87 176 1 i (.view (ak (ae base (e+2) V))) (aW y) rfl (by rw[fH];exact SZ) k_,.wr 91 .u64 (y:Int) (y:Int) (qG (l8 hv d_)),.wr 92 .u64 ((q:Int)*(y:Int)) (W:Int) (by rw[<-nU,hP];exact qG o_),.wr 93 .u64 ((C:Int)+(W:Int)) ((C+W:Nat):Int) (by rw[<-vz];exact qG hs),.wP f205 99 0 j (e+3) j i o_ k_,.ld f205 100 176 0 (j+i) (.row (ak (cX base L (j+i) (fU j (e+2) R V q) R)) 176 1) (aW x) rfl (by rw[fH];exact S0) k_,.wr 102 .u32 ((C+W:Nat):Int) (((C+W)%base:Nat):Int) (by rw[nw];unfold base;omega),wW.at 104,.wP f205 107 0 j (e+3) j i o_ k_,.st f205 100107 176 0 (j+i) (.row (ak (cX base L (j+i) (fU j (e+2) R V q) R)) 176 1) (aW (fU j (e+2) R V q/base^(j+i)%base)) (.row (ak (cX base L (j+(i+1)) (fU j (e+2) R V q) R)) 176 1) rfl bJ rfl k_,.quo 109 .u64 (((C+W:Nat):Int).fdiv ((2:Int)^32)) ((n9 base q V (i+1):Nat):Int) (by rw[rM _ d_,<-vk];unfold base;omega),.sum 110 i 1 (i+1) rfl o_]
omit h hq nq in
theorem aI5:Bb j (e+2) L R V q 0=gS L R (e+2) V:=by unfold Bb gS fU;rw[jn,Nr d_]
theorem aI6:ah prog Bs 159 (.block 2 (af f205 2)) (CS j (e+2) R V q 0) (gS L R (e+2) V) 2 ⟨.normal,CS j (e+2) R V q (e+2),Bb j (e+2) L R V q (e+2),2⟩:=by
 rw[<-aI5 (q:=q)];exact bO (id:=2) (ch (b:=aE (af f205 2)) (r:=⟨.exit 2,CS j (e+2) R V q (e+2),Bb j (e+2) L R V q (e+2),2⟩) (e+2) (CS j (e+2) R V q) (Bb j (e+2) L R V q) (λi t _=>jP (l:=Bb j (e+2) L R V q i) (m:=Bb j (e+2) L R V q 0) rfl t)
  (λi hi=>aI4 h hq nq hi) (aA [.lt 84 (e+2) (e+2) false s_]) n_)
end
def nE(j m R V q:Nat):Nat:=gg base j R ((fT base m (R/base^j) V q+V)%base^(m+1))
def Hl(j m R V q i:Nat):aV:=
 [(131,vI i),(130,vI m),(129,sl 1 m),(13,aW (eH base (fT base m (R/base^j) V q) V i)),(7,pY (q-1)),(5,vI m),(0,us j m),(1,sl 1 m)]
def Bc(j m L R V q i:Nat):aH:=[(0,.row (ak (cX base L (j+i) (nE j m R V q) (fU j m R V q))) 176 1),(1,.view (ak (ae base m V)))]
section
variable{e q:Nat}(h:DG j e L R V T v1 v2 u2)
include h
theorem aI7{i:Nat}(hi:i<e+2):
  ah prog Bs 159 (aE (af f205 4)) (Hl j (e+2) R V q i) (Bc j (e+2) L R V q i) 2 ⟨.normal,Hl j (e+2) R V q (i+1),Bc j (e+2) L R V q (i+1),2⟩:=by
 have hL:=h.hL;have h63:=h.h63;have hc:=AO (B:=base) d_ (fT base (e+2) (R/base^j) V q) V i;have yI:=JJ (x:=fT base (e+2) (R/base^j) V q/base^i%base) (y:=V/base^i%base) (c:=eH base (fT base (e+2) (R/base^j) V q) V i) (cH _ d_) (cH _ d_) (eW hc d_);rw[SL d_ (show i<=e+2 by omega),EI d_]at yI;have bJ:eU prog 176 (ak (cX base L (j+i) (nE j (e+2) R V q) (fU j (e+2) R V q))) (j+i) (aW ((fT base (e+2) (R/base^j) V q+V)%base^(e+2+1)/base^i%base))=some (ak (cX base L (j+(i+1)) (nE j (e+2) R V q) (fU j (e+2) R V q))):=
  J2 o_ (by unfold nE;rw[xc d_])
 have SZ:=DG.vd (V:=V) hi;have S0:(ak (cX base L (j+i) (nE j (e+2) R V q) (fU j (e+2) R V q)))[j+i]?=some (aW (fT base (e+2) (R/base^j) V q/base^i%base)):=by have:=Hk (L:=L) (i:=j+i) (R:=fU j (e+2) R V q) (S:=nE j (e+2) R V q) (t:=j+i) o_ (bh _);rw[this];unfold fU;rw[xc d_]
 exact aA [.lt 132 i (e+2) true (by simp[hi]),.ix f205 134 1 (e+2) i hi k_,.ld f205 135 176 1 i (.view (ak (ae base (e+2) V))) (aW (V/base^i%base)) rfl (by rw[fH];exact SZ) k_,.wP f205 141 0 j (e+3) j i o_ k_,.ld f205 142 176 0 (j+i) (.row (ak (cX base L (j+i) (nE j (e+2) R V q) (fU j (e+2) R V q))) 176 1) (aW (fT base (e+2) (R/base^j) V q/base^i%base)) rfl (by rw[fH];exact S0) k_,yI.at 145,.wP f205 148 0 j (e+3) j i o_ k_,.st f205 100148 176 0 (j+i) (.row (ak (cX base L (j+i) (nE j (e+2) R V q) (fU j (e+2) R V q))) 176 1) (aW ((fT base (e+2) (R/base^j) V q+V)%base^(e+2+1)/base^i%base)) (.row (ak (cX base L (j+(i+1)) (nE j (e+2) R V q) (fU j (e+2) R V q))) 176 1) rfl bJ rfl k_,.sum 149 i 1 (i+1) rfl o_]
omit h in
theorem aI8:Bc j (e+2) L R V q 0=gS L (fU j (e+2) R V q) (e+2) V:=by unfold Bc gS nE;rw[jn,<-ZU (B:=base) d_ j R (fT base (e+2) (R/base^j) V q)];unfold fU;rw[Nr d_]
theorem aI9:ah prog Bs 159 (.block 4 (af f205 4)) (Hl j (e+2) R V q 0) (gS L (fU j (e+2) R V q) (e+2) V) 2 ⟨.normal,Hl j (e+2) R V q (e+2),Bc j (e+2) L R V q (e+2),2⟩:=by
 rw[<-aI8 (q:=q)];exact bO (id:=4) (ch (b:=aE (af f205 4)) (r:=⟨.exit 4,Hl j (e+2) R V q (e+2),Bc j (e+2) L R V q (e+2),2⟩) (e+2) (Hl j (e+2) R V q) (Bc j (e+2) L R V q) (λi t _=>jP (l:=Bc j (e+2) L R V q i) (m:=Bc j (e+2) L R V q 0) rfl t)
  (λi hi=>aI7 h hi) (aA [.lt 132 (e+2) (e+2) false s_]) n_)
end
noncomputable def aAc{e q r:Nat}(h:DG j e L R V T v1 v2 u2)(hq:q<base)(nq:q*V<R/base^j+V)
  (hg:ah prog Bs 159 (.block 0 (af f205 0)) (kE j (e+2) (T/v1) (T%v1)) (gS L R (e+2) V) 2 ⟨.normal,kE j (e+2) q r,gS L R (e+2) V,2⟩) (more:bE prog Bs 159):bE prog Bs 159:=
 have hL:=h.hL;have h63:=h.h63;have hx:R/base^j/base^(e+2)%base<base:=cH _ d_;have hy:R/base^j/base^(e+1)%base<base:=cH _ d_;have kz:v1<base:=h.ds.CN;have E3:(v1:Int)≠0:=by have:=h.ds.top;unfold base at this;omega
 have hT:T<18446744073709551616:=by
  rw[<-h.Z9];have:R/base^j/base^(e+2)%base*base<=(base-1)*base:=e8 _ o_;have e3:(base-1)*base=18446744069414584320:=by decide
  rw[e3]at this;clear e3;unfold base at *;omega
 have hc:=ZT (B:=base) d_ hq V (e+2);have h0:V/base^(e+2)%base=0:=qC h.hV (bh _) d_;have wW:=h.sub nq (bh (e+2))
 have aJa:aD prog 221 [aW (R/base^j/base^(e+2)%base),aW (n9 base q V (e+2)),aW (oM base (R/base^j) V q (e+2))]
   (.tuple #[aW (fU j (e+2) R V q/base^(j+(e+2))%base),aW (oM base (R/base^j) V q (e+3))]):=by
  rw[h0,Nat.mul_zero,jn (n9 base q V (e+2)),dF hc]at wW;exact wW
 have iX:(ak (cX base L (j+(e+2)) (fU j (e+2) R V q) R))[j+(e+2)]?=some (aW (R/base^j/base^(e+2)%base)):=by rw[<-Hf];exact Hk o_ (bh _)
 have bJ:eU prog 176 (ak (cX base L (j+(e+2)) (fU j (e+2) R V q) R)) (j+(e+2)) (aW (fU j (e+2) R V q/base^(j+(e+2))%base))=some (ak (ae base L (fU j (e+2) R V q))):=by
  rw[J2 o_ rfl,show j+(e+2)+1=j+(e+3)by omega,E1 d_]
  ·have:=h.hR;have h2:=He (B:=base) d_ (j:=j) R this;rw[aIK]at h2;exact h2
  ·exact He d_ R (SJ d_);
 .wP f205 20 0 j (e+3) j (e+2) o_ k_::.ld f205 21 176 0 (j+(e+2)) (.row (ak (ae base L R)) 176 1) (aW (R/base^j/base^(e+2)%base)) rfl (by rw[fH];exact h.ud (bh _)) k_::
 .wr 22 .u64 ((R/base^j/base^(e+2)%base:Nat):Int) ((R/base^j/base^(e+2)%base:Nat):Int) (qG (l8 hx d_))::
 .wr 23 .u64 (((R/base^j/base^(e+2)%base:Nat):Int)*2^32) ((R/base^j/base^(e+2)%base*base:Nat):Int) (SS hx)::.eV 26 (e+2) 1 (e+1) rfl o_::
 .wP f205 27 0 j (e+3) j (e+1) o_ k_::.ld f205 28 176 0 (j+(e+1)) (.row (ak (ae base L R)) 176 1) (aW (R/base^j/base^(e+1)%base)) rfl (by rw[fH];exact h.ud o_) k_::
 .wr 29 .u64 ((R/base^j/base^(e+1)%base:Nat):Int) ((R/base^j/base^(e+1)%base:Nat):Int) (qG (l8 hy d_))::.quo 30 .u64 _ ((T:Nat):Int) ((SV hx hy).trans (by rw[h.Z9]))::
 .eV 34 (e+2) 1 (e+1) rfl o_::.ix f205 35 1 (e+2) (e+1) o_ k_::.ld f205 36 176 1 (e+1) (.view (ak (ae base (e+2) V))) (aW v1) rfl (by rw[fH,<-h.SX];exact DG.vd o_) k_::
 .wr 37 .u64 (v1:Int) (v1:Int) (qG (l8 kz d_))::.pW f205 38 .u64 (T:Int) v1 ((T/v1:Nat):Int) E3 (by rw[yO o_,<-tg];exact qG (eW (th _ _) hT)) k_::
 .eV 42 (e+2) 1 (e+1) rfl o_::.ix f205 43 1 (e+2) (e+1) o_ k_::.ld f205 44 176 1 (e+1) (.view (ak (ae base (e+2) V))) (aW v1) rfl (by rw[fH,<-h.SX];exact DG.vd o_) k_::
 .wr 45 .u64 (v1:Int) (v1:Int) (qG (l8 kz d_))::.wX f205 46 .u64 (T:Int) v1 ((T%v1:Nat):Int) E3 (by rw[yP o_];rfl) k_::
 .code 0 _ _ _ _ _ hg::.rw 9 (.int .u64 0) (pY (n9 base q V 0)) (by rw[aII];rfl)::.rw 10 (.int .u32 0) (aW (oM base (R/base^j) V q 0)) (by unfold oM;rw[R9];rfl)::
 .code 2 _ _ _ _ _ (aI6 h hq nq)::.wP f205 116 0 j (e+3) j (e+2) o_ k_::.ld f205 117 176 0 (j+(e+2)) (.row (ak (cX base L (j+(e+2)) (fU j (e+2) R V q) R)) 176 1) (aW (R/base^j/base^(e+2)%base)) rfl (by rw[fH];exact iX) k_::
 .wr 119 .u32 ((n9 base q V (e+2):Nat):Int) ((n9 base q V (e+2):Nat):Int) (by rw[nw];unfold base at hc ⊢;omega)::aJa.at 121::.wP f205 124 0 j (e+3) j (e+2) o_ k_::
 .st f205 100124 176 0 (j+(e+2)) (.row (ak (cX base L (j+(e+2)) (fU j (e+2) R V q) R)) 176 1) (aW (fU j (e+2) R V q/base^(j+(e+2))%base)) (.row (ak (ae base L (fU j (e+2) R V q))) 176 1) rfl bJ rfl k_::more
theorem aJb{w:World}{g cap c' e:Nat}{cur:Array Value}{vv:Value}(h:DG j e L R V T v1 v2 u2)(hg:w.heap[g]?=some (.cells cur 176 (0,0)))(hn:e+3<=c')(mz:j+c'=cap)(jy:cap<=maxLen)(bA:cur.size=cap*1)
  (hc:cur.toList.take (ak (ae base L R)).length=ak (ae base L R)) (hv:cK w vv (e+2) (ak (ae base (e+2) V))) (aU:∀ b o c,vv=.slice (some ⟨b,o,none⟩) (e+2) c->b≠g) :
  Calls prog 205 #[.slice (some ⟨g,j,none⟩) (e+3) c',vv] w λex w'=>ex=.returned (aW (R/base^j/V))/\AP g w w'/\∃ fN,w'.heap[g]?=some (.cells fN 176 (0,0))/\fN.size=cap*1/\
   fN.toList.take (ak (ae base L (gg base j R (R/base^j%V)))).length=ak (ae base L (gg base j R (R/base^j%V))):=by
 obtain⟨q,r,uB,hq,nq,hle⟩:=aI3 (Bs:=aa.vu w g) h;have hU:=h.ds.hU;have kZ:=aIR (B:=base) d_ hq h.hV hU;have hL:=h.hL;have h63:=h.h63;have aUy:q<18446744073709551616:=l8 hq d_;have key:∀(qq:Nat) (S:Nat) (rs:bE prog (aa.vu w g) 159),qq=R/base^j/V->S=gg base j R (R/base^j%V)->
   nt (fQ (P:=prog) f205 100 (us j (e+2)::rK 1 [cz.row vv (e+2) (ak (ae base (e+2) V))]) ((0,.row (ak (ae base L R)) 176 1)::uo 1 [cz.row vv (e+2) (ak (ae base (e+2) V))]) (s8 1 [cz.row vv (e+2) (ak (ae base (e+2) V))]) rs) [(0,.row (ak (ae base L S)) 176 1)] =
    nu (fQ f205 100 (us j (e+2)::rK 1 [cz.row vv (e+2) (ak (ae base (e+2) V))]) ((0,.row (ak (ae base L R)) 176 1)::uo 1 [cz.row vv (e+2) (ak (ae base (e+2) V))]) (s8 1 [cz.row vv (e+2) (ak (ae base (e+2) V))]) rs) (aW qq) [(0,.row (ak (ae base L S)) 176 1)]->
   Calls prog 205 #[.slice (some ⟨g,j,none⟩) (e+3) c',vv] w λex w'=>ex=.returned (aW (R/base^j/V))/\AP g w w'/\∃ fN,w'.heap[g]?=some (.cells fN 176 (0,0))/\fN.size=cap*1/\
    fN.toList.take (ak (ae base L (gg base j R (R/base^j%V)))).length=ak (ae base L (gg base j R (R/base^j%V))):=by
  rintro qq S rs rfl rfl Ev
  exact aIy (ms:=[]) (cells':=ak (ae base L (gg base j R (R/base^j%V)))) (v:=aW (R/base^j/V)) mixed func205 hg jy bA hc (fA _) (fA _) hn mz [cz.row vv (e+2) (ak (ae base (e+2) V))]
   (λs hs=>by simp at hs;subst hs;exact⟨hv,fA _⟩) (λs hs=>by simp at hs;subst hs;exact aU) 100 (N:=159) k_ Ev λau SG v' w' _ jY h1 h2 _ _=>⟨by rw[jY.eR rfl],h1,h2⟩
 by_cases hb:R/base^j<q*V
 ·rw[aw hb]at kZ;obtain⟨e1,e2⟩:=ZX (B:=base) (m:=e+2) d_ h.hV hU nq hb;have e3:nE j (e+2) R V q=gg base j R (R/base^j%V):=by unfold nE;rw[e2]
  have h0:V/base^(e+2)%base=0:=qC h.hV (bh _) d_;have J3:=SL (B:=base) (m:=e+2) (V:=V) (D:=fT base (e+2) (R/base^j) V q) d_ (bh (e+2));rw[h0,jn (fT base (e+2) (R/base^j) V q/base^(e+2)%base)]at J3;have iX:(ak (cX base L (j+(e+2)) (nE j (e+2) R V q) (fU j (e+2) R V q)))[j+(e+2)]?=some (aW (fT base (e+2) (R/base^j) V q/base^(e+2)%base)):=by have:=Hk (L:=L) (i:=j+(e+2)) (R:=fU j (e+2) R V q) (S:=nE j (e+2) R V q) (t:=j+(e+2)) o_ (bh _);rw[this];unfold fU;rw[xc d_]
  have bJ:eU prog 176 (ak (cX base L (j+(e+2)) (nE j (e+2) R V q) (fU j (e+2) R V q))) (j+(e+2)) (aW ((fT base (e+2) (R/base^j) V q+V)%base^(e+2+1)/base^(e+2)%base))=some (ak (ae base L (nE j (e+2) R V q))):=by
   rw[J2 o_ (by unfold nE;rw[xc d_]),show j+(e+2)+1=j+(e+3)by omega,E1 d_]
   ·exact He d_ R (SJ d_)
   ·exact He d_ R (cH _ (cG d_))
  have hd:fT base (e+2) (R/base^j) V q/base^(e+2)%base<base:=cH _ d_;have gm:=AO (B:=base) d_ (fT base (e+2) (R/base^j) V q) V (e+2);have hbk:=aI9 (Bs:=aa.vu w g) (q:=q) h;have uC:q-1=R/base^j/V:=by rw[e1,Nq]
  have mI:0<q:=by rw[e1];exact S1 _
  refine key (q-1) (nE j (e+2) R V q) (aAc h hq nq uB [.rw 126 (.bool (((oM base (R/base^j) V q (e+3):Nat):Int)!=0)) (.bool true) (by rw[show e+3=e+2+1 from rfl,kZ];rfl),.wr 128 .u64 ((q:Int)-1) ((q-1:Nat):Int) (by rw[jR];omega),.rw 13 (.int .u32 0) (aW (eH base (fT base (e+2) (R/base^j) V q) V 0)) (by rw[MV];rfl),.code 4 _ _ _ _ _ hbk,.wP f205 152 0 j (e+3) j (e+2) o_ k_,.ld f205 153 176 0 (j+(e+2)) (.row (ak (cX base L (j+(e+2)) (nE j (e+2) R V q) (fU j (e+2) R V q))) 176 1) (aW (fT base (e+2) (R/base^j) V q/base^(e+2)%base)) rfl (by rw[fH];exact iX) k_,.wr 155 .u32 (((fT base (e+2) (R/base^j) V q/base^(e+2)%base:Nat):Int)+((eH base (fT base (e+2) (R/base^j) V q) V (e+2):Nat):Int)) (((fT base (e+2) (R/base^j) V q+V)%base^(e+2+1)/base^(e+2)%base:Nat):Int)
    (by rw[<-J3,<-vz,nw];unfold base;omega),.wP f205 156 0 j (e+3) j (e+2) o_ k_,
   .st f205 100156 176 0 (j+(e+2)) (.row (ak (cX base L (j+(e+2)) (nE j (e+2) R V q) (fU j (e+2) R V q))) 176 1) (aW ((fT base (e+2) (R/base^j) V q+V)%base^(e+2+1)/base^(e+2)%base)) (.row (ak (ae base L (nE j (e+2) R V q))) 176 1) rfl bJ rfl k_,
   .wr 158 .u32 ((q-1:Nat):Int) ((q-1:Nat):Int) (by rw[nw];unfold base at hq;omega)]) uC e3 k_
 ·rw[ao hb]at kZ;obtain⟨e1,e2⟩:=ZW (B:=base) (m:=e+2) d_ h.hV hU hle hb;have e3:fU j (e+2) R V q=gg base j R (R/base^j%V):=by unfold fU;rw[e2]
  exact key q (fU j (e+2) R V q) (aAc h hq nq uB [.rw 126 (.bool (((oM base (R/base^j) V q (e+3):Nat):Int)!=0)) (.bool false) (by rw[show e+3=e+2+1 from rfl,kZ];rfl),.wr 158 .u32 (q:Int) (q:Int) (by rw[nw];unfold base at hq;omega)]) e1 e3 k_
end
section
variable{Bs:aa}{N:Nat}
theorem Nx{o:Oper}{y:Operand}(ho:dp o.op=some y){k n M a:Nat}{x:Obj}(hx:x.reads=true)(hc:x.cells=ak (ae base M a))(hnM:n<=M)(ha:a<base^n)(h63:n<=9223372036854775807){d:Nat}(hd:nd base a=d):
  cA prog Bs o [.func (.func 175) #[] #[],sl k n] [(k,some x)] (sl k d) []:=by
 subst hd;refine jB (fi:=[]) (ca:=[]) ho k_ λι c w hm hn args' de=>?_;obtain⟨v,rfl,h1⟩:=lT de;have hk:c k=some x:=hn _ (aT ..);have hr:=oH (len:=n) hm hk hx (by rw[hc];exact fA _) (λh=>h) h1;have e:(ak (ae base M a)).take n=ak (ae base n a):=by unfold ak;rw[<-Co,JE hnM]
 rw[hc,l5,e]at hr;refine(Y8 hr ha h63).mono ?_
 rintro e w' ⟨rfl,hb⟩
 refine⟨ι,_,rfl,Map.le.refl _,?_,hm.call hb⟩;have jS:=jd (B:=base) d_ ha;rcases h1.gW rfl with ⟨q1,q2,_,_,q5⟩|⟨b,oo,cap,c',q1,q2,q3,q5⟩
 ·rw[q5];have:nd base a=0:=by omega
  rw[this];exact .slcN q1
 ·rw[q5];exact .slc q1 o_ q3
theorem aAd{o:Oper}{y:Operand}(ho:dp o.op=some y){k1 a k n:Nat}{x1:Obj}(hx:pX x1 a)(hk:k<=31)(h1:nd base a<35184372088832)(lY:nd base a=n)(kn:Nat):
  cA prog Bs o [.func (.func 204) #[] #[],sl k1 n,vI k] [(k1,some x1),(kn,none)] (sl kn (n+1)) [(kn,.row (ak (ae base (n+1) (a*2^k))) 176 1)]:=by
 subst lY;refine jB (fi:=[]) (ca:=[]) ho k_ λι cc w hm hn args' ba=>?_;rw[jo,iY]at ba;obtain⟨va,vb,rfl,hv,iw⟩:=jx ba;rw[iw.eR rfl];refine(aIW (A6 hm (hn _ (aT ..)) hx hv) hk h1).mono ?_
 rintro e w' ⟨v,rfl,h1,h2⟩
 obtain⟨au,q1,q2,q3⟩:=EG hm h2 (k:=kn) (hn _ (bB _ (aT ..))) h1 (fA _);exact⟨au,v,rfl,q1,q3,q2⟩
def aX.part{P:Program}{B:aa}(fn:Func)(key k n l h s m off:Nat)(yo:l*s=off)(hh:h<=n)(hm:l+m=h)(h0:0<m)(ho:rL P (av fn key)=some (true,true,s)):aX P B N:=
 .step key (av fn key) [sl k n,vI l,vI h] [] (.slice (some ⟨k,off,some 7⟩) m l) [] (by
  subst yo;have:=GO (B:=B) ho (k:=k) (off:=0) (n:=n) (cc:=0) (l:=l) (h:=h) n_ n_ o_ hh (.inl o_);have e1:h-l=m:=by omega
  rw[e1,jZ,jZ]at this;exact this)
end
structure DV(e L A V:Nat):Prop where
 hV:V<base^(e+2)
 top:base<=2*(V/base^(e+1))
 hL:e+2+1<=L
 hA:A<V*base^(L-(e+2))
 h63:L<35184372088832
theorem DV.pos{e L A V:Nat}(h:DV e L A V):0<V:=by
 rcases nZ V with e1|e1
 ·have:=h.hA;rw[e1,lB]at this;omega
 ·exact e1
theorem DV.dg{e L A V j:Nat}(h:DV e L A V)(hj:j+(e+2)+1<=L):
  DG j e L (A%(V*base^(j+1))) V (A%(V*base^(j+1))/base^j/base^(e+1)) (V/base^(e+1)) (V/base^e%base) (A%(V*base^(j+1))/base^j/base^e%base) where
 ds:={ hB:=by decide,hU:=Z0 d_ h.pos A j,hT:=rfl,hu:=rfl,kz:=rfl,iw:=rfl,top:=h.top,CN:=by have:=h.hV;rw[iy (cG d_),cP,<-dw];exact this }
 hL:=hj
 hV:=h.hV
 h63:=h.h63
section
variable{Bs:aa}{e L A V M:Nat}
def Hm(e L p j:Nat):aV:=[(13,df j),(12,sl 4 p),(10,sl 3 L),(9,sl 2 (e+2)),(11,vI (e+2))]
def Bd(L A V M p j:Nat):aH:=[(3,.row (ak (ae base L (A%(V*base^j)))) 176 1),(4,.row (ak (gz base p j (A/V))) 176 1),(2,.row (ak (ae base M V)) 176 1)]
theorem aJc(h:DV e L A V)(hM:e+2<=M){p j:Nat}(hp:p+(e+2)=L)(hj:j<p):
  ah prog Bs 110 (aE (af f173 0)) (Hm e L p (j+1)) (Bd L A V M p (j+1)) 5 ⟨.normal,Hm e L p j,Bd L A V M p j,5⟩:=by
 have h63:=h.h63;have hdg:=h.dg (j:=j) o_;have hr:=ZY (B:=base) d_ A V j;have hq:=ZZ (B:=base) A V j;have bJ:eU prog 176 (ak (gz base p (j+1) (A/V))) j (aW (A/V/base^j%base))=some (ak (gz base p j (A/V))):=by rw[yF _ _ _ (by simp[ak,MZ];exact hj),yG,M4 hj rfl]
 have CT:(ak (ae base M V)).take (e+2)=ak (ae base (e+2) V):=by unfold ak;rw[<-Co,JE hM]
 have hw:cA prog Bs (av f173 76) [.func (.func 205) #[] #[],.slice (some ⟨3,j,some 7⟩) (e+3) j,sl 2 (e+2)] [(3,some (.row (ak (ae base L (A%(V*base^(j+1))))) 176 1)),(2,some (.row (ak (ae base M V)) 176 1))]
   (aW (A/V/base^j%base)) [(3,.row (ak (ae base L (A%(V*base^j)))) 176 1)]:=by
  refine aIA (x:=.func 205) (SH:=e+2) k_ k_ d_ o_ (fA _) (fA _) rfl rfl (fA _) o_ λw g cap cur c' v2 hg lp mz jy bA hc hv aU=>?_;have hv:cK w v2 (e+2) ((ak (ae base M V)).take (e+2)):=hv;rw[CT]at hv;have:=aJb hdg hg lp mz jy bA hc hv aU;rw[hq,hr]at this;exact this
 exact aA [.rw 62 (df (j+1)) (vI j) (dT j),.ge 63 j 0 true s_,.rw 67 (df (j+1)) (vI j) (dT j),.rw 69 (df (j+1)) (vI j) (dT j),.rw 70 (df (j+1)) (vI j) (dT j),.sum 72 j (e+2) (j+(e+2)) rfl o_,.sum 73 (j+(e+2)) 1 (j+(e+3)) rfl o_,.part f173 74 3 L j (j+(e+3)) 1 (e+3) j (fZ j) o_ rfl o_ k_,.step 76 _ _ _ _ _ hw,.ix f173 77 4 p j hj k_,.st f173 100077 176 4 j (.row (ak (gz base p (j+1) (A/V))) 176 1) (aW (A/V/base^j%base)) (.row (ak (gz base p j (A/V))) 176 1) rfl bJ rfl k_,.rw 64 (df (j+1)) (vI j) (dT j),.wr 65 .i64 ((j:Int)-1) ((j:Int)-1) (oL o_)]
theorem aJd(h:DV e L A V)(hM:e+2<=M){p:Nat}(hp:p+(e+2)=L):
  ah prog Bs 110 (.block 0 (af f173 0)) (Hm e L p p) (Bd L A V M p p) 5 ⟨.normal,Hm e L p 0,Bd L A V M p 0,5⟩:=by
 have:=ch (P:=prog) (B:=Bs) (N:=110) (b:=aE (af f173 0)) (next:=5) (r:=⟨.exit 0,Hm e L p 0,Bd L A V M p 0,5⟩) p (λi=>Hm e L p (p-i)) (λi=>Bd L A V M p (p-i)) (λi t _=>jP (l:=Bd L A V M p (p-i)) (m:=Bd L A V M p (p-0)) rfl t)
  (λi hi=>by
   have e1:p-i=(p-(i+1))+1:=by omega
   simp only[e1];exact aJc h hM hp o_)
  (by simp only[ux];exact aA [.rw 63 (.bool (decide (((0:Nat):Int)-1>=0))) (.bool false) rfl]) n_
 exact bO (id:=0) this
section
variable{m X k p:Nat}
def Hn(m L k i:Nat):aV:=[(83,vI i),(82,vI m),(14,sl 3 m),(10,sl 3 L),(8,vI k)]
def yR(L X k i:Nat):aH:=[(3,.row (ak (cX base L i (X/2^k) X)) 176 1)]
theorem aJe{i:Nat}(hi:i<m)(hmL:m+1<=L)(hk:k<=31)(h63:L<35184372088832):
  ah prog Bs 110 (aE (af f173 2)) (Hn m L k i) (yR L X k i) 5 ⟨.normal,Hn m L k (i+1),yR L X k (i+1),5⟩:=by
 have u7:(ak (cX base L i (X/2^k) X))[i+1]?=some (aW (X/base^(i+1)%base)):=Hk o_ o_;have qx:(ak (cX base L i (X/2^k) X))[i]?=some (aW (X/base^i%base)):=Hk o_ o_;have hd:=Z1 (B:=base) (k:=k) (X:=X) (i:=i) d_ ⟨2^(32-k),by rw[<-ep,show k+(32-k)=32 by omega]⟩;have bJ:eU prog 176 (ak (cX base L i (X/2^k) X)) i (aW (X/2^k/base^i%base))=some (ak (cX base L (i+1) (X/2^k) X)):=J2 o_ rfl;have hx:X/base^(i+1)%base<base:=cH _ d_;have hy:X/base^i%base<base:=cH _ d_;generalize X/base^(i+1)%base=x at *;generalize X/base^i%base=y at *;have hb:(x*base+y)/2^k<18446744073709551616:=eW (th _ _) (by unfold base at *;omega);have kX:=SV hx hy;have hs:((x*base+y:Nat):Int).fdiv (2^(min k IntKind.u64.bits))=(((x*base+y)/2^k:Nat):Int):=by rw[show min k IntKind.u64.bits=k from nV (by show k<=64;omega),rM _ (Hc d_),tg,Hd];rfl
 generalize (x*base+y)/2^k=z at *;exact aA [.lt 84 i m true (by simp[hi]),.sum 90 i 1 (i+1) rfl o_,.ix f173 91 3 L (i+1) o_ k_,.ld f173 92 176 3 (i+1) (.row (ak (cX base L i (X/2^k) X)) 176 1) (aW x) rfl (by rw[fH];exact u7) k_,.wr 93 .u64 (x:Int) (x:Int) (qG (l8 hx d_)),.wr 94 .u64 ((x:Int)*2^32) ((x*base:Nat):Int) (SS hx),.ix f173 97 3 L i o_ k_,.ld f173 98 176 3 i (.row (ak (cX base L i (X/2^k) X)) 176 1) (aW y) rfl (by rw[fH];exact qx) k_,.wr 99 .u64 (y:Int) (y:Int) (qG (l8 hy d_)),.quo 100 .u64 _ ((x*base+y:Nat):Int) kX,.shr f173 102 .u64 ((x*base+y:Nat):Int) (z:Int) k hs k_,.wr 103 .u32 (z:Int) ((X/2^k/base^i%base:Nat):Int) (by rw[nw,<-hd];unfold base;omega),.ix f173 104 3 m i hi k_,.st f173 100104 176 3 i (.row (ak (cX base L i (X/2^k) X)) 176 1) (aW (X/2^k/base^i%base)) (.row (ak (cX base L (i+1) (X/2^k) X)) 176 1) rfl bJ rfl k_,.sum 105 i 1 (i+1) rfl o_]
theorem aJf(hX:X<base^m)(hmL:m+1<=L)(hk:k<=31)(h63:L<35184372088832):
  ah prog Bs 110 (.block 2 (af f173 2)) (Hn m L k 0) [(3,.row (ak (ae base L X)) 176 1)] 5 ⟨.normal,Hn m L k m,[(3,.row (ak (ae base L (X/2^k))) 176 1)],5⟩:=by
 have e0:yR L X k 0=[(3,.row (ak (ae base L X)) 176 1)]:=by unfold yR cX ae;simp
 have e1:yR L X k m=[(3,.row (ak (ae base L (X/2^k))) 176 1)]:=by unfold yR;rw[E1 d_ hX (eW (th _ _) hX)]
 rw[<-e0,<-e1];exact bO (id:=2) (ch (b:=aE (af f173 2)) (r:=⟨.exit 2,Hn m L k m,yR L X k m,5⟩) m (Hn m L k) (yR L X k) (λi t _=>jP (l:=yR L X k i) (m:=yR L X k 0) rfl t)
  (λi hi=>aJe hi hmL hk h63) (aA [.lt 84 m m false s_]) n_)
end
end
section
variable{Bs:aa}{N:Nat}
theorem aJg{o:Oper}{y:Operand}(ho:dp o.op=some y){k1 a d n:Nat}{x1:Obj}(hx:pX x1 a)(hd:0<d)(mH:d<base)(h1:nd base a<35184372088832)(lY:nd base a=n)(kn:Nat):
  cA prog Bs o [.func (.func 202) #[] #[],sl k1 n,aW d] [(k1,some x1),(kn,none)] (.tuple #[sl kn (nd base (a/d)),aW (a%d)]) [(kn,oN (a/d))]:=by
 subst lY;refine jB (fi:=[]) (ca:=[]) ho k_ λι cc w hm hn args' ba=>?_;rw[jo,iY]at ba;obtain⟨va,vb,rfl,hv,iw⟩:=jx ba;rw[iw.eR rfl];refine(aH7 (A6 hm (hn _ (aT ..)) hx hv) hd mH h1).mono ?_
 rintro e w' ⟨v,rfl,h1,h2⟩
 obtain⟨au,q1,q2,q3⟩:=EG hm h2 (k:=kn) (hn _ (bB _ (aT ..))) h1 (fA _);exact⟨au,_,rfl,q1,.tup (.cons q3 (.cons (.same rfl) .nil)),q2⟩
end
theorem aAe{a:Nat}(h:a<base):ae base 1 a=[a]:=by simp[ae,dF h]
theorem S2{w:World}{va vb:Value}{a b:Nat}(ga:iz w va a)(kY:iz w vb b)(bZ:a<b)(h1:nd base a<35184372088832)(h2:nd base b<35184372088832):
  Calls prog 173 #[va,vb] w λe w'=>e=.returned (.tuple #[.slice none 0 0,va])/\Below w.heap.size w w':=by
 have hl:∀ s∈[cz.row va (nd base a) (ak (ae base (nd base a) a)),cz.row vb (nd base b) (ak (ae base (nd base b) b))],s.OK w:=by
  intro s hs;simp at hs;rcases hs with rfl|rfl
  ·exact⟨ga,fA _⟩
  ·exact⟨kY,fA _⟩
 have hc:nC a b<0:=by have:=@JT a b;omega
 refine lC (Q:=λe w'=>e=.returned (.tuple #[.slice none 0 0,va])/\Below w.heap.size w w') mixed func173 [cz.row va (nd base a) (ak (ae base (nd base a) a)),cz.row vb (nd base b) (ak (ae base (nd base b) b))] hl 100 (N:=110) k_
  (rs:=[(.step 18 (av f173 18) _ _ _ _ (Nt (y:=.func 201) (k1:=0) (k2:=1) k_ k_ (xd a) (xd b) rfl λw va vb ha hb=>Ng ha hb h1 h2):aX prog (aa.at w) 110),.rw 19 (.bool (decide (nC a b<0))) (.bool true) (by rw[aB hc])])
  (v:=.tuple #[.slice none 0 0,sl 0 (nd base a)]) (ms:=[]) k_ λau bY v' w' jY bj _ de=>⟨?_,bj.base⟩
 obtain⟨cM,rfl,ba⟩:=jY.ub;obtain⟨p,q,hp,h3,h4⟩:=jx ba;cases de with
 |cons h5 _=>
 have:q=va:=Jy h4 h5;have e:cM=#[p,q]:=vh.1 (by rw[hp]);rw[e,h3.eR rfl,this]
theorem S3{w:World}{va vb:Value}{a b:Nat}(ga:iz w va a)(kY:iz w vb b)(bZ:b<=a)(kF:b≠0)(hb:b<base)(h1:nd base a<35184372088832):
  Calls prog 173 #[va,vb] w λe w'=>∃ vq vr,e=.returned (.tuple #[vq,vr])/\jD w w' vq (a/b)/\jD w w' vr (a%b)/\Below w.heap.size w w':=by
 have cW:nd base b=1:=by have h3:=jd (B:=base) (n:=1) d_ (by rw[CF];exact hb);have h4:=ur (B:=base) d_ kF;omega
 have E4:cK w vb 1 (ak (ae base 1 b)):=by have:=kY;unfold iz at this;rw[cW]at this;exact this
 have hl:∀ s∈[cz.row va (nd base a) (ak (ae base (nd base a) a)),cz.row vb 1 (ak (ae base 1 b))],s.OK w:=by
  intro s hs;simp at hs;rcases hs with rfl|rfl
  ·exact⟨ga,fA _⟩
  ·exact⟨E4,fA _⟩
 have hc:¬nC a b<0:=by have:=@JT a b;omega
 have uD:pX (.view (ak (ae base 1 b))) b:=by have:=xd b;rw[cW]at this;exact this
 have hr:a%b<base:=l8 (cH _ (te kF)) hb;have S4:cA prog (aa.at w) (av f173 18) [.func (.func 201) #[] #[],sl 0 (nd base a),sl 1 1] [(0,some (.view (ak (ae base (nd base a) a)))),(1,some (.view (ak (ae base 1 b))))] (.int .i64 (nC a b)) []:=by have:=Nt (Bs:=aa.at w) (o:=av f173 18) (f:=201) (y:=.func 201) (k1:=0) (k2:=1) (res:=.int .i64 (nC a b)) k_ k_ (xd a) uD rfl λw va vb ha hb=>Ng ha hb h1 o_;rw[cW]at this;exact this
 refine lC (Q:=λe w'=>∃ vq vr,e=.returned (.tuple #[vq,vr])/\jD w w' vq (a/b)/\jD w w' vr (a%b)/\Below w.heap.size w w') mixed func173 [cz.row va (nd base a) (ak (ae base (nd base a) a)),cz.row vb 1 (ak (ae base 1 b))] hl 100 (N:=110) k_
  (rs:=[(.step 18 (av f173 18) _ _ _ _ S4:aX prog (aa.at w) 110),.rw 19 (.bool (decide (nC a b<0))) (.bool false) (by rw[aJ hc]),.ld f173 28 176 1 0 (.view (ak (ae base 1 b))) (aW b) rfl (by rw[fH,aAe hb];rfl) k_,.step 29 (av f173 29) _ _ _ _ (aJg (y:=.func 202) (k1:=0) k_ (xd a) (te kF) hb h1 rfl 2),.bs f173 34 3 1 176 1 [0] (aW 0) [aW (a%b)] #[aW (a%b)] (.row (ak (ae base 1 (a%b))) 176 1) (by rw[aAe hr];rfl) (λv hv=>by simp at hv;subst hv;rfl) (λv hv=>by simp at hv;subst hv;rfl) k_ rfl o_ o_ k_,.step 35 (av f173 35) _ _ _ _ (Nx (y:=.func 175) (k:=3) (n:=1) (M:=1) (a:=a%b) (x:=.row (ak (ae base 1 (a%b))) 176 1) k_ rfl rfl (bh 1) (by rw[CF];exact hr) o_ rfl)])
  (v:=.tuple #[sl 2 (nd base (a/b)),sl 3 (nd base (a%b))]) (ms:=[(2,oN (a/b)),(3,.row (ak (ae base 1 (a%b))) 176 1)]) k_ λau bY v' w' jY bj dz _=>?_
 obtain⟨cM,rfl,ba⟩:=jY.ub;obtain⟨p,q,hp,h3,h4⟩:=jx ba;have e:cM=#[p,q]:=vh.1 (by rw[hp]);subst e;exact⟨p,q,rfl,wU bj (dz _ (aT ..)) (dO d_ _) h3,wU bj (dz _ (bB _ (aT ..))) (by rw[CF];exact hr) h4,bj.base⟩
theorem norm{a b e:Nat}(bZ:b<=a)(hb:nd base b=e+2)(h1:nd base a<35184372088831):
  ∃ k,k<=31/\32-bl (b/base^(e+1)%base)=k/\DV e (nd base a+1) (a*2^k) (b*2^k)/\nd base (b*2^k)=e+2/\b*2^k<base^(e+3):=by
 have al:=dO (B:=base) d_ b;rw[hb]at al;have dM:base^(e+1)<=b:=YZ d_ o_;have hp:0<base^(e+1):=cG d_;have hd:b/base^(e+1)%base=b/base^(e+1):=EH al;obtain⟨d,lH⟩:∃ d,d=b/base^(e+1):=⟨_,rfl⟩;have mH:d<base:=by rw[lH,<-hd];exact cH _ d_
 have CU:d≠0:=by have:=Nu dM hp;omega
 obtain⟨t,t1,t2,t3⟩:=aIX CU;have ht:t<=31:=by
  rcases eC t 32 with h|h
  ·omega
  ·have:=cY (show 0<2 by decide) h;have e32:(2:Nat)^32=base:=by decide
   omega
 have fF:0<2^(31-t):=cG d_;have hV1:d*2^(31-t)<=b*2^(31-t)/base^(e+1):=by rw[CO hp,A7];refine e8 _ ?_;rw[lH];exact CP _ _
 have xe:base<=2*(b*2^(31-t)/base^(e+1)):=by
  have h3:2^t*2^(31-t)<=d*2^(31-t):=e8 _ t2;rw[<-ep,show t+(31-t)=31 by omega]at h3;have e31:base=2*2^31:=by decide
  omega
 have xb:b*2^(31-t)<base^(e+2):=by
  have h3:b<(d+1)*base^(e+1):=by rw[lH];exact(iy hp).1 (A5 _)
  have h4:(d+1)*2^(31-t)<=base:=by have:(d+1)*2^(31-t)<=2^(t+1)*2^(31-t):=e8 _ t3;rw[<-ep,show t+1+(31-t)=32 by omega]at this;exact this
  have h5:b*2^(31-t)<(d+1)*base^(e+1)*2^(31-t):=A4 h3 fF;rw[A7]at h5;have h6:(d+1)*2^(31-t)*base^(e+1)<=base*base^(e+1):=e8 _ h4;rw[cP base,<-dw]at h6;exact cx h5 h6
 have E5:e+2<=nd base a:=by rw[<-hb];exact iL d_ bZ
 refine⟨31-t,by omega,by rw[hd,<-lH,t1];omega,{ hV:=xb,top:=xe,hL:=by omega,hA:=?_,h63:=by omega },?_,cx xb (cY d_ o_)⟩
 ·have ha:=dO (B:=base) d_ a;have h3:a*2^(31-t)<base^nd base a*2^(31-t):=A4 ha fF;have h4:2^(31-t)*base^(e+1)<=b*2^(31-t):=by rw[cP];exact e8 _ dM
  have h5:2^(31-t)*base^(e+1)*base^(nd base a+1-(e+2))<=b*2^(31-t)*base^(nd base a+1-(e+2)):=e8 _ h4;rw[fG,<-ep,show e+1+(nd base a+1-(e+2))=nd base a by omega,cP]at h5;exact cx h3 h5
 ·refine ZG (jd d_ xb) ?_;rw[<-hb];exact iL d_ (ES _ fF)
theorem S5{w:World}{va vb:Value}{a b e:Nat}(ga:iz w va a)(kY:iz w vb b)(bZ:b<=a)(hb:nd base b=e+2)(h1:nd base a<35184372088831):
  Calls prog 173 #[va,vb] w λe w'=>∃ vq vr,e=.returned (.tuple #[vq,vr])/\jD w w' vq (a/b)/\jD w w' vr (a%b)/\Below w.heap.size w w':=by
 obtain⟨k,hk,hlz,qa,Ny,hV3⟩:=norm bZ hb h1;have pR:nd base b<35184372088831:=eW (iL d_ bZ) h1;have al:=dO (B:=base) d_ b;have aUz:=dO (B:=base) d_ a;rw[hb]at al;have wG:0<2^k:=cG d_;have J4:0<b:=by
  rcases nZ b with h|h
  ·rw[h,pf]at hb;omega
  ·exact h
 have E4:cK w vb (e+2) (ak (ae base (e+2) b)):=by have:=kY;unfold iz at this;rw[hb]at this;exact this
 have hl:∀ s∈[cz.row va (nd base a) (ak (ae base (nd base a) a)),cz.row vb (e+2) (ak (ae base (e+2) b))],s.OK w:=by
  intro s hs;simp at hs;rcases hs with rfl|rfl
  ·exact⟨ga,fA _⟩
  ·exact⟨E4,fA _⟩
 have hc:¬nC a b<0:=by have:=@JT a b;omega
 have uD:pX (.view (ak (ae base (e+2) b))) b:=by have:=xd b;rw[hb]at this;exact this
 have S4:cA prog (aa.at w) (av f173 18) [.func (.func 201) #[] #[],sl 0 (nd base a),sl 1 (e+2)] [(0,some (.view (ak (ae base (nd base a) a)))),(1,some (.view (ak (ae base (e+2) b))))] (.int .i64 (nC a b)) []:=by have:=Nt (Bs:=aa.at w) (o:=av f173 18) (f:=201) (y:=.func 201) (k1:=0) (k2:=1) (res:=.int .i64 (nC a b)) k_ k_ (xd a) uD rfl λw va vb ha hb=>Ng ha hb o_ o_;rw[hb]at this;exact this
 have E5:e+2<=nd base a:=by rw[<-hb];exact iL d_ bZ
 have aUA:nd base a=nd base a:=rfl;have lz:=aI1 (x:=b/base^(e+1)%base) (cH _ d_);rw[hlz]at lz;have gw:2<=e+2:=by omega
 obtain⟨p,hp⟩:∃ p,p+(e+2)=nd base a+1:=⟨nd base a+1-(e+2),by omega⟩;have Nz:=aJd (Bs:=aa.at w) (M:=e+3) qa o_ hp;have hA:=qa.hA;rw[show nd base a+1-(e+2)=p by omega]at hA;have S6:a*2^k%(b*2^k*base^p)=a*2^k:=dF hA;have S7:a*2^k%(b*2^k*base^0)=a%b*2^k:=by rw[rN,fZ,Z3]
 have hQ:a*2^k/(b*2^k)=a/b:=Z4 _ _ wG;have aJh:a%b*2^k<base^(e+2):=by refine cx (A4 (cH _ J4) wG) (iM qa.hV)
 have yu:=aJf (Bs:=aa.at w) (L:=nd base a+1) (k:=k) aJh o_ hk o_;rw[Sc _ wG]at yu;have J5:a/b<base^p:=by rw[<-hQ,iy qa.pos,cP (base^p)];exact hA
 have Ho:a%b<base^(e+2):=l8 (cH _ J4) al;unfold Bd at Nz;rw[S6,S7,hQ,M3,JI]at Nz;generalize hn:nd base a=n at *
 refine lC (Q:=λe w'=>∃ vq vr,e=.returned (.tuple #[vq,vr])/\jD w w' vq (a/b)/\jD w w' vr (a%b)/\Below w.heap.size w w') mixed func173 [cz.row va n (ak (ae base n a)),cz.row vb (e+2) (ak (ae base (e+2) b))] hl 100 (N:=110) k_
  (rs:=[(.step 18 (av f173 18) _ _ _ _ S4:aX prog (aa.at w) 110),.rw 19 (.bool (decide (nC a b<0))) (.bool false) (by rw[aJ hc]),.fh 23 (e+2) 1 false s_,.eV 39 (e+2) 1 (e+1) rfl o_,.ix f173 40 1 (e+2) (e+1) o_ k_,.ld f173 41 176 1 (e+1) (.view (ak (ae base (e+2) b))) (aW (b/base^(e+1)%base)) rfl (by rw[fH];exact DG.vd o_) k_,lz.at 42,.step 45 (av f173 45) _ _ _ _ (aAd (y:=.func 204) (k1:=1) k_ uD hk o_ hb 2),.step 46 (av f173 46) _ _ _ _ (Nx (y:=.func 175) (k:=2) (n:=e+3) (M:=e+3) (a:=b*2^k) (x:=.row (ak (ae base (e+3) (b*2^k))) 176 1) k_ rfl rfl (bh _) hV3 o_ Ny),.step 49 (av f173 49) _ _ _ _ (aAd (y:=.func 204) (k1:=0) (x1:=.view (ak (ae base n a))) k_ (by have:=xd a;rw[hn]at this;exact this) hk o_ hn 3),.eV 55 (n+1) (e+2) p o_ o_,.pS f173 56 4 p 176 4 (aW 0) (ak (List.replicate p 0)) (EL _) rfl rfl o_ (by simp[maxLen];omega) k_,.eV 60 (n+1) (e+2) p o_ o_,.wr 61 .i64 ((p:Int)-1) ((p:Int)-1) (oL o_),.code 0 _ _ _ _ _ Nz,.upto f173 80 3 (n+1) (e+2) 1 o_ k_,.code 2 _ _ _ _ _ yu,.step 107 (av f173 107) _ _ _ _ (Nx (y:=.func 175) (k:=4) (n:=p) (M:=p) (a:=a/b) (x:=.row (ak (ae base p (a/b))) 176 1) k_ rfl rfl (bh _) J5 o_ rfl),.step 109 (av f173 109) _ _ _ _ (Nx (y:=.func 175) (k:=3) (n:=e+2) (M:=n+1) (a:=a%b) (x:=.row (ak (ae base (n+1) (a%b))) 176 1) k_ rfl rfl o_ Ho o_ rfl)])
  (v:=.tuple #[sl 4 (nd base (a/b)),sl 3 (nd base (a%b))]) (ms:=[(4,.row (ak (ae base p (a/b))) 176 1),(3,.row (ak (ae base (n+1) (a%b))) 176 1)]) k_ λau bY v' w' jY bj dz _=>?_
 obtain⟨cM,rfl,ba⟩:=jY.ub;obtain⟨p,q,hp,h3,h4⟩:=jx ba;have e:cM=#[p,q]:=vh.1 (by rw[hp]);subst e;exact⟨p,q,rfl,wU bj (dz _ (aT ..)) J5 h3,wU bj (dz _ (bB _ (aT ..))) (cx Ho (cY d_ o_)) h4,bj.base⟩
def sv(neg:Bool)(m:Nat):Value:=.agg #[.bool neg,pk m]
def sg(neg:Bool)(m:Nat):Int:=if neg then -(m:Int)else m
def bK(z:Int):Value:=sv (decide (z<0)) z.natAbs
theorem uE(neg:Bool)(m:Nat):E2 neg m=bK (sg neg m):=by
 cases neg
 ·have e:decide ((m:Int)<0)=false:=by simp
  show Value.agg #[.bool false,pk m]=Value.agg #[.bool (decide ((m:Int)<0)),pk (m:Int).natAbs];rw[e];rfl
 ·have e:(decide (-(m:Int)<0))=decide (m≠0):=by rw[s9];omega
  show Value.agg #[.bool (decide (m≠0)),pk m]=Value.agg #[.bool (decide (-(m:Int)<0)),pk (-(m:Int)).natAbs];rw[e,J6];rfl
theorem rU{C:Int->Value->Prop}(h0:∀ m:Nat,C m (sv false m))(h1:∀ m:Nat,m≠0->C (-(m:Int)) (sv true m))(z:Int):C z (bK z):=by
 by_cases hz:z<0
 ·obtain⟨m,rfl⟩:∃ m:Nat,z=-(m:Int):=⟨z.natAbs,by omega⟩;have:=h1 m o_;have e:bK (-(m:Int))=sv true m:=by unfold bK;rw[aB hz,J6];rfl
  rw[e];exact this
 ·obtain⟨m,rfl⟩:∃ m:Nat,z=(m:Int):=⟨z.natAbs,by omega⟩;have e:bK (m:Int)=sv false m:=by unfold bK;rw[aJ hz];rfl
  rw[e];exact h0 m
theorem xf{m n:Nat}(h:m<2^n):nd base m<=n:=jd d_ (cx h (aAf d_ n))
theorem vA{m n:Nat}(h:m<2^n):nd 256 m<=n:=jd d_ (cx h (aAf d_ n))
theorem aAg{w:World}{m n:Nat}(h:m<2^n)(hn:n<=1099511627776):Calls prog 172 #[pk m] w λe w'=>∃ v,e=.returned v/\jD w w' v m/\Below w.heap.size w w':=by have e:km (BA (cd m))=m:=EX m;have:=aHZ (w:=w) (s:=BA (cd m)) (by rw[oK,ti];have:=vA h;omega);rw[e]at this;exact this
section
variable{Bs:aa}{N:Nat}
def aX.of(fn:Func)(key k m n:Nat)(h:m<2^n)(hn:n<=1099511627776){y:Operand}(ho:dp (av fn key).op=some y):aX prog Bs N:=
 .step key (av fn key) [.func (.func 172) #[] #[],pk m] [(k,none)] (sl k (nd base m)) [(k,oN m)] (Ns ho k_ (λv hv=>by simp at hv;subst hv;rfl) (λ_=>aAg h hn) k)
def aX.add(fn:Func)(key k k1 k2 a b:Nat)(h1:nd base a<35184372088832)(h2:nd base b<35184372088832){y:Operand}(ho:dp (av fn key).op=some y):aX prog Bs N:=
 .step key (av fn key) _ _ _ _ (SM (f:=209) (k1:=k1) (k2:=k2) ho k_ (nD a) (nD b) (λ_ _ _ ha hb=>aHx ha hb h1 h2) k)
def aX.less(fn:Func)(key k k1 k2 a b:Nat)(bZ:b<=a)(h1:nd base a<35184372088832){y:Operand}(ho:dp (av fn key).op=some y):aX prog Bs N:=
 .step key (av fn key) _ _ _ _ (SM (f:=210) (k1:=k1) (k2:=k2) ho k_ (nD a) (nD b) (λ_ _ _ ha hb=>aHC ha hb bZ h1) k)
def aX.mul(fn:Func)(key k k1 k2 a b:Nat)(h1:nd base a<1099511627777)(h2:nd base b<1099511627777){y:Operand}(ho:dp (av fn key).op=some y):aX prog Bs N:=
 .step key (av fn key) _ _ _ _ (SM (f:=217) (k1:=k1) (k2:=k2) ho k_ (nD a) (nD b) (λ_ _ _ ha hb=>aHP ha hb o_) k)
def aX.cmp(fn:Func)(key k1 k2 a b:Nat)(h1:nd base a<35184372088832)(h2:nd base b<35184372088832){y:Operand}(ho:dp (av fn key).op=some y):aX prog Bs N:=
 .step key (av fn key) _ _ _ _ (Nt (f:=201) (k1:=k1) (k2:=k2) (res:=.int .i64 (nC a b)) ho k_ (nD a) (nD b) rfl λ_ _ _ ha hb=>Ng ha hb h1 h2)
def aX.tj(fn:Func)(key k a:Nat)(x:Obj)(hx:pX x a)(neg:Bool)(h1:nd base a<35184372088832){y:Operand}(ho:dp (av fn key).op=some y):aX prog Bs N:=
 .step key (av fn key) _ _ _ _ (Hg (f:=149) (k1:=k) (post:=[.bool neg]) (res:=E2 neg a) ho k_ hx (λv hv=>by simp at hv;subst hv;rfl) rfl λ_ _ h=>Z2 h h1)
end
def xg(neg:Bool):List UInt8->Bool
 |[]=>!neg
 |c::_=>decide (c≠0)
theorem yS(neg:Bool)(l:List UInt8):aD prog 107 [.agg #[.bool neg,.string (BA l)]] (.bool (xg neg l)):=by
 cases l with
 |nil=>exact aK func107 (λ_=>[.rw 5 (.bool ((BA []).toList==(ByteArray.mk #[]).toList)) (.bool true) (by rw[EO];rfl)])
 |cons c l=>
  have e:(((c.toNat:Nat):Int)!=0)=decide (c≠0):=by
   by_cases h:c=0
   ·subst h;rfl
   ·rw[aB h,uu];intro h2;exact h (Nd.1 (by simpa using h2))
  exact aK func107 (λ_=>[.rw 5 (.bool ((BA (c::l)).toList==(ByteArray.mk #[]).toList)) (.bool false) (by rw[EO];rfl),.sx f107 11 (BA (c::l)) 0 c (by rw[JQ];rfl) k_,.rw 12 (.bool (((c.toNat:Nat):Int)!=0)) (.bool (decide (c≠0))) (by rw[e])])
theorem cU(neg:Bool){m:Nat}(h:neg=true->m≠0):aD prog 107 [sv neg m] (.bool true):=by
 have:=yS neg (cd m);have e:xg neg (cd m)=true:=by
  by_cases hm:m=0
  ·subst hm;rw[CJ];cases neg
   ·rfl
   ·exact absurd rfl (h rfl)
  ·obtain⟨c,l,h1,h2⟩:=Nl hm;rw[h1];exact aB h2
 rw[e]at this;exact this
theorem kG{z:Int}(h:z.natAbs<9223372036854775808):aD prog 110 [.int .i64 z] (bK z):=by
 have jS:nd base z.natAbs<35184372088832:=by have:=xf (m:=z.natAbs) (n:=63) o_;omega
 by_cases hz:z<0
 ·have e:=uE true z.natAbs;have e2:sg true z.natAbs=z:=by show -((z.natAbs:Nat):Int)=z;omega
  rw[e2]at e;rw[<-e];exact aK func110 (λ_=>[.rw 4 (.bool (decide (z<0))) (.bool true) (by rw[aB hz]),.wr 6 .u64 z (z+18446744073709551616) (by rw[jR];omega),.wr 7 .u64 (0-(z+18446744073709551616)) (z.natAbs:Int) (by rw[jR];omega),.step 8 (av f110 8) _ _ _ _ (Ns (y:=.func 148) (args:=[.int .u64 (z.natAbs:Int)]) k_ k_ (λv hv=>by simp at hv;subst hv;rfl) (λ_=>Su (n:=z.natAbs) o_) 1),.tj f110 9 1 z.natAbs (oN z.natAbs) (nD _) true jS (y:=.func 149) k_])
 ·have e:=uE false z.natAbs;have e2:sg false z.natAbs=z:=by show((z.natAbs:Nat):Int)=z;omega
  rw[e2]at e;rw[<-e];exact aK func110 (λ_=>[.rw 4 (.bool (decide (z<0))) (.bool false) (by rw[aJ hz]),.wr 11 .u64 z (z.natAbs:Int) (by rw[jR];omega),.step 12 (av f110 12) _ _ _ _ (Ns (y:=.func 148) (args:=[.int .u64 (z.natAbs:Int)]) k_ k_ (λv hv=>by simp at hv;subst hv;rfl) (λ_=>Su (n:=z.natAbs) o_) 1),.tj f110 13 1 z.natAbs (oN z.natAbs) (nD _) false jS (y:=.func 149) k_])
theorem rV(z:Int):aD prog 108 [bK z] (.int .i64 z.sign):=by
 refine rU (C:=λz v=>aD prog 108 [v] (.int .i64 z.sign)) (λm=>?_) (λm hm=>?_) z
 ·by_cases h:m=0
  ·subst h;exact aK func108 (λ_=>[(cU false (m:=0) n_).at 5,.rw 10 (.bool ((BA (cd 0)).toList==(ByteArray.mk #[]).toList)) (.bool true) (by rw[qF];rfl)])
  ·have e:((m:Nat):Int).sign=1:=Be o_;rw[e];exact aK func108 (λ_=>[(cU false (m:=m) n_).at 5,.rw 10 (.bool ((BA (cd m)).toList==(ByteArray.mk #[]).toList)) (.bool false) (by rw[qF,aJ h])])
 ·have e:(-(m:Int)).sign=-1:=E6 o_;rw[e];exact aK func108 (λ_=>[(cU true (m:=m) (λ_=>hm)).at 5,.rw 10 (.bool ((BA (cd m)).toList==(ByteArray.mk #[]).toList)) (.bool false) (by rw[qF,aJ hm])])
theorem oj(z:Int):aD prog 208 [bK z] (bK (-z)):=by
 refine rU (C:=λz v=>aD prog 208 [v] (bK (-z))) (λm=>?_) (λm hm=>?_) z
 ·have e:=uE true m;rw[<-show sg true m=-(m:Int)from rfl,<-e];have e:(!((BA (cd m)).toList==(ByteArray.mk #[]).toList))=decide (m≠0):=by rw[qF];simp
  exact aK func208 (λ_=>[(cU false (m:=m) n_).at 4,.rw 13 (.bool (!((BA (cd m)).toList==(ByteArray.mk #[]).toList))) (.bool (decide (m≠0))) (by rw[e])])
 ·have e:=uE false m;rw[J7,<-show sg false m=(m:Int)from rfl,<-e];exact aK func208 (λ_=>[(cU true (m:=m) (λ_=>hm)).at 4])
theorem S8{n1 n2:Bool}{m1 m2 p q:Nat}(v1:n1=true->m1≠0)(v2:n2=true->m2≠0)(h1:m1<2^p)(h2:m2<2^q)(hp:p<=1099511627776)(hq:q<=1099511627776):
  aD prog 180 [sv n1 m1,sv n2 m2] (bK (sg n1 m1+sg n2 m2)):=by
 have b1:=xf h1;have b2:=xf h2;have same:∀ n:Bool,n1=n->n2=n->aD prog 180 [sv n1 m1,sv n2 m2] (bK (sg n1 m1+sg n2 m2)):=by
  rintro n rfl rfl
  have bs:nd base (m1+m2)<35184372088832:=by
   have:=xf (m:=m1+m2) (n:=p+q+1) (by have e1:=cY (show 0<2 by decide) (show p<=p+q by omega);have e2:=cY (show 0<2 by decide) (show q<=p+q by omega);rw[dw];omega)
   omega
  have e:sg n2 m1+sg n2 m2=sg n2 (m1+m2):=by cases n2<;>simp[sg]<;>omega
  rw[e,<-uE];cases n2
  ·exact aK func180 (λ_=>[(cU _ v1).at 8,(cU _ v2).at 12,.of f180 18 3 m1 p h1 hp (y:=.func 172) k_,.of f180 21 4 m2 q h2 hq (y:=.func 172) k_,.add f180 30 5 3 4 m1 m2 o_ o_ (y:=.func 209) k_,.tj f180 33 5 (m1+m2) (oN (m1+m2)) (nD _) false bs (y:=.func 149) k_])
  ·exact aK func180 (λ_=>[(cU _ v1).at 8,(cU _ v2).at 12,.of f180 18 3 m1 p h1 hp (y:=.func 172) k_,.of f180 21 4 m2 q h2 hq (y:=.func 172) k_,.add f180 30 5 3 4 m1 m2 o_ o_ (y:=.func 209) k_,.tj f180 33 5 (m1+m2) (oN (m1+m2)) (nD _) true bs (y:=.func 149) k_])
 have diff:n1≠n2->aD prog 180 [sv n1 m1,sv n2 m2] (bK (sg n1 m1+sg n2 m2)):=by
  intro aU;by_cases dM:m2<=m1
  ·have bs:nd base (m1-m2)<35184372088832:=by have:=iL (B:=base) d_ (Bf m1 m2);omega
   have e:sg n1 m1+sg n2 m2=sg n1 (m1-m2):=by cases n1<;>cases n2<;>simp[sg]at aU ⊢<;>omega
   have hc:decide (nC m1 m2>=0)=true:=aB (JT.2 dM);rw[e,<-uE];cases n1<;>cases n2<;>first|exact absurd rfl aU|skip
   ·exact aK func180 (λ_=>[(cU _ v1).at 8,(cU _ v2).at 12,.of f180 18 3 m1 p h1 hp (y:=.func 172) k_,.of f180 21 4 m2 q h2 hq (y:=.func 172) k_,.cmp f180 37 3 4 m1 m2 o_ o_ (y:=.func 201) k_,.rw 38 (.bool (decide (nC m1 m2>=0))) (.bool true) (by rw[hc]),.less f180 41 5 3 4 m1 m2 dM o_ (y:=.func 210) k_,.tj f180 44 5 (m1-m2) (oN (m1-m2)) (nD _) false bs (y:=.func 149) k_])
   ·exact aK func180 (λ_=>[(cU _ v1).at 8,(cU _ v2).at 12,.of f180 18 3 m1 p h1 hp (y:=.func 172) k_,.of f180 21 4 m2 q h2 hq (y:=.func 172) k_,.cmp f180 37 3 4 m1 m2 o_ o_ (y:=.func 201) k_,.rw 38 (.bool (decide (nC m1 m2>=0))) (.bool true) (by rw[hc]),.less f180 41 5 3 4 m1 m2 dM o_ (y:=.func 210) k_,.tj f180 44 5 (m1-m2) (oN (m1-m2)) (nD _) true bs (y:=.func 149) k_])
  ·have bs:nd base (m2-m1)<35184372088832:=by have:=iL (B:=base) d_ (Bf m2 m1);omega
   have e:sg n1 m1+sg n2 m2=sg n2 (m2-m1):=by cases n1<;>cases n2<;>simp[sg]at aU ⊢<;>omega
   have hc:decide (nC m1 m2>=0)=false:=aJ (λh=>dM (JT.1 h));rw[e,<-uE];cases n1<;>cases n2<;>first|exact absurd rfl aU|skip
   ·exact aK func180 (λ_=>[(cU _ v1).at 8,(cU _ v2).at 12,.of f180 18 3 m1 p h1 hp (y:=.func 172) k_,.of f180 21 4 m2 q h2 hq (y:=.func 172) k_,.cmp f180 37 3 4 m1 m2 o_ o_ (y:=.func 201) k_,.rw 38 (.bool (decide (nC m1 m2>=0))) (.bool false) (by rw[hc]),.less f180 47 5 4 3 m2 m1 o_ o_ (y:=.func 210) k_,.tj f180 50 5 (m2-m1) (oN (m2-m1)) (nD _) true bs (y:=.func 149) k_])
   ·exact aK func180 (λ_=>[(cU _ v1).at 8,(cU _ v2).at 12,.of f180 18 3 m1 p h1 hp (y:=.func 172) k_,.of f180 21 4 m2 q h2 hq (y:=.func 172) k_,.cmp f180 37 3 4 m1 m2 o_ o_ (y:=.func 201) k_,.rw 38 (.bool (decide (nC m1 m2>=0))) (.bool false) (by rw[hc]),.less f180 47 5 4 3 m2 m1 o_ o_ (y:=.func 210) k_,.tj f180 50 5 (m2-m1) (oN (m2-m1)) (nD _) false bs (y:=.func 149) k_])
 by_cases h:n1=n2
 ·exact same n2 h rfl
 ·exact diff h
theorem E7{C:Int->Int->Value->Value->Prop}(h:∀(n1 n2:Bool) (m1 m2:Nat),(n1=true->m1≠0)->(n2=true->m2≠0)->C (sg n1 m1) (sg n2 m2) (sv n1 m1) (sv n2 m2))(x y:Int):C x y (bK x) (bK y):=
 rU (C:=λx v=>C x y v (bK y)) (λm=>rU (C:=λy u=>C m y (sv false m) u) (λk=>h false false m k n_ n_) (λk hk=>h false true m k n_ (λ_=>hk)) y)
  (λm hm=>rU (C:=λy u=>C (-(m:Int)) y (sv true m) u) (λk=>h true false m k (λ_=>hm) n_) (λk hk=>h true true m k (λ_=>hm) (λ_=>hk)) y) x
theorem qb(n:Bool)(m:Nat):(sg n m).natAbs=m:=by cases n<;>simp[sg]
theorem yT{x y:Int}{p q:Nat}(h1:x.natAbs<2^p)(h2:y.natAbs<2^q)(hp:p<=1099511627776)(hq:q<=1099511627776):aD prog 180 [bK x,bK y] (bK (x+y)):=by revert h1 h2;refine E7 (C:=λx y v u=>x.natAbs<2^p->y.natAbs<2^q->aD prog 180 [v,u] (bK (x+y))) (λn1 n2 m1 m2 v1 v2 h1 h2=>?_) x y;rw[qb]at h1 h2;exact S8 v1 v2 h1 h2 hp hq
theorem oP(z:Int):aD prog 107 [bK z] (.bool true):=
 rU (C:=λ_ v=>aD prog 107 [v] (.bool true)) (λ_=>cU false n_) (λ_ hm=>cU true λ_=>hm) z
theorem E8{x y:Int}{p q:Nat}(h1:x.natAbs<2^p)(h2:y.natAbs<2^q)(hp:p<=1099511627776)(hq:q<=1099511627776):aD prog 179 [bK x,bK y] (bK (x-y)):=
 aK func179 (λ_=>[(oP x).at 6,(oP y).at 10,(oj y).at 16,(yT h1 (by rw[J6];exact h2) hp hq).at 17])
theorem S9{x y:Int}{p q:Nat}(h1:x.natAbs<2^p)(h2:y.natAbs<2^q)(hp:p<=1099511627776)(hq:q<=1099511627776):aD prog 207 [bK x,bK y] (.int .i64 (x-y).sign):=
 aK func207 (λ_=>[(E8 h1 h2 hp hq).at 7,(rV (x-y)).at 8])
theorem mJ{x y:Int}{p q:Nat}(h1:x.natAbs<2^p)(h2:y.natAbs<2^q)(hp:p<=1099511627776)(hq:q<=1099511627776):aD prog 195 [bK x,bK y] (bK (x*y)):=by
 revert h1 h2;refine E7 (C:=λx y v u=>x.natAbs<2^p->y.natAbs<2^q->aD prog 195 [v,u] (bK (x*y))) (λn1 n2 m1 m2 v1 v2 h1 h2=>?_) x y;rw[qb]at h1 h2;have b1:=xf h1;have b2:=xf h2;have bs:nd base (m1*m2)<35184372088832:=by have:=xf (m:=m1*m2) (n:=p+q) (by rw[ep];exact pT h1 h2);omega
 have e:sg n1 m1*sg n2 m2=sg (n1 !=n2) (m1*m2):=by cases n1<;>cases n2<;>simp[sg,Hp,Hq]
 rw[e,<-uE];cases n1<;>cases n2
 ·exact aK func195 (λ_=>[(cU _ v1).at 6,(cU _ v2).at 10,.of f195 16 3 m1 p h1 hp (y:=.func 172) k_,.of f195 19 4 m2 q h2 hq (y:=.func 172) k_,.mul f195 20 5 3 4 m1 m2 o_ o_ (y:=.func 217) k_,.tj f195 26 5 (m1*m2) (oN (m1*m2)) (nD _) false bs (y:=.func 149) k_])
 ·exact aK func195 (λ_=>[(cU _ v1).at 6,(cU _ v2).at 10,.of f195 16 3 m1 p h1 hp (y:=.func 172) k_,.of f195 19 4 m2 q h2 hq (y:=.func 172) k_,.mul f195 20 5 3 4 m1 m2 o_ o_ (y:=.func 217) k_,.tj f195 26 5 (m1*m2) (oN (m1*m2)) (nD _) true bs (y:=.func 149) k_])
 ·exact aK func195 (λ_=>[(cU _ v1).at 6,(cU _ v2).at 10,.of f195 16 3 m1 p h1 hp (y:=.func 172) k_,.of f195 19 4 m2 q h2 hq (y:=.func 172) k_,.mul f195 20 5 3 4 m1 m2 o_ o_ (y:=.func 217) k_,.tj f195 26 5 (m1*m2) (oN (m1*m2)) (nD _) true bs (y:=.func 149) k_])
 ·exact aK func195 (λ_=>[(cU _ v1).at 6,(cU _ v2).at 10,.of f195 16 3 m1 p h1 hp (y:=.func 172) k_,.of f195 19 4 m2 q h2 hq (y:=.func 172) k_,.mul f195 20 5 3 4 m1 m2 o_ o_ (y:=.func 217) k_,.tj f195 26 5 (m1*m2) (oN (m1*m2)) (nD _) false bs (y:=.func 149) k_])
section
variable{Bs:aa}{N:Nat}
theorem NA{ι:Map}{c:Nat->Option Obj}{w:World}(hm:aM Bs ι c w){k n size g0:Nat}{ty:TypeId}{v:Value}{xs:aj}(hk:c k=none)(h:w.ownsRow g0 ty size v n xs)(cN:∀ u∈xs,flat u=true)
  (dq:∀ j y b o cap,c j=some y->y.owns=true->ι j=some (.at b o cap)->b<g0) :
  ∃ au,Map.le ι au/\aM Bs au (aY c k (.view xs)) w/\aG au (.slice (some ⟨k,0,some 7⟩) n 0) v:=by
 refine yy hm hk (.YV h) cN λb o c' e j y o' aO hj hy he=>?_;have h1:=dq j y b o' aO hj hy he;rcases h.2 with ⟨h2,_⟩|⟨g,cap,cur,h2,h3,_⟩
 ·rw[h2]at e;cases e
 ·rw[h2]at e;injection e with e1 e2;injection e1 with e1;injection e1 with e1;omega
def j6(a:Nat):Obj:=.view (ak (ae base (nd base a) a))
theorem NB{ι:Map}{c:Nat->Option Obj}{w:World}(hm:aM Bs ι c w):∀ j y b o cap,c j=some y->y.owns=true->ι j=some (.at b o cap)->b<w.heap.size:=λj y b o cap h1 h2 h3=>(hm.own j y b o cap h1 h2 h3).1
theorem aAh{ι au:Map}{c:Nat->Option Obj}{w:World}{g0 k:Nat}{xs:aj}(hm:aM Bs ι c w)(hle:Map.le ι au)(h:∀ j y b o cap,c j=some y->y.owns=true->ι j=some (.at b o cap)->b<g0):
  ∀ j y b o cap,aY c k (.view xs) j=some y->y.owns=true->au j=some (.at b o cap)->b<g0:=by
 intro j y b o cap hj hy hb;unfold aY at hj;by_cases bL:j=k
 ·rw[aw bL]at hj;injection hj with hj;subst hj;cases hy
 ·rw[ao bL]at hj;obtain⟨l,e1,_⟩:=hm.born j y hj;have:=hle j l e1;rw[hb]at this;injection this with this;subst this;exact h j y b o cap hj hy e1
theorem aJi{o:Oper}{y:Operand}{f:FuncId}{args:aj}{c:Nat}(ho:dp o.op=some y)(eG:gk prog f=true)(de:∀ v∈args,flat v=true)
  (h:∀ w,Calls prog f args.toArray w λe w'=>∃ v,e=.returned v/\jD w w' v c/\Below w.heap.size w w') (k:Nat) :
  cA prog Bs o (.func (.func f) #[] #[]::args) [(k,none)] (sl k (nd base c)) [(k,j6 c)]:=by
 refine jB (fi:=[]) (ca:=[]) ho eG λι cc w hm hn args' ba=>?_;rw[jo,iY]at ba;rw[nj ba de];refine(h w).mono ?_
 rintro e w' ⟨v,rfl,h1,h2⟩
 obtain⟨au,q1,q2,q3⟩:=YW hm h2 (k:=k) (hn _ (aT ..)) h1 (fA _);exact⟨au,v,rfl,q1,q3,q2⟩
def aX.yU(fn:Func)(key k m n:Nat)(h:m<2^n)(hn:n<=1099511627776){y:Operand}(ho:dp (av fn key).op=some y):aX prog Bs N:=
 .step key (av fn key) [.func (.func 172) #[] #[],pk m] [(k,none)] (sl k (nd base m)) [(k,j6 m)] (aJi ho k_ (λv hv=>by simp at hv;subst hv;rfl) (λ_=>aAg h hn) k)
theorem uF(a:Nat):pX (j6 a) a:=xd a
theorem NC{o:Oper}{y:Operand}(ho:dp o.op=some y){k1 k2 kq kr a b:Nat}(hk:kr≠kq){x1 x2:Obj}(uD:pX x1 a)(kz:x1.gj=true)(gN:pX x2 b)(kF:b≠0)(h1:nd base a<35184372088831)(h2:nd base b<35184372088831):
  cA prog Bs o [.func (.func 173) #[] #[],sl k1 (nd base a),sl k2 (nd base b)] [(k1,some x1),(k2,some x2),(kq,none),(kr,none)] (.tuple #[sl kq (nd base (a/b)),sl kr (nd base (a%b))]) [(kr,j6 (a%b)),(kq,j6 (a/b))]:=by
 refine jB (fi:=[]) (ca:=[]) ho k_ λι c w hm hn args' ba=>?_;rw[jo,iY]at ba;obtain⟨va,vb,rfl,hv,iw⟩:=jx ba;have ig:c k1=some x1:=hn (k1,some x1) s_;have fF:c k2=some x2:=hn (k2,some x2) s_;have J8:c kq=none:=hn (kq,none) s_;have Ta:c kr=none:=hn (kr,none) s_;have ha:=A6 hm ig uD hv;have hb:=A6 hm fF gN iw;have fin:∀(w':World) (vq vr:Value),Below w.heap.size w w'->(∃ bM,Map.le ι bM/\aM Bs bM (aY c kq (j6 (a/b))) w'/\aG bM (sl kq (nd base (a/b))) vq/\∃ dC,Map.le bM dC/\aM Bs dC (aY (aY c kq (j6 (a/b))) kr (j6 (a%b))) w'/\aG dC (sl kr (nd base (a%b))) vr)->
   ∃ au v',Ending.returned (.tuple #[vq,vr])=.returned v'/\Map.le ι au/\aG au (.tuple #[sl kq (nd base (a/b)),sl kr (nd base (a%b))]) v'/\aM Bs au (ll c [(kr,j6 (a%b)),(kq,j6 (a/b))]) w':=by
  rintro w' vq vr fK ⟨bM,q1,q2,q3,dC,s1,s2,s3⟩
  exact⟨dC,_,rfl,q1.trans s1,.tup (.cons (q3.mono s1) (.cons s3 .nil)),s2⟩
 have J9:∀ x,aY c kq x kr=none:=λx=>by unfold aY;rw[ao hk];exact Ta
 have new:∀(w':World) (vq vr:Value),Below w.heap.size w w'->jD w w' vq (a/b)->jD w w' vr (a%b)->(∃ bM,Map.le ι bM/\aM Bs bM (aY c kq (j6 (a/b))) w'/\aG bM (sl kq (nd base (a/b))) vq/\∃ dC,Map.le bM dC/\aM Bs dC (aY (aY c kq (j6 (a/b))) kr (j6 (a%b))) w'/\aG dC (sl kr (nd base (a%b))) vr):=by intro w' vq vr fK h3 h4;have bj:=hm.call fK;obtain⟨bM,q1,q2,q3⟩:=NA bj J8 h3 (fA _) (NB hm);obtain⟨dC,s1,s2,s3⟩:=NA q2 (J9 _) h4 (fA _) (aAh bj q1 (NB hm));exact⟨bM,q1,q2,q3,dC,s1,s2,s3⟩
 by_cases bZ:a<b
 ·have e1:a/b=0:=l4 bZ;have e2:a%b=a:=dF bZ;refine(S2 ha hb bZ o_ o_).mono ?_
  rintro e w' ⟨rfl,fK⟩
  refine fin w' _ _ fK ?_;have bj:=hm.call fK;obtain⟨bM,q1,q2,q3⟩:=yy (xs:=[]) (n:=0) (v:=.slice none 0 0) bj J8 (.inl ⟨rfl,rfl,rfl⟩) n_ n_;have ez:j6 (a/b)=.view []:=by unfold j6;rw[e1,pf];rfl
  have en:nd base (a/b)=0:=by rw[e1,pf]
  rw[ez,en,e2];have Tb:cK w' va (nd base a) (ak (ae base (nd base a) a)):=cK.gB ha fK;obtain⟨dC,s1,s2,s3⟩:=yy q2 (J9 _) Tb (fA _) (λb o c' e j y o' aO hj hy he=>by
   have A2:c j=some y:=by
    unfold aY at hj;by_cases bL:j=kq
    ·rw[aw bL]at hj;injection hj with hj;subst hj;cases hy
    ·rw[ao bL]at hj;exact hj
   obtain⟨l,e1,_⟩:=hm.born j y A2;have e2:=q1 j l e1;rw[he]at e2;injection e2 with e2;subst e2;subst e;rcases hv.gW rfl with ⟨_,_,_,_,e⟩|⟨b',o2,rl,c2,gw,_,_,e⟩
   ·cases e
   ·injection e with e _ _;injection e with e;injection e with e _ _;subst e;exact(hm.seen k1 x1 _ _ _ ig kz gw).2 j y _ _ A2 hy e1)
  exact⟨bM,q1,q2,q3,dC,s1,s2,s3⟩
 ·have Ka:b<=a:=JZ.1 bZ;have go:Calls prog 173 #[va,vb] w λe w'=>∃ vq vr,e=.returned (.tuple #[vq,vr])/\jD w w' vq (a/b)/\jD w w' vr (a%b)/\Below w.heap.size w w':=by
   by_cases al:b<base
   ·exact S3 ha hb Ka kF al o_
   ·have h3:2<=nd base b:=by
     rcases eC (nd base b) 2 with h|h
     ·have h4:=dO (B:=base) d_ b;have h5:base^nd base b<=base^1:=cY d_ o_;rw[CF]at h5;omega
     ·exact h
    exact S5 (e:=nd base b-2) ha hb Ka o_ h1
  refine go.mono ?_
  rintro e w' ⟨vq,vr,rfl,h3,h4,fK⟩
  exact fin w' _ _ fK (new w' vq vr fK h3 h4)
end
def eu(x y:Nat):Nat->Nat×Nat
 |0=>(x,y)
 |i+1=>((eu x y i).2,(eu x y i).1%(eu x y i).2)
theorem Kb(x y:Nat):∀ i,Nat.gcd (eu x y i).1 (eu x y i).2=Nat.gcd x y
 |0=>rfl
 |i+1=>by rw[<-Kb x y i];show Nat.gcd (eu x y i).2 ((eu x y i).1%(eu x y i).2)=_;rw[Hr,<-Nat.gcd_rec,Hr]
theorem Tc(x y:Nat):∀ i,(eu x y i).1<=max x y/\(eu x y i).2<=max x y
 |0=>⟨Nat.le_max_left ..,Nat.le_max_right ..⟩
 |i+1=>by obtain⟨h1,h2⟩:=Tc x y i;exact⟨h2,dh (JH _ _) h1⟩
theorem ND(x y:Nat)(p:Nat->Nat->Bool)(hp:∀ u v,p u v=true->v≠0):∃ n,p (eu x y n).1 (eu x y n).2=false/\∀ i,i<n->p (eu x y i).1 (eu x y i).2=true:=by
 have key:∃ n,p (eu x y n).1 (eu x y n).2=false:=by
  apply hZ;intro gF;have all:∀ i,p (eu x y i).1 (eu x y i).2=true:=λi=>by
   cases h:p (eu x y i).1 (eu x y i).2 with
   |true=>rfl
   |false=>exact absurd ⟨i,h⟩ gF
  have dec:∀ i,(eu x y i).2+i<=y:=by
   intro i;induction i with
   |zero=>exact bh _
   |succ i ih=>
    have h0:=hp _ _ (all i);have h1:(eu x y (i+1)).2<(eu x y i).2:=cH _ (te h0);omega
  have h1:=dec (y+1);omega
 obtain⟨n,hn⟩:=key;obtain⟨e,h1,h2,h3⟩:=yD (λi=>p (eu x y i).1 (eu x y i).2=false) n hn;exact⟨e,h2,λi hi=>by
  cases h:p (eu x y i).1 (eu x y i).2 with
  |true=>rfl
  |false=>exact absurd h (h3 i hi)⟩
def yV(u v:Nat):Bool:=decide (2<nd base v)||(decide (2<nd base u)&&decide (0<nd base v))
section
variable{Bs:aa}
def CV(u v:Nat):aV:=[(5,sl 5 (nd base u)),(6,sl 6 (nd base v))]
def Bg(u v:Nat):List Obj:=[j6 u,j6 v]
theorem aJj{u v:Nat}(h:yV u v=true)(h0:v≠0)(h1:nd base u<35184372088831)(h2:nd base v<35184372088831):
  ah prog Bs 65 (aE (af f147 0)) (CV u v) ([]++marks 5 (Bg u v)) 7 ⟨.normal,gR 5 [some 6,some 8] (CV v (u%v)),[]++dP [some 6,some 8] (Bg v (u%v)),9⟩:=by
 have hd:=NC (Bs:=Bs) (o:=av f147 42) (y:=.func 173) k_ (k1:=5) (k2:=6) (kq:=7) (kr:=8) d_ (uF u) rfl (uF v) h0 h1 h2;unfold yV at h;by_cases c1:2<nd base v
 ·exact aA [.gt 28 (nd base v) 2 true (by simp[c1]),.step 42 _ _ _ _ _ hd]
 ·simp[c1]at h;exact aA [.gt 28 (nd base v) 2 false (by simp;omega),.gt 32 (nd base u) 2 true (by simp[h.1]),.gt 36 (nd base v) 0 true (by simp[h.2]),.step 42 _ _ _ _ _ hd]
theorem aJk{u v:Nat}(h:yV u v=false):
  ah prog Bs 65 (aE (af f147 0)) (CV u v) ([]++marks 5 (Bg u v)) 7 ⟨.exit 0,CV u v,marks 5 (Bg u v),7⟩:=by
 unfold yV at h;by_cases c1:2<nd base v
 ·simp[c1]at h
 ·by_cases c2:2<nd base u
  ·by_cases c3:0<nd base v
   ·simp[c2,c3]at h
   ·exact aA [.gt 28 (nd base v) 2 false (by simp;omega),.gt 32 (nd base u) 2 true (by simp[c2]),.gt 36 (nd base v) 0 false (by simp;omega)]
  ·exact aA [.gt 28 (nd base v) 2 false (by simp;omega),.gt 32 (nd base u) 2 false (by simp;omega)]
theorem aJl{x y n:Nat}(hn:yV (eu x y n).1 (eu x y n).2=false)(hi:∀ i,i<n->yV (eu x y i).1 (eu x y i).2=true)(h1:nd base (max x y)<35184372088831):
  ah prog Bs 65 (.block 0 (af f147 0)) (gR 5 [some 3,some 4] (CV x y)) ([]++dP [some 3,some 4] (Bg x y)) 5 ⟨.normal,CV (eu x y n).1 (eu x y n).2,marks 5 (Bg (eu x y n).1 (eu x y n).2),7⟩:=by
 have:=rS (P:=prog) (B:=Bs) (N:=65) (b:=aE (af f147 0)) (next:=5) (p:=2) (r:=⟨.exit 0,CV (eu x y n).1 (eu x y n).2,marks 5 (Bg (eu x y n).1 (eu x y n).2),7⟩) n (λi=>CV (eu x y i).1 (eu x y i).2) (λ_=>[]) (λi=>Bg (eu x y i).1 (eu x y i).2) [some 3,some 4] (λ_ _=>rfl)
  (λi _=>⟨λq hq=>(by cases hq),λz hz=>by simp[Bg]at hz;rcases hz with rfl|rfl<;>exact G8 (fA _)⟩) k_ k_
  (λi al=>⟨[some 6,some 8],9,k_,by have hg:=hi i al;have hle:=Tc x y i;refine aJj hg (λe=>?_) (eW (iL d_ hle.1) h1) (eW (iL d_ hle.2) h1);rw[e]at hg;unfold yV at hg;rw[pf]at hg;simp at hg⟩) (aJk hn) n_
 exact bO (id:=0) this
def xh(u v:Nat):aV:=[(9,pY u),(10,pY v)]
theorem Td{x y:Nat}:∃ g,g=Nat.gcd x y/\ah prog Bs 65 (.block 2 (af f147 2)) (xh x y) [] 7 ⟨.normal,[(9,pY g)],[],7⟩:=by
 obtain⟨n,hn,hi⟩:=ND x y (λ_ v=>decide (v≠0)) (λu v h=>kH h);have hz:(eu x y n).2=0:=by have:=Hs hn;omega
 have hg:=Kb x y n;rw[hz,Te]at hg;refine⟨_,hg,bO (id:=2) (ch (P:=prog) (B:=Bs) (N:=65) (b:=aE (af f147 2)) (next:=7) (r:=⟨.exit 2,[(9,pY (eu x y n).1)],[],7⟩) n (λi=>xh (eu x y i).1 (eu x y i).2) (λ_=>[]) (λ_ _ _=>Iff.rfl) (λi al=>?_) ?_ n_)⟩
 ·have h0:(eu x y i).2≠0:=kH (hi i al);show ah _ _ _ _ (xh (eu x y i).1 (eu x y i).2) [] 7 ⟨.normal,xh (eu x y i).2 ((eu x y i).1%(eu x y i).2),[],7⟩;generalize (eu x y i).1=u at *;generalize (eu x y i).2=v at *;exact aA [.rw 57 (.bool ((v:Int)!=0)) (.bool true) (by congr 1;rw[uu];omega),.wX f147 61 .u64 (u:Int) v ((u%v:Nat):Int) o_ (by rw[yP o_];rfl) k_]
 ·rw[hz];exact aA [.rw 57 (.bool (((0:Nat):Int)!=0)) (.bool false) rfl]
end
theorem Tf{n1 n2:Bool}{m1 m2 p q:Nat}(v1:n1=true->m1≠0)(v2:n2=true->m2≠0)(h1:m1<2^p)(h2:m2<2^q)(hp:p<=1099511627776)(hq:q<=1099511627776):
  aD prog 147 [sv n1 m1,sv n2 m2] (bK (Nat.gcd m1 m2:Nat)):=by
 have b1:=xf h1;have b2:=xf h2;have bm:nd base (max m1 m2)<35184372088831:=by rcases NF m1 m2 with h|h<;>simp[h]<;>omega
 obtain⟨n,hn,hi⟩:=ND m1 m2 yV (λu v h e=>by rw[e]at h;unfold yV at h;rw[pf]at h;simp at h)
 have hg:=Kb m1 m2 n;have hle:=Tc m1 m2 n;have hl:=λw=>aJl (Bs:=aa.at w) hn hi bm;have bU:nd base (eu m1 m2 n).1<35184372088831:=eW (iL d_ hle.1) bm;have bV:nd base (eu m1 m2 n).2<35184372088831:=eW (iL d_ hle.2) bm;rw[<-hg];generalize (eu m1 m2 n).1=U at *;generalize (eu m1 m2 n).2=V at *;have e:=uE false (Nat.gcd U V);rw[show sg false (Nat.gcd U V)=((Nat.gcd U V:Nat):Int)from rfl]at e;rw[<-e];by_cases hV:V=0
 ·subst hV;rw[Te];exact aK func147 (λw=>[(cU n1 v1).at 12,(cU n2 v2).at 16,.yU f147 22 3 m1 p h1 hp (y:=.func 172) k_,.yU f147 25 4 m2 q h2 hq (y:=.func 172) k_,.code 0 _ _ _ _ _ (hl w),.rw 49 (.bool (((nd base 0:Nat):Int)==0)) (.bool true) (by rw[pf];rfl),.tj f147 51 5 U (j6 U) (uF U) false o_ (y:=.func 149) k_])
 ·have qD:=ur (B:=base) d_ hV;unfold yV at hn;have c1:nd base V<=2/\nd base U<=2:=by simp at hn;exact⟨hn.1,JZ.1 λh=>by have:=hn.2 h;omega⟩
  have aAi:∀ t,nd base t<=2->t<18446744073709551616:=λt ht=>by have h1:=dO (B:=base) d_ t;have h2:base^nd base t<=base^2:=cY d_ ht;exact cx h1 (dh h2 d_)
  have aJm:=aAi U c1.2;have aAj:=aAi V c1.1;have NG:∀ w,∃ g,g=Nat.gcd U V/\ah prog (aa.at w) 65 (.block 2 (af f147 2)) (xh U V) [] 7 ⟨.normal,[(9,pY g)],[],7⟩:=λw=>Td;have NG:∀ w,ah prog (aa.at w) 65 (.block 2 (af f147 2)) (xh U V) [] 7 ⟨.normal,[(9,pY (Nat.gcd U V))],[],7⟩:=λw=>by obtain⟨g,rfl,h⟩:=NG w;exact h
  have aJn:Nat.gcd U V<18446744073709551616:=eW (Nat.gcd_le_right U (te hV)) aAj;have bG:nd base (Nat.gcd U V)<35184372088832:=by have:=iL (B:=base) d_ (Nat.gcd_le_right U (te hV));omega
  exact aK func147 (λw=>[(cU n1 v1).at 12,(cU n2 v2).at 16,.yU f147 22 3 m1 p h1 hp (y:=.func 172) k_,.yU f147 25 4 m2 q h2 hq (y:=.func 172) k_,.code 0 _ _ _ _ _ (hl w),.fh 49 (nd base V) 0 false (by simp;omega),.step 53 (av f147 53) _ _ _ _ (Hg (f:=174) (y:=.func 174) (k1:=5) (post:=[]) (res:=pY U) k_ k_ (uF U) n_ rfl λ_ _ h=>Zv h aJm o_),.step 55 (av f147 55) _ _ _ _ (Hg (f:=174) (y:=.func 174) (k1:=6) (post:=[]) (res:=pY V) k_ k_ (uF V) n_ rfl λ_ _ h=>Zv h aAj o_),.code 2 _ _ _ _ _ (NG w),.step 63 (av f147 63) _ _ _ _ (Ns (y:=.func 148) (args:=[pY (Nat.gcd U V)]) k_ k_ (λv hv=>by simp at hv;subst hv;rfl) (λ_=>Su aJn) 7),.tj f147 64 7 (Nat.gcd U V) (oN (Nat.gcd U V)) (nD _) false bG (y:=.func 149) k_])
theorem Kc{x y:Int}{p q:Nat}(h1:x.natAbs<2^p)(h2:y.natAbs<2^q)(hp:p<=1099511627776)(hq:q<=1099511627776):aD prog 147 [bK x,bK y] (bK (Nat.gcd x.natAbs y.natAbs:Nat)):=by revert h1 h2;refine E7 (C:=λx y v u=>x.natAbs<2^p->y.natAbs<2^q->aD prog 147 [v,u] (bK (Nat.gcd x.natAbs y.natAbs:Nat))) (λn1 n2 m1 m2 v1 v2 h1 h2=>?_) x y;rw[qb]at h1 h2;rw[qb,qb];exact Tf v1 v2 h1 h2 hp hq
theorem NH{a b q r:Int}(h:a=q*b+r)(hr:(0<b/\0<=r/\r<b)\/(b<0/\b<r/\r<=0)):a.fdiv b=q/\a.fmod b=r:=by
 have key:a.fdiv b=q:=by
  rcases hr with ⟨h1,h2,h3⟩|⟨h1,h2,h3⟩
  ·rw[rM _ o_,h,Int.add_comm,aAk _ _ o_,Int.ediv_eq_zero_of_lt h2 h3];omega
  ·have e:a.fdiv b=(-a).fdiv (-b):=(Int.neg_fdiv_neg a b).symm;have e2:-a=-r+q*-b:=by rw[h,Hq];omega
   rw[e,rM _ o_,e2,aAk _ _ o_,Int.ediv_eq_zero_of_lt o_ o_];omega
 refine⟨key,?_⟩;have:=Int.mul_fdiv_add_fmod a b;rw[key,Tg]at this;omega
section
variable{Bs:aa}{N:Nat}
def aX.Ht(fn:Func)(key k a:Nat)(x:Obj)(hx:pX x a)(neg:Bool)(h1:nd base a<35184372088832){y:Operand}(ho:dp (av fn key).op=some y):aX prog Bs N:=
 .step key (av fn key) _ _ _ _ (Hg (f:=149) (k1:=k) (post:=[.bool neg]) (res:=bK (sg neg a)) ho k_ hx (λv hv=>by simp at hv;subst hv;rfl) rfl λ_ _ h=>by rw[<-uE];exact Z2 h h1)
end
theorem Th{x y:Int}{p q:Nat}(hy:y≠0)(h1:x.natAbs<2^p)(h2:y.natAbs<2^q)(hp:p<=1099511627774)(hq:q<=1099511627774):
  aD prog 227 [bK x,bK y] (.tuple #[bK (x.fdiv y),bK (x.fmod y),.int .i64 0]):=by
 obtain⟨m1,cW⟩:∃ m,m=x.natAbs:=⟨_,rfl⟩;obtain⟨m2,dx⟩:∃ m,m=y.natAbs:=⟨_,rfl⟩;rw[<-cW]at h1;rw[<-dx]at h2;have Hu:m2≠0:=by omega
 have b1:=xf h1;have b2:=xf h2;obtain⟨s,hs⟩:∃ s,s=(decide (x<0)!=decide (y<0)):=⟨_,rfl⟩;obtain⟨n1,Cj⟩:∃ n,n=decide (x<0):=⟨_,rfl⟩;obtain⟨Q,hQ⟩:∃ Q,Q=m1/m2:=⟨_,rfl⟩;obtain⟨R,hR⟩:∃ R,R=m1%m2:=⟨_,rfl⟩;have Kd:m1=Q*m2+R:=by rw[hQ,hR,cP];exact(je _ _).symm
 have yW:R<m2:=by rw[hR];exact cH _ (te Hu)
 have Ti:Q<=m1:=by rw[hQ];exact th _ _
 have bQ:nd base (m1/m2)<35184372088832:=by have:=iL (B:=base) d_ Ti;rw[<-hQ];omega
 have bR:nd base (m1%m2)<35184372088832:=by have:=iL (B:=base) d_ (iM yW);rw[<-hR];omega
 have ex:x=sg n1 m1:=by rw[Cj,cW];unfold sg;by_cases h:x<0<;>simp[h]<;>omega
 have ey:y=sg (n1 !=s) m2:=by rw[Cj,hs,dx];unfold sg;by_cases h:x<0<;>by_cases h':y<0<;>simp[h,h']<;>omega
 have Ke:(decide (x<0)!=decide (y<0))=s:=hs.symm;have v1:=oP x;have v2:=oP y;have Tj:((BA (cd y.natAbs)).toList==(ByteArray.mk #[]).toList)=false:=by rw[qF,<-dx,aJ Hu]
 have Tk:(!((BA (cd (sg n1 R).natAbs)).toList==(ByteArray.mk #[]).toList))=decide (R≠0):=by rw[qF,qb];simp
 have pM:x.natAbs<2^p:=by rw[<-cW];exact h1
 have vB:y.natAbs<2^q:=by rw[<-dx];exact h2
 rw[show m1/m2=Q from hQ.symm]at bQ;rw[show m1%m2=R from hR.symm]at bR;have hd:∀ w,cA prog (aa.at w) (av f227 33) [.func (.func 173) #[] #[],sl 4 (nd base x.natAbs),sl 5 (nd base y.natAbs)] [(4,some (j6 x.natAbs)),(5,some (j6 y.natAbs)),(6,none),(7,none)] (.tuple #[sl 6 (nd base Q),sl 7 (nd base R)]) [(7,j6 R),(6,j6 Q)]:=λw=>by have:=NC (Bs:=aa.at w) (o:=av f227 33) (y:=.func 173) k_ (k1:=4) (k2:=5) (kq:=6) (kr:=7) d_ (uF x.natAbs) rfl (uF y.natAbs) o_ (by rw[<-cW];omega) (by rw[<-dx];omega);rw[<-cW,<-dx,<-hQ,<-hR]at this;rw[<-cW,<-dx];exact this
 have Tl:(Value.bool (decide (x<0)))=.bool n1:=by rw[Cj]
 by_cases NI:R≠0/\s=true
 ·obtain⟨js,bJ⟩:=NI;have fin:=NH (a:=x) (b:=y) (q:=sg s Q-1) (r:=sg n1 R+y) (by
    rw[ex,ey,bJ,Kd];have e:sg true Q=-(Q:Int):=rfl;rw[e];have jf:((Q*m2:Nat):Int)=(Q:Int)*m2:=nU ..;cases n1<;>simp only[sg,NJ,NK,JM,qt,uA,uz,vz,jf,Int.sub_mul,Hp,Hq,J7,NL]<;>omega)
   (by
    rw[ey,bJ];cases n1
    ·right;simp only[sg,NJ,qt,uA,uz];omega
    ·left;simp only[sg,NK,JM,qt,uA,uz];omega)
  rw[fin.1,fin.2];have s1:(sg s Q).natAbs<2^p:=by rw[qb];omega
  have s2:(1:Int).natAbs<2^1:=by decide
  have s3:(sg n1 R).natAbs<2^q:=by rw[qb];omega
  have sb:=E8 (x:=sg s Q) (y:=1) s1 s2 o_ o_;have ad:=yT (x:=sg n1 R) (y:=y) s3 vB o_ o_;exact aK func227 (λw=>[v1.at 11,v2.at 15,.rw 23 (.bool ((BA (cd y.natAbs)).toList==(ByteArray.mk #[]).toList)) (.bool false) (by rw[Tj]),.yU f227 29 4 x.natAbs p pM o_ (y:=.func 172) k_,.yU f227 32 5 y.natAbs q vB o_ (y:=.func 172) k_,.step 33 _ _ _ _ _ (hd w),.rw 41 (.bool (decide (x<0)!=decide (y<0))) (.bool s) (by rw[Ke]),.Ht f227 42 6 Q (j6 Q) (uF Q) s bQ (y:=.func 149) k_,.rw 45 (.bool (decide (x<0))) (.bool n1) Tl,.Ht f227 46 7 R (j6 R) (uF R) n1 bR (y:=.func 149) k_,.rw 49 (.bool (!((BA (cd (sg n1 R).natAbs)).toList==(ByteArray.mk #[]).toList))) (.bool true) (by rw[Tk,aB js]),.rw 55 (.bool (decide (x<0)!=decide (y<0))) (.bool true) (by rw[Ke,bJ]),(kG (z:=1) d_).at 58,sb.at 59,ad.at 62])
 ·have fin:=NH (a:=x) (b:=y) (q:=sg s Q) (r:=sg n1 R) (by
    rw[ex,ey,Kd];have jf:((Q*m2:Nat):Int)=(Q:Int)*m2:=nU ..;cases n1<;>cases s<;>simp only[sg,NJ,NK,JM,M7,qt,uA,uz,vz,jf,Hp,Hq,J7]<;>omega)
   (by
    rw[ey];cases n1<;>cases s
    ·left;simp only[sg,NJ,uA,uz];omega
    ·right;have js:R=0:=hZ λh=>NI ⟨h,rfl⟩;simp only[sg,NJ,qt,uA,uz];omega
    ·right;simp only[sg,NK,M7,qt];omega
    ·left;have js:R=0:=hZ λh=>NI ⟨h,rfl⟩;simp only[sg,NK,JM,qt,uA,uz];omega)
  rw[fin.1,fin.2];by_cases js:R=0
  ·exact aK func227 (λw=>[v1.at 11,v2.at 15,.rw 23 (.bool ((BA (cd y.natAbs)).toList==(ByteArray.mk #[]).toList)) (.bool false) (by rw[Tj]),.yU f227 29 4 x.natAbs p pM o_ (y:=.func 172) k_,.yU f227 32 5 y.natAbs q vB o_ (y:=.func 172) k_,.step 33 _ _ _ _ _ (hd w),.rw 41 (.bool (decide (x<0)!=decide (y<0))) (.bool s) (by rw[Ke]),.Ht f227 42 6 Q (j6 Q) (uF Q) s bQ (y:=.func 149) k_,.rw 45 (.bool (decide (x<0))) (.bool n1) Tl,.Ht f227 46 7 R (j6 R) (uF R) n1 bR (y:=.func 149) k_,.rw 49 (.bool (!((BA (cd (sg n1 R).natAbs)).toList==(ByteArray.mk #[]).toList))) (.bool false) (by rw[Tk,aJ (λh=>h js)])])
  ·have bJ:s=false:=by
    cases s
    ·rfl
    ·exact absurd ⟨js,rfl⟩ NI
   exact aK func227 (λw=>[v1.at 11,v2.at 15,.rw 23 (.bool ((BA (cd y.natAbs)).toList==(ByteArray.mk #[]).toList)) (.bool false) (by rw[Tj]),.yU f227 29 4 x.natAbs p pM o_ (y:=.func 172) k_,.yU f227 32 5 y.natAbs q vB o_ (y:=.func 172) k_,.step 33 _ _ _ _ _ (hd w),.rw 41 (.bool (decide (x<0)!=decide (y<0))) (.bool s) (by rw[Ke]),.Ht f227 42 6 Q (j6 Q) (uF Q) s bQ (y:=.func 149) k_,.rw 45 (.bool (decide (x<0))) (.bool n1) Tl,.Ht f227 46 7 R (j6 R) (uF R) n1 bR (y:=.func 149) k_,.rw 49 (.bool (!((BA (cd (sg n1 R).natAbs)).toList==(ByteArray.mk #[]).toList))) (.bool true) (by rw[Tk,aB js]),.rw 55 (.bool (decide (x<0)!=decide (y<0))) (.bool false) (by rw[Ke,bJ])])
section
variable{P:Program}{B:aa}{N:Nat}
def Hv(o:Oper):Option (Bool×TypeId):=match o.op with|.binOp .eql t _ _ _=>some (true,t)|.binOp .neq t _ _ _=>some (false,t)|_=>none
theorem aAl{op:BinOp}{t:TypeId}{x y:Operand}{xs ys:Array Value}(hg:P.eqGuardType P.depth t=false)(w:World):(eqGuard op t x y (.agg xs) (.agg ys)).run P w=.ok () w:=by unfold eqGuard;cases op<;>simp[hg]
theorem NM{o:Oper}{t:TypeId}{neg:Bool}{m D:Nat}{xs ys:Array Value}{lx ly:List Lit}{r:Bool}(ho:Hv o=some (neg,t))(hm:m<=10000)(hk:P.keyTypeAt m t=true)(hg:P.eqGuardType P.depth t=false)
  (hfx:(Value.agg xs).formed P t=true) (hfy:(Value.agg ys).formed P t=true) (hx:P.keyLits D t xs.toList=some lx) (hy:P.keyLits D t ys.toList=some ly) (XN:flat (.agg xs)=true) (Ji:flat (.agg ys)=true)
  (hr:(if neg then r else !r)=true↔lx=ly):cA P B o [.agg xs,.agg ys] [] (.bool r) []:=by
 refine(B8 (λu hu=>by simp at hu;rcases hu with rfl|rfl<;>assumption) rfl λρ fO w _=>?_).step;obtain⟨r',e1,e2⟩:=run_equalIn_deep (10000-m) m t hk w D D (.agg xs) (.agg ys) lx ly hfx hfy hx hy;rw[show 10000-m+m=10000 by omega]at e1;have e1:(Op.equal t (.agg xs) (.agg ys)).run P w=.ok r' w:=e1;unfold Hv at ho;split at ho
 ·rename_i t' p q t2 bN;injection ho with ho;injection ho with h1 h2;subst h1;subst h2;rw[bN]at fO;simp[Op.operands]at fO;have e3:r'=r:=by rw[<-e2]at hr;cases r<;>cases r'<;>simp at hr ⊢
  have nY:=aAl (op:=.eql) (x:=p) (y:=q) (xs:=xs) (ys:=ys) hg w;simp only[execOp,bN,fO.1,fO.2];simp[nY,binOp,e1,e3]
 ·rename_i t' p q t2 bN;injection ho with ho;injection ho with h1 h2;subst h1;subst h2;rw[bN]at fO;simp[Op.operands]at fO;have e3:(!r')=r:=by rw[<-e2]at hr;cases r<;>cases r'<;>simp at hr ⊢
  have nY:=aAl (op:=.neq) (x:=p) (y:=q) (xs:=xs) (ys:=ys) hg w;simp only[execOp,bN,fO.1,fO.2];simp[nY,binOp,e1,e3]
 ·cases ho
theorem aAm{β:Type}(f:TypeId->Nat->Option β):∀(l:List Field) {m:List (TypeId×Nat)},l.map (λg=>(g.type,g.offset))=m->(l.mapM λg=>f g.type g.offset)=m.mapM λp=>f p.1 p.2
 |[],m,h=>by subst h;rfl
 |g::l,m,h=>by subst h;simp only[rI,JB];rw[aAm f l rfl]
theorem NN {t : TypeId} {fs : Array Field} {l : List (TypeId × Nat)} {cs : aj} (hu : P.underlying t = some (.struct fs)) (hf : fs.toList.map (fun g => (g.type, g.offset)) = l) (hn : fs.all (fun g => g.name != "_") = true) (hl : cs.length = P.cellsOf t) (d : Nat) :
  P.keyLits (d+1) t cs=(l.mapM λp=>P.keyLits d p.1 ((cs.drop p.2).take (P.cellsOf p.1))).map List.flatten:=by
 conv=>lhs;unfold Program.keyLits
 rw[hu];dsimp only;rw[aw ⟨hl,hn⟩,aAm (λa b=>P.keyLits d a ((cs.drop b).take (P.cellsOf a))) fs.toList hf]
theorem aJo{t e:TypeId}{n:Nat}{cs:aj}(hu:P.underlying t=some (.array n e))(hl:cs.length=P.cellsOf t)(d:Nat):
  P.keyLits (d+1) t cs=((List.range n).mapM λi=>P.keyLits d e ((cs.drop (i*P.cellsOf e)).take (P.cellsOf e))).map List.flatten:=by
 conv=>lhs;unfold Program.keyLits
 rw[hu];dsimp only;rw[aw hl]
theorem aJp{t:TypeId}(hu:P.underlying t=some .bool)(b:Bool)(d:Nat):P.keyLits (d+1) t [.bool b]=some [.bool b]:=by unfold Program.keyLits;rw[hu]
theorem aJq{t:TypeId}(hu:P.underlying t=some .string)(s:ByteArray)(hs:s.size<=maxLen)(d:Nat):P.keyLits (d+1) t [.string s]=some [.string s.data.toList]:=by unfold Program.keyLits;rw[hu];dsimp only;rw[aw hs]
end
section
class CR (F:Type) extends Add F,Mul F,Neg F,Sub F,Zero F,One F where
 add_assoc:∀ a b c:F,a+b+c=a+(b+c)
 add_comm:∀ a b:F,a+b=b+a
 zero_add:∀ a:F,0+a=a
 neg_add:∀ a:F,-a+a=0
 mul_assoc:∀ a b c:F,a*b*c=a*(b*c)
 mul_comm:∀ a b:F,a*b=b*a
 one_mul:∀ a:F,1*a=a
 mul_add:∀ a b c:F,a*(b+c)=a*b+a*c
 sub_def:∀ a b:F,a-b=a+-b
namespace CR
variable{F:Type}[CR F]
theorem add_zero(a:F):a+0=a:=by rw[add_comm,zero_add]
theorem add_neg(a:F):a+-a=0:=by rw[add_comm,neg_add]
theorem mul_one(a:F):a*1=a:=by rw[mul_comm,one_mul]
theorem add_mul(a b c:F):(a+b)*c=a*c+b*c:=by rw[mul_comm,mul_add,mul_comm c a,mul_comm c b]
theorem add_left_comm(a b c:F):a+(b+c)=b+(a+c):=by rw[<-add_assoc,add_comm a b,add_assoc]
theorem mul_left_comm(a b c:F):a*(b*c)=b*(a*c):=by rw[<-mul_assoc,mul_comm a b,mul_assoc]
theorem add_left_cancel{a b c:F}(h:a+b=a+c):b=c:=by have:=cI (λx=>-a+x) h;simpa only[<-add_assoc,neg_add,zero_add]using this
theorem mul_zero(a:F):a*0=0:=by apply add_left_cancel (a:=a*0);rw[<-mul_add,zero_add,add_zero]
theorem zero_mul(a:F):0*a=0:=by rw[mul_comm,mul_zero]
theorem Hw{a b:F}(h:a+b=0):b=-a:=add_left_cancel (a:=a) (by rw[h,add_neg])
theorem neg_mul(a b:F):-a*b=-(a*b):=Hw (by rw[<-add_mul,add_neg,zero_mul])
theorem mul_neg(a b:F):a*-b=-(a*b):=by rw[mul_comm,neg_mul,mul_comm]
theorem neg_neg(a:F):- -a=a:=(Hw (neg_add a)).symm
theorem CW(a b:F):-(a+b)=-a+-b:=
 (Hw (by rw[add_assoc,add_left_comm b,<-add_assoc,add_neg,zero_add,add_neg])).symm
theorem neg_zero:-(0:F)=0:=(Hw (zero_add 0)).symm
def ofNat:Nat->F
 |0=>0
 |n+1=>ofNat n+1
def ofInt:Int->F
 |.ofNat n=>ofNat n
 |.negSucc n=>-ofNat (n+1)
theorem ofNat_add(a b:Nat):(ofNat (a+b):F)=ofNat a+ofNat b:=by
 induction b with
 |zero=>simp[ofNat,add_zero]
 |succ b ih=>rw[<-ug];simp only[ofNat];rw[ih,add_assoc]
theorem ofNat_mul(a b:Nat):(ofNat (a*b):F)=ofNat a*ofNat b:=by
 induction b with
 |zero=>simp[ofNat,mul_zero]
 |succ b ih=>rw[MX,ofNat_add,ih];simp only[ofNat];rw[mul_add,mul_one]
theorem ofInt_sub(a b:Nat):(ofInt ((a:Int)-b):F)=ofNat a+-ofNat b:=by
 rcases NF b a with h|h
 ·obtain⟨c,rfl⟩:=Nat.le.dest h;rw[show((b+c:Nat):Int)-b=Int.ofNat c by simp[vz];omega];simp only[ofInt];rw[ofNat_add,add_comm (ofNat b),add_assoc,add_neg,add_zero]
 ·obtain⟨c,rfl⟩:=Nat.le.dest h;cases c with
  |zero=>rw[show(a:Int)-((a+0:Nat):Int)=Int.ofNat 0 by simp];simp[ofInt,ofNat,add_neg]
  |succ c=>
   rw[show(a:Int)-((a+(c+1):Nat):Int)=Int.negSucc c by omega];simp only[ofInt];rw[ofNat_add a (c+1),CW,<-add_assoc,add_neg,zero_add]
theorem ofInt_neg(a:Int):(ofInt (-a):F)=-ofInt a:=by
 cases a with
 |ofNat n=>
  cases n with
  |zero=>simp[ofInt,ofNat,neg_zero]
  |succ n=>rfl
 |negSucc n=>rw[show -(Int.negSucc n)=Int.ofNat (n+1)from rfl];simp only[ofInt];rw[neg_neg]
theorem rU(a:Int):∃ m n:Nat,a=(m:Int)-n:=by
 cases a with
 |ofNat m=>exact⟨m,0,by simp⟩
 |negSucc n=>exact⟨0,n+1,by omega⟩
theorem ofInt_add(a b:Int):(ofInt (a+b):F)=ofInt a+ofInt b:=by obtain⟨m,n,rfl⟩:=rU a;obtain⟨p,q,rfl⟩:=rU b;rw[show(m:Int)-n+(p-q)=((m+p:Nat):Int)-(n+q:Nat)by omega];rw[ofInt_sub,ofInt_sub,ofInt_sub,ofNat_add,ofNat_add,CW];simp only[add_assoc,add_left_comm]
theorem ofInt_mul(a b:Int):(ofInt (a*b):F)=ofInt a*ofInt b:=by
 obtain⟨m,n,rfl⟩:=rU a;obtain⟨p,q,rfl⟩:=rU b;rw[show((m:Int)-n)*(p-q)=((m*p+n*q:Nat):Int)-(m*q+n*p:Nat)by simp only[vz,nU,Int.sub_mul,Int.mul_sub];omega]
 rw[ofInt_sub,ofInt_sub,ofInt_sub];simp only[ofNat_add,ofNat_mul,add_mul,mul_add,neg_mul,mul_neg,CW,neg_neg];simp only[add_assoc,add_left_comm,add_comm]
end CR
open CR
inductive E where
 |var (i:Nat)
 |num (n:Int)
 |add (a b:E)
 |mul (a b:E)
 |neg (a:E)
 |sub (a b:E)
 |one
namespace E
instance:Add E:=⟨E.add⟩
instance:Mul E:=⟨E.mul⟩
instance:Neg E:=⟨E.neg⟩
instance:Sub E:=⟨E.sub⟩
instance:Zero E:=⟨E.num 0⟩
instance:One E:=⟨E.one⟩
def den{F:Type}[CR F](ρ:Nat->F):E->F
 |.var i=>ρ i
 |.num n=>ofInt n
 |.add a b=>den ρ a+den ρ b
 |.mul a b=>den ρ a*den ρ b
 |.neg a=>-den ρ a
 |.sub a b=>den ρ a-den ρ b
 |.one=>1
abbrev Mon:=List Nat
abbrev Poly:=List (Mon×Int)
def NO(v:Nat):Mon->Mon
 |[]=>[v]
 |u::m=>if Nat.ble v u then v::u::m else u::NO v m
def Kf(m n:Mon):Mon:=m.foldr NO n
def E9:Mon->Mon->Bool
 |[],[]=>true
 |a::m,b::n=>Nat.beq a b&&E9 m n
 |_,_=>false
def mlt:Mon->Mon->Bool
 |[],[]=>false
 |[],_::_=>true
 |_::_,[]=>false
 |a::m,b::n=>if Nat.beq a b then mlt m n else Nat.blt a b
def pins(m:Mon)(a:Int):Poly->Poly
 |[]=>[(m,a)]
 |(n,b)::p=>if E9 m n then(if a+b=0 then p else(n,a+b)::p)else if mlt m n then(m,a)::(n,b)::p else(n,b)::pins m a p
def Hx(p q:Poly):Poly:=p.foldr (λx acc=>pins x.1 x.2 acc) q
def Kg(m:Mon)(a:Int)(q:Poly)(acc:Poly):Poly:=q.foldr (λx acc=>pins (Kf m x.1) (a*x.2) acc) acc
def Kh(p q:Poly):Poly:=p.foldr (λx acc=>Kg x.1 x.2 q acc) []
def norm:E->Poly
 |.var i=>[([i],1)]
 |.num n=>if n=0 then[]else[([],n)]
 |.add a b=>Hx (norm a) (norm b)
 |.mul a b=>Kh (norm a) (norm b)
 |.neg a=>(norm a).map λx=>(x.1,-x.2)
 |.sub a b=>Hx (norm a) ((norm b).map λx=>(x.1,-x.2))
 |.one=>[([],1)]
def peq:Poly->Poly->Bool
 |[],[]=>true
 |(m,a)::p,(n,b)::q=>E9 m n&&(a==b)&&peq p q
 |_,_=>false
section
variable{F:Type}[CR F](ρ:Nat->F)
def rW:Mon->F
 |[]=>1
 |v::m=>ρ v*rW m
def jT:Poly->F
 |[]=>0
 |(m,a)::p=>ofInt a*rW ρ m+jT p
theorem aJr(v:Nat)(m:Mon):rW ρ (NO v m)=ρ v*rW ρ m:=by
 induction m with
 |nil=>rfl
 |cons u m ih=>
  simp only[NO];split
  ·rfl
  ·simp only[rW];rw[ih,mul_left_comm]
theorem aJs(m n:Mon):rW ρ (Kf m n)=rW ρ m*rW ρ n:=by
 induction m with
 |nil=>simp only[Kf,Tm,rW,one_mul]
 |cons v m ih=>simp only[Kf,Tn,aJr];simp only[Kf]at ih;rw[ih];simp only[rW];rw[mul_assoc]
theorem aAn{m n:Mon}(h:E9 m n=true):m=n:=by
 induction m generalizing n with
 |nil=>cases n<;>simp_all [E9]
 |cons a m ih=>
  cases n with
  |nil=>simp[E9]at h
  |cons b n=>
   simp only[E9,db]at h;rw[Ra h.1,ih h.2]
theorem aAo(m:Mon)(a:Int)(p:Poly):jT ρ (pins m a p)=ofInt a*rW ρ m+jT ρ p:=by
 induction p with
 |nil=>rfl
 |cons x p ih=>
  obtain⟨n,b⟩:=x;simp only[pins];split
  ·rename_i h;have:=aAn h;subst this;split
   ·rename_i h0;simp only[jT];rw[<-add_assoc,<-add_mul,<-ofInt_add,h0];rw[show(ofInt 0:F)=0 from rfl,zero_mul,zero_add]
   ·simp only[jT];rw[ofInt_add,add_mul,add_assoc]
  ·split
   ·rfl
   ·simp only[jT];rw[ih,add_left_comm]
theorem aAp(p q:Poly):jT ρ (Hx p q)=jT ρ p+jT ρ q:=by
 induction p with
 |nil=>simp only[Hx,Tm,jT,zero_add]
 |cons x p ih=>simp only[Hx,Tn,aAo];simp only[Hx]at ih;rw[ih];simp only[jT];rw[add_assoc]
theorem aJt(m:Mon)(a:Int)(q acc:Poly):jT ρ (Kg m a q acc)=ofInt a*rW ρ m*jT ρ q+jT ρ acc:=by
 induction q with
 |nil=>simp only[Kg,Tm,jT,mul_zero,zero_add]
 |cons x q ih=>
  simp only[Kg,Tn,aAo];simp only[Kg]at ih;rw[ih];simp only[jT];rw[aJs,ofInt_mul,mul_add,<-add_assoc]
  congr 2
  simp only[mul_assoc,mul_left_comm]
theorem aJu(p q:Poly):jT ρ (Kh p q)=jT ρ p*jT ρ q:=by
 induction p with
 |nil=>simp only[Kh,Tm,jT,zero_mul]
 |cons x p ih=>simp only[Kh,Tn,aJt];simp only[Kh]at ih;rw[ih];simp only[jT];rw[add_mul]
theorem aAq(p:Poly):jT ρ (p.map λx=>(x.1,-x.2))=-jT ρ p:=by
 induction p with
 |nil=>simp only[SE,jT,neg_zero]
 |cons x p ih=>simp only[rI,jT];rw[ih,ofInt_neg,neg_mul,CW]
theorem aAr(e:E):jT ρ (norm e)=den ρ e:=by
 induction e with
 |var i=>
  simp only[norm,jT,rW,den,mul_one,add_zero];rw[show(ofInt 1:F)=0+1 from rfl,zero_add,one_mul]
 |num n=>
  simp only[norm];split
  ·rename_i h;subst h;rfl
  ·simp only[jT,rW,den,mul_one,add_zero]
 |add a b Ki Kj=>simp only[norm,den,aAp,Ki,Kj]
 |mul a b Ki Kj=>simp only[norm,den,aJu,Ki,Kj]
 |neg a ih=>simp only[norm,den,aAq,ih]
 |sub a b Ki Kj=>simp only[norm,den,aAp,aAq,Ki,Kj,sub_def]
 |one=>simp only[norm,jT,rW,den,mul_one,add_zero];rw[show(ofInt 1:F)=0+1 from rfl,zero_add]
theorem aJv{p q:Poly}(h:peq p q=true):p=q:=by
 induction p generalizing q with
 |nil=>cases q<;>simp_all [peq]
 |cons x p ih=>
  obtain⟨m,a⟩:=x;cases q with
  |nil=>simp[peq]at h
  |cons y q=>
   obtain⟨n,b⟩:=y;simp only[peq,db,beq_iff_eq]at h;rw[aAn h.1.1,h.1.2,ih h.2]
theorem prove(l r:E)(h:peq l.norm r.norm=true):l.den ρ=r.den ρ:=by rw[<-aAr,<-aAr,aJv h]
end
end E
def rX{F:Type}[CR F](l:List F):Nat->F:=λi=>l.getD i 0
end
section
open CR
class OF (F:Type) extends CR F,Inv F where
 lI:∀ x:F,x≠0->x*x⁻¹=1
 inv_zero:(0:F)⁻¹=0
 az:F->Int
 eZ:∀ x:F,az x=0↔x=0
 iN:∀ x:F,az x=-1\/az x=0\/az x=1
 pq:∀ x:F,az (-x)=- az x
 mf:∀ x y:F,az (x*y)=az x*az y
 CX:∀ x y:F,az x=1->az y=1->az (x+y)=1
 Hy:az (1:F)=1
namespace OF
variable{F:Type}[OF F]
instance:LT F:=⟨λa b=>az (b-a)=1⟩
instance:LE F:=⟨λa b=>az (b-a)≠-1⟩
theorem lt_def(a b:F):(a<b)=(az (b-a)=1):=rfl
theorem le_def(a b:F):(a<=b)=(az (b-a)≠-1):=rfl
instance(a b:F):Decidable (a<b):=inferInstanceAs (Decidable (az (b-a)=1))
instance(a b:F):Decidable (a<=b):=inferInstanceAs (Decidable (az (b-a)≠-1))
theorem Hz(a:F)(l r:E->E)(h:E.peq (l (.var 0)).norm (r (.var 0)).norm=true):(l (.var 0)).den (rX [a])=(r (.var 0)).den (rX [a]):=E.prove _ _ _ h
theorem ko(a b:F)(l r:E->E->E)(h:E.peq (l (.var 0) (.var 1)).norm (r (.var 0) (.var 1)).norm=true):
  (l (.var 0) (.var 1)).den (rX [a,b])=(r (.var 0) (.var 1)).den (rX [a,b]):=E.prove _ _ _ h
theorem k6(a b c:F)(l r:E->E->E->E)(h:E.peq (l (.var 0) (.var 1) (.var 2)).norm (r (.var 0) (.var 1) (.var 2)).norm=true):
  (l (.var 0) (.var 1) (.var 2)).den (rX [a,b,c])=(r (.var 0) (.var 1) (.var 2)).den (rX [a,b,c]):=E.prove _ _ _ h
theorem Fb(a b c d:F)(l r:E->E->E->E->E)(h:E.peq (l (.var 0) (.var 1) (.var 2) (.var 3)).norm (r (.var 0) (.var 1) (.var 2) (.var 3)).norm=true):
  (l (.var 0) (.var 1) (.var 2) (.var 3)).den (rX [a,b,c,d])=(r (.var 0) (.var 1) (.var 2) (.var 3)).den (rX [a,b,c,d]):=E.prove _ _ _ h
theorem Kk(a b c d e:F)(l r:E->E->E->E->E->E)
  (h:E.peq (l (.var 0) (.var 1) (.var 2) (.var 3) (.var 4)).norm (r (.var 0) (.var 1) (.var 2) (.var 3) (.var 4)).norm=true) :
  (l (.var 0) (.var 1) (.var 2) (.var 3) (.var 4)).den (rX [a,b,c,d,e])=(r (.var 0) (.var 1) (.var 2) (.var 3) (.var 4)).den (rX [a,b,c,d,e]):=E.prove _ _ _ h
theorem aJw(a b c d e f:F)(l r:E->E->E->E->E->E->E)
  (h:E.peq (l (.var 0) (.var 1) (.var 2) (.var 3) (.var 4) (.var 5)).norm (r (.var 0) (.var 1) (.var 2) (.var 3) (.var 4) (.var 5)).norm=true) :
  (l (.var 0) (.var 1) (.var 2) (.var 3) (.var 4) (.var 5)).den (rX [a,b,c,d,e,f])=(r (.var 0) (.var 1) (.var 2) (.var 3) (.var 4) (.var 5)).den (rX [a,b,c,d,e,f]):=E.prove _ _ _ h
theorem sub_zero(a:F):a-0=a:=Hz a (λa=>a-0) (λa=>a) d_
theorem sub_self(a:F):a-a=0:=Hz a (λa=>a-a) (λ_=>0) d_
theorem sub_eq_zero{a b:F}:a-b=0↔a=b:=by
 constructor
 ·intro h;have:a=(a-b)+b:=ko a b (λa _=>a) (λa b=>(a-b)+b) d_;rw[this,h,CR.zero_add]
 ·rintro rfl;exact sub_self a
theorem iA{a:F}:0<a↔az a=1:=by rw[lt_def,sub_zero]
theorem HA{a:F}:a<0↔az a=-1:=by rw[lt_def,show(0:F)-a=-a from Hz a (λa=>0-a) (λa=>-a) d_,pq];omega
theorem NP{a:F}:a=0↔az a=0:=(eZ a).symm
theorem Kl{a:F}:0<=a↔az a≠-1:=by rw[le_def,sub_zero]
theorem To{a:F}:a<=0↔az a≠1:=by rw[le_def,show(0:F)-a=-a from Hz a (λa=>0-a) (λa=>-a) d_,pq];omega
theorem neg_sub(a b:F):-(a-b)=b-a:=ko a b (λa b=>-(a-b)) (λa b=>b-a) d_
theorem Fc(a b:F):az (a-b)=- az (b-a):=by rw[<-neg_sub,pq]
theorem lt_irrefl(a:F):¬a<a:=by rw[lt_def,sub_self,(eZ (0:F)).2 rfl];decide
theorem not_lt{a b:F}:¬a<b↔b<=a:=by rw[lt_def,le_def,Fc a b];omega
theorem not_le{a b:F}:¬a<=b↔b<a:=by rw[lt_def,le_def,Fc a b];rcases iN (b-a)with h|h|h<;>rw[h]<;>decide
theorem lt_trans{a b c:F}(h:a<b)(k:b<c):a<c:=by rw[lt_def]at *;rw[show c-a=(c-b)+(b-a)from k6 a b c (λa _ c=>c-a) (λa b c=>(c-b)+(b-a)) d_];exact CX _ _ k h
theorem le_of_lt{a b:F}(h:a<b):a<=b:=by rw[lt_def]at h;rw[le_def,h];decide
theorem le_refl(a:F):a<=a:=by rw[le_def,sub_self,(eZ (0:F)).2 rfl];decide
theorem le_of_eq{a b:F}(h:a=b):a<=b:=h▸le_refl a
theorem pr{a b:F}(h:a<=b):a<b\/a=b:=by
 rw[le_def]at h;rw[lt_def];rcases iN (b-a)with k|k|k
 ·exact absurd k h
 ·exact .inr (sub_eq_zero.1 ((eZ _).1 k)).symm
 ·exact .inl k
theorem lt_of_lt_of_le{a b c:F}(h:a<b)(k:b<=c):a<c:=by
 rcases pr k with k|rfl
 ·exact lt_trans h k
 ·exact h
theorem lt_of_le_of_lt{a b c:F}(h:a<=b)(k:b<c):a<c:=by
 rcases pr h with h|rfl
 ·exact lt_trans h k
 ·exact k
theorem le_trans{a b c:F}(h:a<=b)(k:b<=c):a<=c:=by
 rcases pr h with h|rfl
 ·exact le_of_lt (lt_of_lt_of_le h k)
 ·exact k
theorem le_antisymm{a b:F}(h:a<=b)(k:b<=a):a=b:=by
 rcases pr h with h|h
 ·exact absurd (lt_of_lt_of_le h k) (lt_irrefl a)
 ·exact h
theorem lt_trichotomy(a b:F):a<b\/a=b\/b<a:=by
 by_cases h:a<b
 ·exact .inl h
 ·rcases pr (not_lt.1 h)with h|h
  ·exact .inr (.inr h)
  ·exact .inr (.inl h.symm)
theorem le_total(a b:F):a<=b\/b<=a:=by
 by_cases h:a<b
 ·exact .inl (le_of_lt h)
 ·exact .inr (not_lt.1 h)
theorem ne_of_lt{a b:F}(h:a<b):a≠b:=λe=>lt_irrefl b (e▸h)
theorem ne_of_gt{a b:F}(h:a<b):b≠a:=λe=>lt_irrefl b (e▸h)
theorem sub_pos{a b:F}:0<b-a↔a<b:=by rw[iA,lt_def]
theorem sub_nonneg{a b:F}:0<=b-a↔a<=b:=by rw[Kl,le_def]
theorem add_pos{a b:F}(h:0<a)(k:0<b):0<a+b:=by rw[iA]at *;exact CX _ _ h k
theorem add_nonneg{a b:F}(h:0<=a)(k:0<=b):0<=a+b:=by
 rcases pr h with h|h
 ·rcases pr k with k|k
  ·exact le_of_lt (add_pos h k)
  ·rw[<-k,CR.add_zero];exact le_of_lt h
 ·rw[<-h,CR.zero_add];exact k
theorem HB{a b:F}(h:0<a)(k:0<=b):0<a+b:=by
 rcases pr k with k|k
 ·exact add_pos h k
 ·rw[<-k,CR.add_zero];exact h
theorem aAs{a b:F}(h:0<=a)(k:0<b):0<a+b:=by rw[CR.add_comm];exact HB k h
theorem mul_pos{a b:F}(h:0<a)(k:0<b):0<a*b:=by rw[iA]at *;rw[mf,h,k];rfl
theorem mul_nonneg{a b:F}(h:0<=a)(k:0<=b):0<=a*b:=by
 rcases pr h with h|h
 ·rcases pr k with k|k
  ·exact le_of_lt (mul_pos h k)
  ·rw[<-k,CR.mul_zero];exact le_refl _
 ·rw[<-h,CR.zero_mul];exact le_refl _
theorem neg_pos{a:F}:0 < -a↔a<0:=by rw[iA,HA,pq];omega
theorem neg_nonneg{a:F}:0<=-a↔a<=0:=by rw[Kl,To,pq];omega
theorem Km{a:F}:-a<0↔0<a:=by rw[iA,HA,pq];omega
theorem Kn{a:F}:-a<=0↔0<=a:=by rw[Kl,To,pq];omega
theorem zero_lt_one:(0:F)<1:=by rw[iA];exact Hy
theorem mK(a:F):0<=a*a:=by rw[Kl,mf];rcases iN a with h|h|h<;>rw[h]<;>decide
theorem Tp{a:F}(h:a≠0):0<a*a:=by
 rw[iA,mf];rcases iN a with k|k|k
 ·rw[k];decide
 ·exact absurd ((eZ a).1 k) h
 ·rw[k];decide
theorem mul_eq_zero{a b:F}:a*b=0↔a=0\/b=0:=by rw[<-eZ,mf,<-eZ,<-eZ,Int.mul_eq_zero]
theorem mul_ne_zero{a b:F}(h:a≠0)(k:b≠0):a*b≠0:=λe=>by
 rcases mul_eq_zero.1 e with e|e
 ·exact h e
 ·exact k e
theorem mul_lt_mul_left{a b c:F}(hc:0<c):c*a<c*b↔a<b:=by rw[lt_def,lt_def,show c*b-c*a=c*(b-a)from k6 a b c (λa b c=>c*b-c*a) (λa b c=>c*(b-a)) d_,mf,iA.1 hc,NL]
theorem mul_le_mul_left{a b c:F}(hc:0<c):c*a<=c*b↔a<=b:=by rw[le_def,le_def,show c*b-c*a=c*(b-a)from k6 a b c (λa b c=>c*b-c*a) (λa b c=>c*(b-a)) d_,mf,iA.1 hc,NL]
theorem add_lt_add_left{a b:F}(c:F):c+a<c+b↔a<b:=by rw[lt_def,lt_def,show c+b-(c+a)=b-a from k6 a b c (λa b c=>c+b-(c+a)) (λa b _=>b-a) d_]
theorem add_le_add_left{a b:F}(c:F):c+a<=c+b↔a<=b:=by rw[le_def,le_def,show c+b-(c+a)=b-a from k6 a b c (λa b c=>c+b-(c+a)) (λa b _=>b-a) d_]
theorem add_lt_add_right{a b:F}(c:F):a+c<b+c↔a<b:=by rw[CR.add_comm a,CR.add_comm b];exact add_lt_add_left c
theorem add_le_add_right{a b:F}(c:F):a+c<=b+c↔a<=b:=by rw[CR.add_comm a,CR.add_comm b];exact add_le_add_left c
theorem add_le_add{a b c d:F}(h:a<=b)(k:c<=d):a+c<=b+d:=le_trans ((add_le_add_right c).2 h) ((add_le_add_left b).2 k)
theorem add_lt_add_of_lt_of_le{a b c d:F}(h:a<b)(k:c<=d):a+c<b+d:=lt_of_lt_of_le ((add_lt_add_right c).2 h) ((add_le_add_left b).2 k)
theorem add_lt_add_of_le_of_lt{a b c d:F}(h:a<=b)(k:c<d):a+c<b+d:=lt_of_le_of_lt ((add_le_add_right c).2 h) ((add_lt_add_left b).2 k)
theorem inv_mul{a:F}(h:a≠0):a⁻¹*a=1:=by rw[CR.mul_comm,lI a h]
theorem aJx(a:F):az a⁻¹=az a:=by
 by_cases h:a=0
 ·rw[h,inv_zero]
 ·have:=mf a a⁻¹;rw[lI a h,Hy]at this;rcases iN a with k|k|k<;>rcases iN a⁻¹ with l|l|l<;>rw[k,l]at this ⊢<;>omega
theorem inv_pos{a:F}(h:0<a):0<a⁻¹:=by rw[iA]at *;rw[aJx,h]
theorem Ko{u v:F}(h:v*v<u*u):az (u+v)=az u:=by
 have e:(u+v)*(u-v)=u*u-v*v:=ko u v (λu v=>(u+v)*(u-v)) (λu v=>u*u-v*v) d_;have s:az (u+v)*az (u-v)=1:=by rw[<-mf,e];exact h
 have t:(u+v)+(u-v)=u+u:=ko u v (λu v=>(u+v)+(u-v)) (λu _=>u+u) d_;have two:∀ x y:F,az x=1->az y=1->x+y=u+u->az u=1:=by
  intro x y hx hy kk;have:=CX x y hx hy;rw[kk]at this;rcases iN u with k|k|k
  ·have h2:=CX (-u) (-u) (by rw[pq,k];rfl) (by rw[pq,k];rfl);rw[<-CR.CW,pq,this]at h2;exact absurd h2 d_
  ·rw[(eZ u).1 k,CR.add_zero,(eZ (0:F)).2 rfl]at this;exact absurd this d_
  ·exact k
 rcases iN (u+v)with k|k|k<;>rcases iN (u-v)with l|l|l<;>rw[k,l]at s<;>first|exact absurd s d_|skip
 ·have h1:=CX (-(u+v)) (-(u-v)) (by rw[pq,k];rfl) (by rw[pq,l];rfl);rw[<-CR.CW,t,CR.CW]at h1;rw[k];rcases iN u with m|m|m
  ·exact m.symm
  ·rw[(eZ u).1 m,CR.neg_zero,CR.add_zero,(eZ (0:F)).2 rfl]at h1;exact absurd h1 d_
  ·have h2:=CX u u m m;rw[<-CR.CW,pq,h2]at h1;exact absurd h1 d_
 ·rw[k,two _ _ k l t]
theorem aAt{a b:F}(h:0<a):az (a*b)=az b:=by rw[mf,iA.1 h,NL]
theorem mul_lt_mul''{a b c d:F}(ha:0<=a)(h:a<b)(hc:0<=c)(k:c<d):a*c<b*d:=by have hb:=lt_of_le_of_lt ha h;have hd:=lt_of_le_of_lt hc k;have e:b*d-a*c=(b-a)*d+a*(d-c):=Fb a b c d (λa b c d=>b*d-a*c) (λa b c d=>(b-a)*d+a*(d-c)) d_;rw[<-sub_pos,e];exact HB (mul_pos (sub_pos.2 h) hd) (mul_nonneg ha (sub_nonneg.2 (le_of_lt k)))
end OF
end
section
open CR OF
class xi (F:Type) [OF F] (s:F):Prop where
 pos:0<s
 Tq:∀ x y:F,x*x=s*(y*y)->y=0
@[ext] structure bw (F:Type) (s:F) where
 re:F
 im:F
namespace bw
variable{F:Type}[OF F]{s:F}
instance:Add (bw F s):=⟨λx y=>⟨x.re+y.re,x.im+y.im⟩⟩
instance:Mul (bw F s):=⟨λx y=>⟨x.re*y.re+s*(x.im*y.im),x.re*y.im+x.im*y.re⟩⟩
instance:Neg (bw F s):=⟨λx=>⟨-x.re,-x.im⟩⟩
instance:Sub (bw F s):=⟨λx y=>⟨x.re-y.re,x.im-y.im⟩⟩
instance:Zero (bw F s):=⟨⟨0,0⟩⟩
instance:One (bw F s):=⟨⟨1,0⟩⟩
def nm(x:bw F s):F:=x.re*x.re-s*(x.im*x.im)
instance:Inv (bw F s):=⟨λx=>⟨x.re*(nm x)⁻¹,-(x.im*(nm x)⁻¹)⟩⟩
def sg(x:bw F s):Int:=if az (nm x)=1 then az x.re else az x.im
theorem Tr(x y:bw F s):(x+y).re=x.re+y.re:=rfl
theorem Ts(x y:bw F s):(x+y).im=x.im+y.im:=rfl
theorem HC(x y:bw F s):(x*y).re=x.re*y.re+s*(x.im*y.im):=rfl
theorem HD(x y:bw F s):(x*y).im=x.re*y.im+x.im*y.re:=rfl
theorem NQ(x:bw F s):(-x).re=-x.re:=rfl
theorem NR(x:bw F s):(-x).im=-x.im:=rfl
theorem HE:(0:bw F s).re=0:=rfl
theorem HF:(0:bw F s).im=0:=rfl
theorem Tt:(1:bw F s).re=1:=rfl
theorem aAu:(1:bw F s).im=0:=rfl
theorem Tu(x:bw F s):(x⁻¹).re=x.re*(nm x)⁻¹:=rfl
theorem Tv(x:bw F s):(x⁻¹).im=-(x.im*(nm x)⁻¹):=rfl
theorem NS(x y:bw F s):nm (x*y)=nm x*nm y:=by
 unfold nm;rw[HC,HD]
 exact Kk x.re x.im y.re y.im s (λa b c d s=>(a*c+s*(b*d))*(a*c+s*(b*d))-s*((a*d+b*c)*(a*d+b*c)))
  (λa b c d s=>(a*a-s*(b*b))*(c*c-s*(d*d))) d_
theorem aAv(x:bw F s):nm (-x)=nm x:=by unfold nm;rw[NQ,NR];exact k6 x.re x.im s (λa b s=>-a*-a-s*(-b*-b)) (λa b s=>a*a-s*(b*b)) d_
theorem rY{x:bw F s}(h:az (nm x)=1):sg x=az x.re:=by unfold sg;rw[aw h]
theorem tn{x:bw F s}(h:az (nm x)=-1):sg x=az x.im:=by unfold sg;rw[ao (by rw[h];decide)]
theorem HG:sg (0:bw F s)=0:=by unfold sg;split<;>exact(eZ _).2 rfl
theorem Tw(x:bw F s):sg (-x)=- sg x:=by unfold sg;rw[aAv,NQ,NR,OF.pq,OF.pq];split<;>rfl
theorem aJy(x:bw F s):sg x=-1\/sg x=0\/sg x=1:=by unfold sg;split<;>exact iN _
theorem NT(x:bw F s):(-x).re*(-x).re=x.re*x.re/\(-x).im*(-x).im=x.im*x.im:=by rw[NQ,NR];exact⟨Hz x.re (λa=>-a*-a) (λa=>a*a) d_,Hz x.im (λa=>-a*-a) (λa=>a*a) d_⟩
theorem aJz(x y:bw F s):x+y=y+x:=bw.ext (CR.add_comm _ _) (CR.add_comm _ _)
theorem aJA:sg (1:bw F s)=1:=by
 have:nm (1:bw F s)=1:=by unfold nm;rw[Tt,aAu,CR.mul_zero,CR.mul_zero,OF.sub_zero,CR.one_mul]
 rw[rY (by rw[this];exact Hy),Tt];exact Hy
variable[hs:xi F s]
theorem NU{x:bw F s}(h:nm x=0):x=0:=by
 have h1:=OF.sub_eq_zero.1 h;have h2:=xi.Tq _ _ h1;have h3:x.re=0:=by rw[h2,CR.mul_zero,CR.mul_zero]at h1;rcases mul_eq_zero.1 h1 with h|h<;>exact h
 exact bw.ext h3 h2
theorem ways(x:bw F s):x=0\/(az (nm x)=1/\s*(x.im*x.im)<x.re*x.re)\/(az (nm x)=-1/\x.re*x.re<s*(x.im*x.im)):=by
 rcases OF.lt_trichotomy (x.re*x.re) (s*(x.im*x.im))with h|h|h
 ·refine .inr (.inr ⟨?_,h⟩);unfold nm;rw[Fc,show az (s*(x.im*x.im)-x.re*x.re)=1 from h]
 ·exact .inl (NU (OF.sub_eq_zero.2 h))
 ·exact .inr (.inl ⟨h,h⟩)
theorem aJB:az s=1:=iA.1 (xi.pos (F:=F) (s:=s))
theorem aJC(x y:bw F s):sg (x*y)=sg x*sg y:=by
 have hz:∀ z:bw F s,(0:bw F s)*z=0:=λz=>by
  apply bw.ext
  ·rw[HC,HE,HF,CR.zero_mul,CR.zero_mul,CR.mul_zero,CR.add_zero]
  ·rw[HD,HE,HF,CR.zero_mul,CR.zero_mul,CR.add_zero]
 have nT:∀ z:bw F s,z*(0:bw F s)=0:=λz=>by
  apply bw.ext
  ·rw[HC,HE,HF,CR.mul_zero,CR.mul_zero,CR.mul_zero,CR.add_zero]
  ·rw[HD,HE,HF,CR.mul_zero,CR.mul_zero,CR.add_zero]
 have hp:=xi.pos (F:=F) (s:=s);rcases ways x with rfl|⟨hx,lx⟩|⟨hx,lx⟩
 ·rw[hz,HG,Int.zero_mul]
 ·rcases ways y with rfl|⟨hy,ly⟩|⟨hy,ly⟩
  ·rw[nT,HG,Int.mul_zero]
  ·have hn:az (nm (x*y))=1:=by rw[NS,mf,hx,hy];rfl
   rw[rY hx,rY hy,rY hn,<-mf,HC];apply Ko;have:=mul_lt_mul'' (mul_nonneg (le_of_lt hp) (mK _)) lx (mul_nonneg (le_of_lt hp) (mK _)) ly;rw[show s*(x.im*y.im)*(s*(x.im*y.im))=s*(x.im*x.im)*(s*(y.im*y.im))from k6 x.im y.im s (λb d s=>s*(b*d)*(s*(b*d))) (λb d s=>s*(b*b)*(s*(d*d))) d_];rw[show x.re*y.re*(x.re*y.re)=x.re*x.re*(y.re*y.re)from ko x.re y.re (λa c=>a*c*(a*c)) (λa c=>a*a*(c*c)) d_];exact this
  ·have hn:az (nm (x*y))=-1:=by rw[NS,mf,hx,hy];rfl
   rw[rY hx,tn hy,tn hn,<-mf,HD];apply Ko;have:=mul_lt_mul'' (mul_nonneg (le_of_lt hp) (mK _)) lx (mK _) ly;rw[<-mul_lt_mul_left hp];rw[show s*(x.im*y.re*(x.im*y.re))=s*(x.im*x.im)*(y.re*y.re)from k6 x.im y.re s (λb c s=>s*(b*c*(b*c))) (λb c s=>s*(b*b)*(c*c)) d_];rw[show s*(x.re*y.im*(x.re*y.im))=x.re*x.re*(s*(y.im*y.im))from k6 x.re y.im s (λa d s=>s*(a*d*(a*d))) (λa d s=>a*a*(s*(d*d))) d_];exact this
 ·rcases ways y with rfl|⟨hy,ly⟩|⟨hy,ly⟩
  ·rw[nT,HG,Int.mul_zero]
  ·have hn:az (nm (x*y))=-1:=by rw[NS,mf,hx,hy];rfl
   rw[tn hx,rY hy,tn hn,<-mf,HD,CR.add_comm];apply Ko;have:=mul_lt_mul'' (mK _) lx (mul_nonneg (le_of_lt hp) (mK _)) ly;rw[<-mul_lt_mul_left hp];rw[show s*(x.im*y.re*(x.im*y.re))=s*(x.im*x.im)*(y.re*y.re)from k6 x.im y.re s (λb c s=>s*(b*c*(b*c))) (λb c s=>s*(b*b)*(c*c)) d_];rw[show s*(x.re*y.im*(x.re*y.im))=x.re*x.re*(s*(y.im*y.im))from k6 x.re y.im s (λa d s=>s*(a*d*(a*d))) (λa d s=>a*a*(s*(d*d))) d_];exact this
  ·have hn:az (nm (x*y))=1:=by rw[NS,mf,hx,hy];rfl
   rw[tn hx,tn hy,rY hn,<-mf,HC,CR.add_comm];rw[show az (x.im*y.im)=az (s*(x.im*y.im))by rw[aAt hp]];apply Ko;have:=mul_lt_mul'' (mK _) lx (mK _) ly;rw[show s*(x.im*y.im)*(s*(x.im*y.im))=s*(x.im*x.im)*(s*(y.im*y.im))from k6 x.im y.im s (λb d s=>s*(b*d)*(s*(b*d))) (λb d s=>s*(b*b)*(s*(d*d))) d_];rw[show x.re*y.re*(x.re*y.re)=x.re*x.re*(y.re*y.re)from ko x.re y.re (λa c=>a*c*(a*c)) (λa c=>a*a*(c*c)) d_];exact this
theorem aJD(x:bw F s):sg x=0↔x=0:=by
 constructor
 ·intro h;rcases ways x with rfl|⟨hx,lx⟩|⟨hx,lx⟩
  ·rfl
  ·rw[rY hx]at h;rw[(eZ _).1 h,CR.mul_zero]at lx;exact absurd (lt_of_le_of_lt (mul_nonneg (le_of_lt (xi.pos (F:=F) (s:=s))) (mK _)) lx) (OF.lt_irrefl _)
  ·rw[tn hx]at h;rw[(eZ _).1 h,CR.mul_zero,CR.mul_zero]at lx;exact absurd (lt_of_le_of_lt (mK _) lx) (OF.lt_irrefl _)
 ·rintro rfl;exact HG
theorem aAw{u v:F}(hu:0<u)(h:v*v<u*u):0<u+v:=by rw[iA,Ko h];exact iA.1 hu
theorem add_one{x y:bw F s}(hx:s*(x.im*x.im)<x.re*x.re)(hy:s*(y.im*y.im)<y.re*y.re)(px:0<x.re)(py:0<y.re):sg (x+y)=1:=by
 have hp:=xi.pos (F:=F) (s:=s);have:=mul_lt_mul'' (mul_nonneg (le_of_lt hp) (mK _)) hx (mul_nonneg (le_of_lt hp) (mK _)) hy;have h1:0<x.re*y.re+-(s*(x.im*y.im)):=by apply aAw (mul_pos px py);rw[show -(s*(x.im*y.im))*-(s*(x.im*y.im))=s*(x.im*x.im)*(s*(y.im*y.im))from k6 x.im y.im s (λb d s=>-(s*(b*d))*-(s*(b*d))) (λb d s=>s*(b*b)*(s*(d*d))) d_];rw[show x.re*y.re*(x.re*y.re)=x.re*x.re*(y.re*y.re)from ko x.re y.re (λa c=>a*c*(a*c)) (λa c=>a*a*(c*c)) d_];exact this
 have hn:az (nm (x+y))=1:=by
  rw[<-iA];unfold nm;rw[Tr,Ts];rw[show(x.re+y.re)*(x.re+y.re)-s*((x.im+y.im)*(x.im+y.im))=(x.re*x.re-s*(x.im*x.im))+(y.re*y.re-s*(y.im*y.im))+((x.re*y.re+-(s*(x.im*y.im)))+(x.re*y.re+-(s*(x.im*y.im))))from
   Kk x.re x.im y.re y.im s (λa b c d s=>(a+c)*(a+c)-s*((b+d)*(b+d))) (λa b c d s=>(a*a-s*(b*b))+(c*c-s*(d*d))+((a*c+-(s*(b*d)))+(a*c+-(s*(b*d))))) d_]
  exact add_pos (add_pos (sub_pos.2 hx) (sub_pos.2 hy)) (add_pos h1 h1)
 rw[rY hn,Tr];exact iA.1 (add_pos px py)
theorem aAx{x y:bw F s}(hx:x.re*x.re<s*(x.im*x.im))(hy:y.re*y.re<s*(y.im*y.im))(px:0<x.im)(py:0<y.im):sg (x+y)=1:=by
 have hp:=xi.pos (F:=F) (s:=s);have:=mul_lt_mul'' (mK _) hx (mK _) hy;have h1:0<s*(x.im*y.im)+-(x.re*y.re):=by apply aAw (mul_pos hp (mul_pos px py));rw[show s*(x.im*y.im)*(s*(x.im*y.im))=s*(x.im*x.im)*(s*(y.im*y.im))from k6 x.im y.im s (λb d s=>s*(b*d)*(s*(b*d))) (λb d s=>s*(b*b)*(s*(d*d))) d_];rw[show -(x.re*y.re)*-(x.re*y.re)=x.re*x.re*(y.re*y.re)from ko x.re y.re (λa c=>-(a*c)*-(a*c)) (λa c=>a*a*(c*c)) d_];exact this
 have hn:az (nm (x+y))=-1:=by
  rw[<-HA,<-neg_pos];unfold nm;rw[Tr,Ts];rw[show -((x.re+y.re)*(x.re+y.re)-s*((x.im+y.im)*(x.im+y.im)))=(s*(x.im*x.im)-x.re*x.re)+(s*(y.im*y.im)-y.re*y.re)+((s*(x.im*y.im)+-(x.re*y.re))+(s*(x.im*y.im)+-(x.re*y.re)))from
   Kk x.re x.im y.re y.im s (λa b c d s=>-((a+c)*(a+c)-s*((b+d)*(b+d)))) (λa b c d s=>(s*(b*b)-a*a)+(s*(d*d)-c*c)+((s*(b*d)+-(a*c))+(s*(b*d)+-(a*c)))) d_]
  exact add_pos (add_pos (sub_pos.2 hx) (sub_pos.2 hy)) (add_pos h1 h1)
 rw[tn hn,Ts];exact iA.1 (add_pos px py)
theorem aJE(x y:bw F s)(hx:sg x=1)(hy:sg y=1):sg (x+y)=1:=by
 have ne:∀ z:bw F s,sg z=1->z≠0:=λz h e=>by rw[e,HG]at h;exact absurd h d_
 -- the first part of x aUB,the second one of y
 have mixed:∀ x y:bw F s,sg x=1->sg y=1->az (nm x)=1->s*(x.im*x.im)<x.re*x.re->az (nm y)=-1->y.re*y.re<s*(y.im*y.im)->sg (x+y)=1:=by
  intro x y hx hy nx lx ny ly;rw[rY nx]at hx;rw[tn ny]at hy;rcases ways (x+y)with h|⟨hn,ln⟩|⟨hn,ln⟩
  ·have:y=-x:=by have h1:x.re+y.re=0:=cI bw.re h;have h2:x.im+y.im=0:=cI bw.im h;exact bw.ext (CR.Hw h1) (CR.Hw h2)
   rw[this,aAv,nx]at ny;exact absurd ny d_
  ·rw[rY hn];rcases iN (x+y).re with k|k|k
   ·-- then -(x+y) and x add up to -y
    have h3:=add_one (x:=-(x+y)) (y:=x) (by rw[(NT _).1,(NT _).2];exact ln) lx (by rw[NQ];exact neg_pos.2 (HA.2 k)) (iA.2 hx);have h4:-(x+y)+x=-y:=bw.ext (ko x.re y.re (λa c=>-(a+c)+a) (λ_ c=>-c) d_) (ko x.im y.im (λa c=>-(a+c)+a) (λ_ c=>-c) d_);rw[h4,Tw,tn ny,hy]at h3;exact absurd h3 d_
   ·have k0:=(eZ _).1 k;rw[k0,CR.mul_zero]at ln;exact absurd (lt_of_le_of_lt (mul_nonneg (le_of_lt (xi.pos (F:=F) (s:=s))) (mK _)) ln) (OF.lt_irrefl _)
   ·exact k
  ·rw[tn hn];rcases iN (x+y).im with k|k|k
   ·have h3:=aAx (x:=-(x+y)) (y:=y) (by rw[(NT _).1,(NT _).2];exact ln) ly (by rw[NR];exact neg_pos.2 (HA.2 k)) (iA.2 hy);have h4:-(x+y)+y=-x:=bw.ext (ko x.re y.re (λa c=>-(a+c)+c) (λa _=>-a) d_) (ko x.im y.im (λa c=>-(a+c)+c) (λa _=>-a) d_);rw[h4,Tw,rY nx,hx]at h3;exact absurd h3 d_
   ·have k0:=(eZ _).1 k;rw[k0,CR.mul_zero,CR.mul_zero]at ln;exact absurd (lt_of_le_of_lt (mK _) ln) (OF.lt_irrefl _)
   ·exact k
 rcases ways x with h|⟨nx,lx⟩|⟨nx,lx⟩
 ·exact absurd h (ne x hx)
 ·rcases ways y with h|⟨ny,ly⟩|⟨ny,ly⟩
  ·exact absurd h (ne y hy)
  ·rw[rY nx]at hx;rw[rY ny]at hy;exact add_one lx ly (iA.2 hx) (iA.2 hy)
  ·exact mixed x y hx hy nx lx ny ly
 ·rcases ways y with h|⟨ny,ly⟩|⟨ny,ly⟩
  ·exact absurd h (ne y hy)
  ·rw[aJz];exact mixed y x hy hx ny ly nx lx
  ·rw[tn nx]at hx;rw[tn ny]at hy;exact aAx lx ly (iA.2 hx) (iA.2 hy)
instance:OF (bw F s) where
 add_assoc a b c:=bw.ext (CR.add_assoc _ _ _) (CR.add_assoc _ _ _)
 add_comm a b:=bw.ext (CR.add_comm _ _) (CR.add_comm _ _)
 zero_add a:=bw.ext (CR.zero_add _) (CR.zero_add _)
 neg_add a:=bw.ext (CR.neg_add _) (CR.neg_add _)
 mul_assoc x y z:=bw.ext
  (E.prove (rX [x.re,x.im,y.re,y.im,z.re,z.im,s]) ((E.var 0*E.var 2+E.var 6*(E.var 1*E.var 3))*E.var 4+E.var 6*((E.var 0*E.var 3+E.var 1*E.var 2)*E.var 5))
   (E.var 0*(E.var 2*E.var 4+E.var 6*(E.var 3*E.var 5))+E.var 6*(E.var 1*(E.var 2*E.var 5+E.var 3*E.var 4))) d_)
  (E.prove (rX [x.re,x.im,y.re,y.im,z.re,z.im,s]) ((E.var 0*E.var 2+E.var 6*(E.var 1*E.var 3))*E.var 5+(E.var 0*E.var 3+E.var 1*E.var 2)*E.var 4)
   (E.var 0*(E.var 2*E.var 5+E.var 3*E.var 4)+E.var 1*(E.var 2*E.var 4+E.var 6*(E.var 3*E.var 5))) d_)
 mul_comm x y:=bw.ext
  (Kk x.re x.im y.re y.im s (λa b c d s=>a*c+s*(b*d)) (λa b c d s=>c*a+s*(d*b)) d_)
  (Fb x.re x.im y.re y.im (λa b c d=>a*d+b*c) (λa b c d=>c*b+d*a) d_)
 one_mul x:=bw.ext
  (k6 x.re x.im s (λa b s=>1*a+s*(0*b)) (λa _ _=>a) d_)
  (ko x.re x.im (λa b=>1*b+0*a) (λ_ b=>b) d_)
 mul_add x y z:=bw.ext
  (E.prove (rX [x.re,x.im,y.re,y.im,z.re,z.im,s]) (E.var 0*(E.var 2+E.var 4)+E.var 6*(E.var 1*(E.var 3+E.var 5)))
   ((E.var 0*E.var 2+E.var 6*(E.var 1*E.var 3))+(E.var 0*E.var 4+E.var 6*(E.var 1*E.var 5))) d_)
  (aJw x.re x.im y.re y.im z.re z.im (λa b c d e f=>a*(d+f)+b*(c+e)) (λa b c d e f=>(a*d+b*c)+(a*f+b*e)) d_)
 sub_def a b:=bw.ext (CR.sub_def _ _) (CR.sub_def _ _)
 lI x h:=by
  have hn:nm x≠0:=λe=>h (NU e);have h1:=lI (nm x) hn;apply bw.ext
  ·rw[HC,Tu,Tv,Tt,<-h1];exact Fb x.re x.im s (nm x)⁻¹ (λa b s n=>a*(a*n)+s*(b*-(b*n))) (λa b s n=>(a*a-s*(b*b))*n) d_
  ·rw[HD,Tu,Tv,aAu];exact k6 x.re x.im (nm x)⁻¹ (λa b n=>a*-(b*n)+b*(a*n)) (λ_ _ _=>0) d_
 inv_zero:=by
  apply bw.ext
  ·rw[Tu,HE,CR.zero_mul]
  ·rw[Tv,HF,CR.zero_mul,CR.neg_zero]
 az:=sg
 eZ:=aJD
 iN:=aJy
 pq:=Tw
 mf:=aJC
 CX:=aJE
 Hy:=aJA
end bw
theorem Bh(q:Rat):q.num.sign=1↔0<q:=by rw[Int.sign_eq_one_iff_pos,Rat.lt_iff];simp
theorem HH(q:Rat):q.num.sign=-1↔q<0:=by rw[aJF,Rat.lt_iff];simp
theorem HI(q:Rat):q.num.sign=0↔q=0:=by rw[aJG];exact Rat.num_eq_zero
theorem Tx(q:Rat):q.num.sign=-1\/q.num.sign=0\/q.num.sign=1:=by
 rcases NV q.num 0 with h|h|h
 ·exact .inl (aJF.2 h)
 ·exact .inr (.inl (aJG.2 h))
 ·exact .inr (.inr (Int.sign_eq_one_iff_pos.2 h))
instance:OF Rat where
 add_assoc:=Rat.add_assoc
 add_comm:=Rat.add_comm
 zero_add:=Rat.zero_add
 neg_add:=Rat.neg_add_cancel
 mul_assoc:=Rat.mul_assoc
 mul_comm:=Rat.mul_comm
 one_mul:=Rat.one_mul
 mul_add:=Rat.mul_add
 sub_def:=Rat.sub_eq_add_neg
 lI:=λx h=>HJ x h
 inv_zero:=Rat.inv_zero
 az q:=q.num.sign
 eZ:=HI
 iN:=Tx
 pq q:=by rw[Rat.neg_num,Int.sign_neg]
 mf x y:=by
  rcases Tx x with h|h|h<;>rcases Tx y with k|k|k<;>rw[h,k]
  ·exact(Bh _).2 (by have:=(HH _).1 h;have:=(HH _).1 k;have h2:=Ty (a:=-x) (b:=-y) (by grind) (by grind);grind)
  ·rw[(HI y).1 k,Rat.mul_zero];rfl
  ·exact(HH _).2 (by have:=(HH _).1 h;have:=(Bh _).1 k;have h2:=Ty (a:=-x) (b:=y) (by grind) (by grind);grind)
  ·rw[(HI x).1 h,Rat.zero_mul];rfl
  ·rw[(HI x).1 h,Rat.zero_mul];rfl
  ·rw[(HI x).1 h,Rat.zero_mul];rfl
  ·exact(HH _).2 (by have:=(Bh _).1 h;have:=(HH _).1 k;have h2:=Ty (a:=x) (b:=-y) (by grind) (by grind);grind)
  ·rw[(HI y).1 k,Rat.mul_zero];rfl
  ·exact(Bh _).2 (Ty ((Bh _).1 h) ((Bh _).1 k))
 CX x y h k:=(Bh _).2 (by have:=(Bh _).1 h;have:=(Bh _).1 k;grind)
 Hy:=rfl
theorem aJH(n:Nat)(hn:n=2\/n=3\/n=6)(p q:Nat)(h:p*p=n*(q*q))(hc:Nat.gcd p q=1):False:=by
 rcases hn with rfl|rfl|rfl
 ·have h1:p%2=0:=by
   have:(p*p)%2=0:=by rw[h];omega
   rcases Tz p with k|k
   ·exact k
   ·rw[Kp,k]at this;exact absurd this d_
  obtain⟨r,rfl⟩:∃ r,p=2*r:=⟨p/2,by omega⟩;have h2:q*q=2*(r*r):=by
   have:2*r*(2*r)=2*(2*(r*r)):=by simp only[fG,mG]
   omega
  have h3:q%2=0:=by
   have:(q*q)%2=0:=by rw[h2];omega
   rcases Tz q with k|k
   ·exact k
   ·rw[Kp,k]at this;exact absurd this d_
  have:=HK (Kq h1) (Kq h3);rw[hc]at this;exact absurd this d_
 ·have m3:∀ k:Nat,(k*k)%3=0->k%3=0:=by
   intro k hk;have:k%3=0\/k%3=1\/k%3=2:=by omega
   rcases this with e|e|e
   ·exact e
   ·rw[Kp,e]at hk;exact absurd hk d_
   ·rw[Kp,e]at hk;exact absurd hk d_
  have h1:p%3=0:=m3 p (by rw[h];omega);obtain⟨r,rfl⟩:∃ r,p=3*r:=⟨p/3,by omega⟩;have h2:q*q=3*(r*r):=by
   have:3*r*(3*r)=3*(3*(r*r)):=by simp only[fG,mG]
   omega
  have h3:q%3=0:=m3 q (by rw[h2];omega);have:=HK (Kq h1) (Kq h3);rw[hc]at this;exact absurd this d_
 ·have h1:p%2=0:=by
   have:(p*p)%2=0:=by rw[h];omega
   rcases Tz p with k|k
   ·exact k
   ·rw[Kp,k]at this;exact absurd this d_
  obtain⟨r,rfl⟩:∃ r,p=2*r:=⟨p/2,by omega⟩;have h2:3*(q*q)=2*(r*r):=by
   have:2*r*(2*r)=2*(2*(r*r)):=by simp only[fG,mG]
   omega
  have h3:q%2=0:=by
   have:(q*q)%2=0:=by omega
   rcases Tz q with k|k
   ·exact k
   ·rw[Kp,k]at this;exact absurd this d_
  have:=HK (Kq h1) (Kq h3);rw[hc]at this;exact absurd this d_
theorem TA(n:Nat)(hn:n=2\/n=3\/n=6)(x:Rat)(h:x*x=(n:Rat)):False:=by
 have hd:(x.den:Rat)≠0:=by have:=x.den_nz;simpa[Rat.natCast_eq_zero_iff]using this
 have e:(x.num:Rat)*x.num=n*(x.den*x.den):=by
  have h3:x*(x.den:Rat)=x.num:=by have h4:(x.num:Rat)/x.den*x.den=x.num:=aAy hd;rw[<-Rat.mkRat_eq_div,Rat.mkRat_self]at h4;exact h4
  rw[<-h3,<-h];grind
 have e':x.num*x.num=n*(x.den*x.den):=by
  have:((x.num*x.num:Int):Rat)=((n*(x.den*x.den):Int):Rat):=by simp only[CY,Rat.intCast_natCast];exact e
  exact Rat.intCast_inj.1 this
 have e'':x.num.natAbs*x.num.natAbs=n*(x.den*x.den):=by have:=cI Int.natAbs e';rw[uG]at this;rw[this];simp[uG]
 exact aJH n hn _ _ e'' x.reduced
theorem aJI{x y c:Rat}(h:x*x=c*(y*y))(hy:y≠0):(x*y⁻¹)*(x*y⁻¹)=c:=by
 have:=HJ y hy;have e:(x*y⁻¹)*(x*y⁻¹)=(x*x)*(y⁻¹*y⁻¹):=by grind
 rw[e,h];grind
instance aUC:xi Rat 2 where
 pos:=by rw[iA];rfl
 Tq x y h:=by
  by_cases hy:y=0
  ·exact hy
  ·exact(TA 2 (.inl rfl) _ (aJI h hy)).elim
abbrev K2:=bw Rat 2
def xj:K2:=⟨3,0⟩
theorem aJJ(x:K2)(h:x*x=xj):False:=by
 have h1:x.re*x.re+2*(x.im*x.im)=3:=cI bw.re h;have h2:x.re*x.im+x.im*x.re=0:=cI bw.im h;have h3:x.re=0\/x.im=0:=by
  have:x.re*x.im=0:=by grind
  exact Rat.mul_eq_zero.1 this
 rcases h3 with h3|h3
 ·have:(2*x.im)*(2*x.im)=((6:Nat):Rat):=by rw[h3]at h1;have:((6:Nat):Rat)=6:=rfl;grind
  exact TA 6 (.inr (.inr rfl)) _ this
 ·have:x.re*x.re=((3:Nat):Rat):=by rw[h3]at h1;have:((3:Nat):Rat)=3:=rfl;grind
  exact TA 3 (.inr (.inl rfl)) _ this
instance aUD:xi K2 xj where
 pos:=by rw[iA];decide +kernel
 Tq x y h:=by
  by_cases hy:y=0
  ·exact hy
  ·refine(aJJ (x*y⁻¹) ?_).elim;have h1:=OF.lI y hy;rw[show x*y⁻¹*(x*y⁻¹)=x*x*(y⁻¹*y⁻¹)from ko x y⁻¹ (λx i=>x*i*(x*i)) (λx i=>x*x*(i*i)) d_,h];rw[show xj*(y*y)*(y⁻¹*y⁻¹)=xj*((y*y⁻¹)*(y*y⁻¹))from k6 y y⁻¹ xj (λy i t=>t*(y*y)*(i*i)) (λy i t=>t*((y*i)*(y*i))) d_,h1,CR.mul_one,CR.mul_one]
abbrev K:=bw K2 xj
instance:OF K:=inferInstance
instance:DecidableEq K2:=λx y=>decidable_of_iff (x.re=y.re/\x.im=y.im) ⟨λh=>bw.ext h.1 h.2,λh=>by subst h;exact⟨rfl,rfl⟩⟩
instance:DecidableEq K:=λx y=>decidable_of_iff (x.re=y.re/\x.im=y.im) ⟨λh=>bw.ext h.1 h.2,λh=>by subst h;exact⟨rfl,rfl⟩⟩
structure Fr where
 a:Int
 b:Int
 c:Int
 e:Int
 d:Int
theorem Fr.ext'{x y:Fr}(h1:x.a=y.a)(h2:x.b=y.b)(h3:x.c=y.c)(h4:x.e=y.e)(h5:x.d=y.d):x=y:=by cases x;cases y;simp at *;exact⟨h1,h2,h3,h4,h5⟩
def Fr.val(x:Fr):K:=⟨⟨Rat.divInt x.a x.d,Rat.divInt x.b x.d⟩,⟨Rat.divInt x.c x.d,Rat.divInt x.e x.d⟩⟩
def Fr.g(x:Fr):Nat:=Nat.gcd (Nat.gcd (Nat.gcd (Nat.gcd x.d.natAbs x.a.natAbs) x.b.natAbs) x.c.natAbs) x.e.natAbs
structure Fr.pv(x:Fr):Prop where
 pos:0<x.d
 one:x.g=1
theorem aJK{x:Fr}{k:Nat}(hd:k ∣ x.d.natAbs)(ha:k ∣ x.a.natAbs)(hb:k ∣ x.b.natAbs)(hc:k ∣ x.c.natAbs)(he:k ∣ x.e.natAbs):k ∣ x.g:=
 HK (HK (HK (HK hd ha) hb) hc) he
theorem Fe(x:Fr):x.g ∣ x.d.natAbs:=CZ (CZ (CZ (Bi _ _) (Bi _ _)) (Bi _ _)) (Bi _ _)
theorem NW(x:Fr):x.g ∣ x.a.natAbs:=CZ (CZ (CZ (Bi _ _) (Bi _ _)) (Bi _ _)) (TB _ _)
theorem NX(x:Fr):x.g ∣ x.b.natAbs:=CZ (CZ (Bi _ _) (Bi _ _)) (TB _ _)
theorem NY(x:Fr):x.g ∣ x.c.natAbs:=CZ (Bi _ _) (TB _ _)
theorem NZ(x:Fr):x.g ∣ x.e.natAbs:=TB _ _
theorem aAz(x:Fr)(k:Nat):(Fr.mk (x.a*k) (x.b*k) (x.c*k) (x.e*k) (x.d*k)).g=x.g*k:=by unfold Fr.g;simp only[uG,C0,Nat.gcd_mul_right]
theorem aAA{x y:Fr}(hx:x.pv)(hy:y.pv)(h:x.val=y.val):x.d.natAbs ∣ y.d.natAbs:=by
 have xk:x.d≠0:=by have:=hx.pos;omega
 have vC:y.d≠0:=by have:=hy.pos;omega
 have hr:=cI bw.re h;have hi:=cI bw.im h;have h1:Rat.divInt x.a x.d=Rat.divInt y.a y.d:=cI bw.re hr;have h2:Rat.divInt x.b x.d=Rat.divInt y.b y.d:=cI bw.im hr;have h3:Rat.divInt x.c x.d=Rat.divInt y.c y.d:=cI bw.re hi;have h4:Rat.divInt x.e x.d=Rat.divInt y.e y.d:=cI bw.im hi;rw[Rat.divInt_eq_divInt_iff xk vC]at h1 h2 h3 h4;have key:∀ u v:Int,u*y.d=v*x.d->x.d.natAbs ∣ (u*(y.d.natAbs:Int)).natAbs:=by
  intro u v e;have e2:(u*(y.d.natAbs:Int)).natAbs=(u*y.d).natAbs:=by simp[uG]
  rw[e2,e,uG];exact Nat.dvd_mul_left _ _
 have:=aJK (x:=Fr.mk (x.a*(y.d.natAbs:Int)) (x.b*(y.d.natAbs:Int)) (x.c*(y.d.natAbs:Int)) (x.e*(y.d.natAbs:Int)) (x.d*(y.d.natAbs:Int))) (k:=x.d.natAbs)
  (by rw[uG];exact Nat.dvd_mul_right _ _) (key _ _ h1) (key _ _ h2) (key _ _ h3) (key _ _ h4)
 rw[aAz,hx.one,pU]at this;exact this
theorem aAB{x y:Fr}(hx:x.pv)(hy:y.pv)(h:x.val=y.val):x=y:=by
 have hxp:=hx.pos;have hyp:=hy.pos;have hd:x.d=y.d:=by have:=Nat.dvd_antisymm (aAA hx hy h) (aAA hy hx h.symm);omega
 have xk:x.d≠0:=by omega
 have vC:y.d≠0:=by omega
 have hr:=cI bw.re h;have hi:=cI bw.im h;have h1:Rat.divInt x.a x.d=Rat.divInt y.a y.d:=cI bw.re hr;have h2:Rat.divInt x.b x.d=Rat.divInt y.b y.d:=cI bw.im hr;have h3:Rat.divInt x.c x.d=Rat.divInt y.c y.d:=cI bw.re hi;have h4:Rat.divInt x.e x.d=Rat.divInt y.e y.d:=cI bw.im hi;rw[Rat.divInt_eq_divInt_iff xk vC,hd]at h1 h2 h3 h4;exact Fr.ext' (TC vC h1) (TC vC h2) (TC vC h3) (TC vC h4) hd
def Fr.s(x:Fr):Int:=if x.d<0 then -(x.g:Int)else x.g
def Fr.low(x:Fr):Fr:=⟨x.a/x.s,x.b/x.s,x.c/x.s,x.e/x.s,x.d/x.s⟩
theorem TD{x:Fr}(hd:x.d≠0):0<x.g:=Nat.pos_of_dvd_of_pos (Fe x) o_
theorem TE{x:Fr}(hd:x.d≠0):x.s≠0:=by have:=TD hd;unfold Fr.s;split<;>omega
theorem N0(x:Fr):x.s.natAbs=x.g:=by unfold Fr.s;split<;>simp
theorem C1{x:Fr}{u:Int}(h:x.g ∣ u.natAbs):x.s ∣ u:=by rw[<-Int.natAbs_dvd_natAbs,N0];exact h
theorem aAC{x:Fr}:x.a=x.low.a*x.s/\x.b=x.low.b*x.s/\x.c=x.low.c*x.s/\x.e=x.low.e*x.s/\x.d=x.low.d*x.s:=
 ⟨(N1 (C1 (NW x))).symm,(N1 (C1 (NX x))).symm,(N1 (C1 (NY x))).symm,(N1 (C1 (NZ x))).symm,(N1 (C1 (Fe x))).symm⟩
theorem aAD{x:Fr}(hd:x.d≠0):x.low.val=x.val:=by obtain⟨h1,h2,h3,h4,h5⟩:=aAC (x:=x);have hs:=TE hd;have key:∀ u v:Int,Rat.divInt u x.low.d=Rat.divInt (u*x.s) (x.low.d*x.s):=λu _=>(Rat.divInt_mul_right hs).symm;unfold Fr.val;rw[key _ 0,key _ 0,key _ 0,key _ 0,<-h1,<-h2,<-h3,<-h4,<-h5]
theorem aAE{x:Fr}(hd:x.d≠0):x.low.pv:=by
 obtain⟨h1,h2,h3,h4,h5⟩:=aAC (x:=x);have hg:=TD hd;constructor
 ·have:x.d=x.low.d*x.s:=h5;rcases Int.lt_or_gt_of_ne hd with h|h
  ·have hs:x.s<0:=by unfold Fr.s;rw[aw h];omega
   rcases NV x.low.d 0 with k|k|k
   ·have:=Int.mul_pos_of_neg_of_neg k hs;omega
   ·rw[k,Int.zero_mul]at this;omega
   ·exact k
  ·have hs:0<x.s:=by unfold Fr.s;rw[ao o_];omega
   rcases NV x.low.d 0 with k|k|k
   ·have:=Int.mul_neg_of_neg_of_pos k hs;omega
   ·rw[k,Int.zero_mul]at this;omega
   ·exact k
 ·have e:x.g=x.low.g*x.g:=by
   obtain⟨G,hG⟩:∃ G,G=x.g:=⟨_,rfl⟩;have ab:∀ u v:Int,u=v*x.s->u.natAbs=(v*(G:Int)).natAbs:=λu v h=>by rw[h,uG,uG,N0,C0,hG]
   have h:=aAz x.low G;have e2:x.g=(Fr.mk (x.low.a*G) (x.low.b*G) (x.low.c*G) (x.low.e*G) (x.low.d*G)).g:=by unfold Fr.g;dsimp only;rw[<-ab _ _ h1,<-ab _ _ h2,<-ab _ _ h3,<-ab _ _ h4,<-ab _ _ h5]
   have:=e2.trans h;rw[hG]at this;exact this
  have:=aJL hg (show 1*x.g=x.low.g*x.g by rw[pU];exact e);exact this.symm
theorem Kr{x:Fr}{u:Int}(hd:x.d≠0):(u/x.s).natAbs<=u.natAbs:=aJM u x.s
def bH(k:K):Fr:=(Fr.mk (k.re.re.num*(k.re.im.den*(k.im.re.den*k.im.im.den):Nat)) (k.re.im.num*(k.re.re.den*(k.im.re.den*k.im.im.den):Nat))
 (k.im.re.num*(k.re.re.den*(k.re.im.den*k.im.im.den):Nat)) (k.im.im.num*(k.re.re.den*(k.re.im.den*k.im.re.den):Nat)) ((k.re.re.den*(k.re.im.den*(k.im.re.den*k.im.im.den)):Nat):Int)).low
theorem kp(k:K):(bH k).pv:=aAE (by have h1:=k.re.re.den_pos;have h2:=k.re.im.den_pos;have h3:=k.im.re.den_pos;have h4:=k.im.im.den_pos;have:=qE h1 (qE h2 (qE h3 h4));show((k.re.re.den*(k.re.im.den*(k.im.re.den*k.im.im.den)):Nat):Int)≠0;omega)
theorem N2(q:Rat){m n:Nat}(hm:0<m)(e:n=q.den*m):Rat.divInt (q.num*(m:Nat)) ((n:Nat):Int)=q:=by have h:Rat.divInt (q.num*(m:Int)) ((q.den:Int)*(m:Int))=Rat.divInt q.num q.den:=Rat.divInt_mul_right o_;rw[e,nU,h];exact aAF q
theorem oQ(k:K):(bH k).val=k:=by have h1:=k.re.re.den_pos;have h2:=k.re.im.den_pos;have h3:=k.im.re.den_pos;have h4:=k.im.im.den_pos;have hp:=qE h1 (qE h2 (qE h3 h4));unfold bH;rw[aAD (by show((k.re.re.den*(k.re.im.den*(k.im.re.den*k.im.im.den)):Nat):Int)≠0;omega)];unfold Fr.val;dsimp only;rw[N2 k.re.re (qE h2 (qE h3 h4)) rfl,N2 k.re.im (qE h1 (qE h3 h4)) (by simp only[mG]),N2 k.im.re (qE h1 (qE h2 h4)) (by simp only[mG]),N2 k.im.im (qE h1 (qE h2 h3)) (by simp only[cP,mG])]
theorem Ff{x:Fr}(h:x.pv):bH x.val=x:=aAB (kp _) h (oQ _)
theorem Fg{x:Fr}(hd:x.d≠0):bH x.val=x.low:=aAB (kp _) (aAE hd) ((oQ _).trans (aAD hd).symm)
theorem aJN{x y:K}(h:bH x=bH y):x=y:=by rw[<-oQ x,<-oQ y,h]
def uH(x y:Fr):Fr:=⟨x.a*y.d+y.a*x.d,x.b*y.d+y.b*x.d,x.c*y.d+y.c*x.d,x.e*y.d+y.e*x.d,x.d*y.d⟩
def e6(x y:Fr):Fr:=
 ⟨x.a*y.a+2*(x.b*y.b)+3*(x.c*y.c)+6*(x.e*y.e),x.a*y.b+x.b*y.a+3*(x.c*y.e)+3*(x.e*y.c),x.a*y.c+2*(x.b*y.e)+x.c*y.a+2*(x.e*y.b),x.a*y.e+x.b*y.c+x.c*y.b+x.e*y.a,x.d*y.d⟩
def yX(x:Fr):Fr:=⟨-x.a,-x.b,-x.c,-x.e,x.d⟩
theorem aJO{x y:Fr}(hx:x.d≠0)(hy:y.d≠0):(uH x y).val=x.val+y.val:=by
 apply bw.ext
 ·exact bw.ext (TF _ _ hx hy).symm (TF _ _ hx hy).symm
 ·exact bw.ext (TF _ _ hx hy).symm (TF _ _ hx hy).symm
theorem aJP(x:Fr):(yX x).val=-x.val:=by have h:∀ u:Int,Rat.divInt (-u) x.d=-Rat.divInt u x.d:=λu=>(Rat.neg_divInt u x.d).symm;exact bw.ext (bw.ext (h _) (h _)) (bw.ext (h _) (h _))
theorem Fh{p:Int}{x y:Fr}(hx:x.d≠0)(hy:y.d≠0){r:Rat}(h:r*((x.d:Rat)*(y.d:Rat))=(p:Rat)):Rat.divInt p (x.d*y.d)=r:=by
 have rR:(x.d:Rat)≠0:=by simpa using hx
 have N3:(y.d:Rat)≠0:=by simpa using hy
 rw[Bj,CY,<-h,Fi,Rat.mul_assoc,HJ _ (by
  intro e;rcases Rat.mul_eq_zero.1 e with e|e
  ·exact rR e
  ·exact N3 e),Rat.mul_one]
theorem oR{u d:Int}(hd:d≠0):Rat.divInt u d*(d:Rat)=(u:Rat):=by
 have N4:(d:Rat)≠0:=by simpa using hd
 rw[Bj,aAy N4]
theorem Ks{x y:Fr}(hx:x.d≠0)(hy:y.d≠0):(e6 x y).val=x.val*y.val:=by
 have a1:=oR (u:=x.a) hx;have b1:=oR (u:=x.b) hx;have c1:=oR (u:=x.c) hx;have e1:=oR (u:=x.e) hx;have a2:=oR (u:=y.a) hy;have b2:=oR (u:=y.b) hy;have c2:=oR (u:=y.c) hy;have e2:=oR (u:=y.e) hy;apply bw.ext
 ·apply bw.ext
  ·refine Fh hx hy ?_;show((Rat.divInt x.a x.d*Rat.divInt y.a y.d+2*(Rat.divInt x.b x.d*Rat.divInt y.b y.d))+(3*(Rat.divInt x.c x.d*Rat.divInt y.c y.d+2*(Rat.divInt x.e x.d*Rat.divInt y.e y.d))+2*(0*(Rat.divInt x.c x.d*Rat.divInt y.e y.d+Rat.divInt x.e x.d*Rat.divInt y.c y.d))))*((x.d:Rat)*(y.d:Rat))=_;unfold e6;simp only[N5,CY,<-a1,<-b1,<-c1,<-e1,<-a2,<-b2,<-c2,<-e2];have t2:((2:Int):Rat)=2:=rfl;have t3:((3:Int):Rat)=3:=rfl;have t6:((6:Int):Rat)=6:=rfl;rw[t2,t3,t6];grind
  ·refine Fh hx hy ?_;show((Rat.divInt x.a x.d*Rat.divInt y.b y.d+Rat.divInt x.b x.d*Rat.divInt y.a y.d)+(3*(Rat.divInt x.c x.d*Rat.divInt y.e y.d+Rat.divInt x.e x.d*Rat.divInt y.c y.d)+0*(Rat.divInt x.c x.d*Rat.divInt y.c y.d+2*(Rat.divInt x.e x.d*Rat.divInt y.e y.d))))*((x.d:Rat)*(y.d:Rat))=_;unfold e6;simp only[N5,CY,<-a1,<-b1,<-c1,<-e1,<-a2,<-b2,<-c2,<-e2];have t3:((3:Int):Rat)=3:=rfl;rw[t3];grind
 ·apply bw.ext
  ·refine Fh hx hy ?_;show((Rat.divInt x.a x.d*Rat.divInt y.c y.d+2*(Rat.divInt x.b x.d*Rat.divInt y.e y.d))+(Rat.divInt x.c x.d*Rat.divInt y.a y.d+2*(Rat.divInt x.e x.d*Rat.divInt y.b y.d)))*((x.d:Rat)*(y.d:Rat))=_;unfold e6;simp only[N5,CY,<-a1,<-b1,<-c1,<-e1,<-a2,<-b2,<-c2,<-e2];have t2:((2:Int):Rat)=2:=rfl;rw[t2];grind
  ·refine Fh hx hy ?_;show((Rat.divInt x.a x.d*Rat.divInt y.e y.d+Rat.divInt x.b x.d*Rat.divInt y.c y.d)+(Rat.divInt x.c x.d*Rat.divInt y.b y.d+Rat.divInt x.e x.d*Rat.divInt y.a y.d))*((x.d:Rat)*(y.d:Rat))=_;unfold e6;simp only[N5,CY,<-a1,<-b1,<-c1,<-e1,<-a2,<-b2,<-c2,<-e2]
   grind
theorem TG(x y:K):bH (x+y)=(uH (bH x) (bH y)).low:=by have hx:=(kp x).pos;have hy:=(kp y).pos;have:=Fg (x:=uH (bH x) (bH y)) (C2 o_ o_);rw[aJO o_ o_,oQ,oQ]at this;exact this
theorem TH(x y:K):bH (x*y)=(e6 (bH x) (bH y)).low:=by have hx:=(kp x).pos;have hy:=(kp y).pos;have:=Fg (x:=e6 (bH x) (bH y)) (C2 o_ o_);rw[Ks o_ o_,oQ,oQ]at this;exact this
theorem aJQ{x:Fr}(h:x.pv):(yX x).pv:=⟨h.pos,by have:=h.one;unfold Fr.g at this ⊢;simpa[yX]using this⟩
theorem TI(x:K):bH (-x)=yX (bH x):=by have:=Ff (aJQ (kp x));rw[aJP,oQ]at this;exact this
def dD(n:Nat)(x:Fr):Prop:=x.a.natAbs<2^n/\x.b.natAbs<2^n/\x.c.natAbs<2^n/\x.e.natAbs<2^n/\x.d.natAbs<2^n
def Sz(n:Nat)(x:K):Prop:=dD n (bH x)
theorem dD.mono{m n:Nat}(h:m<=n){x:Fr}(hx:dD m x):dD n x:=by have:=cY (show 0<2 by decide) h;obtain⟨h1,h2,h3,h4,h5⟩:=hx;exact⟨by omega,by omega,by omega,by omega,by omega⟩
theorem Sz.mono{m n:Nat}(h:m<=n){x:K}(hx:Sz m x):Sz n x:=dD.mono h hx
theorem dD.low{n:Nat}{x:Fr}(h:dD n x)(hd:x.d≠0):dD n x.low:=by obtain⟨h1,h2,h3,h4,h5⟩:=h;exact⟨eW (Kr hd) h1,eW (Kr hd) h2,eW (Kr hd) h3,eW (Kr hd) h4,eW (Kr hd) h5⟩
theorem ev{m n:Nat}{u v:Int}(hu:u.natAbs<2^m)(hv:v.natAbs<2^n):(u*v).natAbs<2^(m+n):=by
 rw[uG,ep];rcases nZ v.natAbs with h|h
 ·rw[h,Nat.mul_zero];exact qE (cG d_) (cG d_)
 ·exact cx (A4 hu h) (jr _ (iM hv))
theorem dD.add{m n:Nat}{x y:Fr}(hx:dD m x)(hy:dD n y):dD (m+n+1) (uH x y):=by
 obtain⟨x1,x2,x3,x4,x5⟩:=hx;obtain⟨y1,y2,y3,y4,y5⟩:=hy;have e:2^(m+n+1)=2^(m+n)*2:=dw ..;have e':2^(n+m)=2^(m+n):=by rw[mF]
 have key:∀{u v:Int},u.natAbs<2^m->v.natAbs<2^n->(u*y.d+v*x.d).natAbs<2^(m+n+1):=λ{u v} hu hv=>by have h1:=ev hu y5;have h2:=ev hv x5;rw[e']at h2;have:=aAG (u*y.d) (v*x.d);omega
 refine⟨key x1 y1,key x2 y2,key x3 y3,key x4 y4,?_⟩;have:=ev x5 y5;show(x.d*y.d).natAbs<_;omega
theorem dD.mul{m n:Nat}{x y:Fr}(hx:dD m x)(hy:dD n y):dD (m+n+4) (e6 x y):=by
 obtain⟨x1,x2,x3,x4,x5⟩:=hx;obtain⟨y1,y2,y3,y4,y5⟩:=hy;have e:2^(m+n+4)=2^(m+n)*16:=by rw[ep]
 have t:∀{u v:Int} (k:Nat),u.natAbs<2^m->v.natAbs<2^n->((k:Int)*(u*v)).natAbs<=k*2^(m+n):=λ{u v} k hu hv=>by have h1:=ev hu hv;rw[uG,C0];exact jr _ (iM h1)
 have four:∀ p q r s:Int,(p+q+r+s).natAbs<=p.natAbs+q.natAbs+r.natAbs+s.natAbs:=λp q r s=>by omega
 have hp:0<2^(m+n):=cG d_;refine⟨?_,?_,?_,?_,?_⟩
 ·have:=four (x.a*y.a) (2*(x.b*y.b)) (3*(x.c*y.c)) (6*(x.e*y.e));have h1:=ev x1 y1;have h2:=t 2 x2 y2;have h3:=t 3 x3 y3;have h4:=t 6 x4 y4;show(x.a*y.a+2*(x.b*y.b)+3*(x.c*y.c)+6*(x.e*y.e)).natAbs<_;omega
 ·have:=four (x.a*y.b) (x.b*y.a) (3*(x.c*y.e)) (3*(x.e*y.c));have h1:=ev x1 y2;have h2:=ev x2 y1;have h3:=t 3 x3 y4;have h4:=t 3 x4 y3;show(x.a*y.b+x.b*y.a+3*(x.c*y.e)+3*(x.e*y.c)).natAbs<_;omega
 ·have:=four (x.a*y.c) (2*(x.b*y.e)) (x.c*y.a) (2*(x.e*y.b));have h1:=ev x1 y3;have h2:=t 2 x2 y4;have h3:=ev x3 y1;have h4:=t 2 x4 y2;show(x.a*y.c+2*(x.b*y.e)+x.c*y.a+2*(x.e*y.b)).natAbs<_;omega
 ·have:=four (x.a*y.e) (x.b*y.c) (x.c*y.b) (x.e*y.a);have h1:=ev x1 y4;have h2:=ev x2 y3;have h3:=ev x3 y2;have h4:=ev x4 y1;show(x.a*y.e+x.b*y.c+x.c*y.b+x.e*y.a).natAbs<_;omega
 ·have:=ev x5 y5;show(x.d*y.d).natAbs<_;omega
theorem Sz.add{m n:Nat}{x y:K}(hx:Sz m x)(hy:Sz n y):Sz (m+n+1) (x+y):=by unfold Sz;rw[TG];exact(dD.add hx hy).low (C2 (by have:=(kp x).pos;omega) (by have:=(kp y).pos;omega))
theorem Sz.mul{m n:Nat}{x y:K}(hx:Sz m x)(hy:Sz n y):Sz (m+n+4) (x*y):=by unfold Sz;rw[TH];exact(dD.mul hx hy).low (C2 (by have:=(kp x).pos;omega) (by have:=(kp y).pos;omega))
theorem Sz.neg{n:Nat}{x:K}(hx:Sz n x):Sz n (-x):=by unfold Sz at *;rw[TI];obtain⟨h1,h2,h3,h4,h5⟩:=hx;exact⟨by simpa[yX]using h1,by simpa[yX]using h2,by simpa[yX]using h3,by simpa[yX]using h4,h5⟩
theorem Sz.sub{m n:Nat}{x y:K}(hx:Sz m x)(hy:Sz n y):Sz (m+n+1) (x-y):=by rw[CR.sub_def];exact hx.add hy.neg
def tt(a b s:Int):Int:=if a=b\/b=0 then a else if a=0 then b else a*s
namespace bw
variable{F:Type}[OF F]{s:F}[hs:xi F s]
theorem aAH(x:bw F s):sg x=tt (az x.re) (az x.im) (az (nm x)):=by
 unfold tt;rcases ways x with h|⟨h,h2⟩|⟨h,h2⟩
 ·subst h;have e:az (0:F)=0:=(eZ (0:F)).2 rfl;rw[HG,HE,HF,e,aw (.inl rfl)]
 ·rw[rY h,h,Int.mul_one];by_cases h3:az x.re=az x.im\/az x.im=0
  ·rw[aw h3]
  ·rw[ao h3];by_cases h4:az x.re=0
   ·exfalso;rw[(eZ _).1 h4,CR.zero_mul]at h2;have h5:az (s*(x.im*x.im))=1:=by
     have h6:az x.im≠0:=λe=>h3 (.inr e);rw[mf,mf,aJB];rcases iN x.im with e|e|e
     ·rw[e];rfl
     ·exact absurd e h6
     ·rw[e];rfl
    have h7:(0:F)<s*(x.im*x.im):=iA.2 h5;exact OF.lt_irrefl _ (OF.lt_trans h7 h2)
   ·rw[ao h4]
 ·rw[tn h,h];by_cases h3:az x.re=az x.im\/az x.im=0
  ·rw[aw h3];rcases h3 with h3|h3
   ·exact h3.symm
   ·exfalso;rw[(eZ _).1 h3,CR.zero_mul,CR.mul_zero]at h2;have h5:az (x.re*x.re)≠-1:=by rw[mf];rcases iN x.re with e|e|e<;>rw[e]<;>decide
    exact h5 (HA.1 h2)
  ·rw[ao h3];by_cases h4:az x.re=0
   ·rw[aw h4]
   ·rw[ao h4];have h5:az x.im≠0:=λe=>h3 (.inr e);have h6:az x.re≠az x.im:=λe=>h3 (.inl e);rcases iN x.re with e|e|e<;>rcases iN x.im with k|k|k<;>first|exact absurd e h4|exact absurd k h5|exact absurd (e.trans k.symm) h6|(rw[e,k];rfl)
end bw
theorem aAI(u:Int):az (u:Rat)=u.sign:=by show(u:Rat).num.sign=u.sign;rw[Rat.num_intCast]
theorem TJ{u d:Int}(hd:0<d):az (Rat.divInt u d)=u.sign:=by have h1:=oR (u:=u) (d:=d) o_;have h2:=cI az h1;rw[mf,aAI,aAI,Be hd,Int.mul_one]at h2;exact h2
def pw(a b:Int):Int:=tt a.sign b.sign (a*a-2*(b*b)).sign
theorem TK{a b d:Int}(hd:0<d):az (⟨Rat.divInt a d,Rat.divInt b d⟩:K2)=pw a b:=by
 have h:=bw.aAH (⟨Rat.divInt a d,Rat.divInt b d⟩:K2);have a1:=oR (u:=a) (d:=d) o_;have b1:=oR (u:=b) (d:=d) o_;have hn:bw.nm (⟨Rat.divInt a d,Rat.divInt b d⟩:K2)=Rat.divInt (a*a-2*(b*b)) (d*d):=by refine(Fh (x:=⟨0,0,0,0,d⟩) (y:=⟨0,0,0,0,d⟩) (by show d≠0;omega) (by show d≠0;omega) ?_).symm;show(Rat.divInt a d*Rat.divInt a d-2*(Rat.divInt b d*Rat.divInt b d))*((d:Rat)*(d:Rat))=_;simp only[aAJ,CY,<-a1,<-b1];have t2:((2:Int):Rat)=2:=rfl;rw[t2];grind
 rw[hn]at h;show bw.sg _=_;rw[h];show tt (az (Rat.divInt a d)) (az (Rat.divInt b d)) _=_;rw[TJ hd,TJ hd,TJ (TL hd hd)];rfl
def N6(a b c e:Int):Int:=tt (pw a b) (pw c e) (pw ((a*a+2*(b*b))-(3*(c*c)+6*(e*e))) (2*(a*b)-6*(c*e)))
theorem aJR{x:Fr}(hd:0<x.d):az x.val=N6 x.a x.b x.c x.e:=by
 have h:=bw.aAH x.val;have a1:=oR (u:=x.a) (d:=x.d) o_;have b1:=oR (u:=x.b) (d:=x.d) o_;have c1:=oR (u:=x.c) (d:=x.d) o_;have e1:=oR (u:=x.e) (d:=x.d) o_;have hn:bw.nm x.val=(⟨Rat.divInt ((x.a*x.a+2*(x.b*x.b))-(3*(x.c*x.c)+6*(x.e*x.e))) (x.d*x.d),Rat.divInt (2*(x.a*x.b)-6*(x.c*x.e)) (x.d*x.d)⟩:K2):=by
  apply bw.ext
  ·refine(Fh (x:=x) (y:=x) o_ o_ ?_).symm;show((Rat.divInt x.a x.d*Rat.divInt x.a x.d+2*(Rat.divInt x.b x.d*Rat.divInt x.b x.d))-(3*(Rat.divInt x.c x.d*Rat.divInt x.c x.d+2*(Rat.divInt x.e x.d*Rat.divInt x.e x.d))+2*(0*(Rat.divInt x.c x.d*Rat.divInt x.e x.d+Rat.divInt x.e x.d*Rat.divInt x.c x.d))))*((x.d:Rat)*(x.d:Rat))=_;simp only[aAJ,N5,CY,<-a1,<-b1,<-c1,<-e1];have t2:((2:Int):Rat)=2:=rfl;have t3:((3:Int):Rat)=3:=rfl;have t6:((6:Int):Rat)=6:=rfl;rw[t2,t3,t6];grind
  ·refine(Fh (x:=x) (y:=x) o_ o_ ?_).symm;show((Rat.divInt x.a x.d*Rat.divInt x.b x.d+Rat.divInt x.b x.d*Rat.divInt x.a x.d)-(3*(Rat.divInt x.c x.d*Rat.divInt x.e x.d+Rat.divInt x.e x.d*Rat.divInt x.c x.d)+0*(Rat.divInt x.c x.d*Rat.divInt x.c x.d+2*(Rat.divInt x.e x.d*Rat.divInt x.e x.d))))*((x.d:Rat)*(x.d:Rat))=_;simp only[aAJ,CY,<-a1,<-b1,<-c1,<-e1];have t2:((2:Int):Rat)=2:=rfl;have t6:((6:Int):Rat)=6:=rfl;rw[t2,t6];grind
 rw[hn]at h;show bw.sg _=_;rw[h];have TM:=TL hd hd;show tt (az (⟨Rat.divInt x.a x.d,Rat.divInt x.b x.d⟩:K2)) (az (⟨Rat.divInt x.c x.d,Rat.divInt x.e x.d⟩:K2)) _=_;rw[TK hd,TK hd,TK TM];rfl
theorem aAK(k:K):az k=N6 (bH k).a (bH k).b (bH k).c (bH k).e:=by have:=aJR (kp k).pos;rw[oQ]at this;exact this
end
structure RI where
 neg:Bool
 aZ:List UInt8
structure RN where
 a:RI
 b:RI
 c:RI
 e:RI
 d:RI
structure RV where
 x:RN
 y:RN
 z:RN
structure RP where
 n:RV
 d:RN
def RI.cs(r:RI):aj:=[.bool r.neg,.string (BA r.aZ)]
def RN.cs(r:RN):aj:=[.bool r.a.neg,.string (BA r.a.aZ),.bool r.b.neg,.string (BA r.b.aZ),.bool r.c.neg,.string (BA r.c.aZ),.bool r.e.neg,.string (BA r.e.aZ),.bool r.d.neg,.string (BA r.d.aZ)]
def RV.cs(r:RV):aj:=r.x.cs++(r.y.cs++r.z.cs)
def RP.cs(r:RP):aj:=r.n.cs++r.d.cs
def RI.v(r:RI):Value:=.agg r.cs.toArray
def RN.v(r:RN):Value:=.agg r.cs.toArray
def RV.v(r:RV):Value:=.agg r.cs.toArray
def RP.v(r:RP):Value:=.agg r.cs.toArray
def RI.Sm(r:RI):Prop:=r.aZ.length<=maxLen
def RN.Sm(r:RN):Prop:=r.a.Sm/\r.b.Sm/\r.c.Sm/\r.e.Sm/\r.d.Sm
def RV.Sm(r:RV):Prop:=r.x.Sm/\r.y.Sm/\r.z.Sm
def RP.Sm(r:RP):Prop:=r.n.Sm/\r.d.Sm
def RI.ls(r:RI):List Lit:=[.bool r.neg,.string r.aZ]
def RN.ls(r:RN):List Lit:=r.a.ls++(r.b.ls++(r.c.ls++(r.e.ls++r.d.ls)))
def RV.ls(r:RV):List Lit:=r.x.ls++(r.y.ls++r.z.ls)
def RP.ls(r:RP):List Lit:=r.n.ls++r.d.ls
theorem RI.vD{r s:RI}:r.ls=s.ls↔r=s:=by cases r;cases s;simp[RI.ls]
theorem RN.vD{r s:RN}:r.ls=s.ls↔r=s:=by obtain⟨⟨_,_⟩,⟨_,_⟩,⟨_,_⟩,⟨_,_⟩,⟨_,_⟩⟩:=r;obtain⟨⟨_,_⟩,⟨_,_⟩,⟨_,_⟩,⟨_,_⟩,⟨_,_⟩⟩:=s;simp[RN.ls,RI.ls,and_assoc]
theorem RN.HL(r:RN):r.ls.length=10:=rfl
theorem RV.vD{r s:RV}:r.ls=s.ls↔r=s:=by
 obtain⟨x,y,z⟩:=r;obtain⟨x',y',z'⟩:=s;unfold RV.ls;constructor
 ·intro h;obtain⟨h1,h2⟩:=List.append_inj h (by rw[RN.HL,RN.HL]);obtain⟨h2,h3⟩:=List.append_inj h2 (by rw[RN.HL,RN.HL]);have a1:x=x':=RN.vD.1 h1;have a2:y=y':=RN.vD.1 h2;have a3:z=z':=RN.vD.1 h3;rw[a1,a2,a3]
 ·intro h;rw[h]
theorem RP.vD{r s:RP}:r.ls=s.ls↔r=s:=by
 obtain⟨x,y⟩:=r;obtain⟨x',y'⟩:=s;unfold RP.ls;constructor
 ·intro h;obtain⟨h1,h2⟩:=List.append_inj' h (by rw[RN.HL,RN.HL]);have a1:x=x':=RV.vD.1 h1;have a2:y=y':=RN.vD.1 h2;rw[a1,a2]
 ·intro h;rw[h]
theorem RN.nF(r:RN):∀ u∈r.cs,flat u=true:=λu hu=>by simp[RN.cs]at hu;rcases hu with h|h|h|h|h|h|h|h|h|h<;>subst h<;>rfl
theorem RV.nF(r:RV):∀ u∈r.cs,flat u=true:=λu hu=>by
 simp only[RV.cs,dY]at hu;rcases hu with h|h|h
 ·exact r.x.nF u h
 ·exact r.y.nF u h
 ·exact r.z.nF u h
def N7(P:Program)(t:TypeId):Array Field:=match P.underlying t with|some (.struct fs)=>fs|_=>#[]
theorem Fj(r:RI)(h:r.Sm)(d:Nat):prog.keyLits (d+2) 28 r.cs=some r.ls:=by
 obtain ⟨fs, h1, h2, h3⟩ : ∃ fs, prog.underlying 28 = some (.struct fs) ∧ fs.toList.map (fun g => (g.type, g.offset)) = [(4, 0), (9, 1)] ∧ fs.all (fun g => g.name != "_") = true := ⟨N7 prog 28, (by kernel_rfl), (by kernel_rfl), (by kernel_rfl)⟩;rw[NN h1 h2 h3 k_];have e1:prog.keyLits (d+1) 4 ((r.cs.drop 0).take (prog.cellsOf 4))=some [.bool r.neg]:=by
  have e:(r.cs.drop 0).take (prog.cellsOf 4)=[.bool r.neg]:=k_;rw[e];exact aJp k_ _ d
 have e2:prog.keyLits (d+1) 9 ((r.cs.drop 1).take (prog.cellsOf 9))=some [.string r.aZ]:=by have e:(r.cs.drop 1).take (prog.cellsOf 9)=[.string (BA r.aZ)]:=k_;rw[e];exact aJq k_ _ (by rw[oK];exact h) d
 simp only[JB,TN,e1,e2];simp[RI.ls]
theorem aJS(r:RN)(h:r.Sm)(d:Nat):prog.keyLits (d+3) 29 (r.a.cs++(r.b.cs++(r.c.cs++r.e.cs)))=some (r.a.ls++(r.b.ls++(r.c.ls++r.e.ls))):=by rw[aJo (n:=4) (e:=28) k_ k_];obtain⟨h0,h1,h2,h3,_⟩:=h;have c:prog.cellsOf 28=2:=k_;have e0:=Fj r.a h0 d;have e1:=Fj r.b h1 d;have e2:=Fj r.c h2 d;have e3:=Fj r.e h3 d;rw[c];simp[HM,RI.cs]at e0 e1 e2 e3 ⊢;simp[e0,e1,e2,e3]
theorem N8(r:RN)(h:r.Sm)(d:Nat):prog.keyLits (d+4) 31 r.cs=some r.ls:=by
 obtain ⟨fs, h1, h2, h3⟩ : ∃ fs, prog.underlying 31 = some (.struct fs) ∧ fs.toList.map (fun g => (g.type, g.offset)) = [(29, 0), (28, 8)] ∧ fs.all (fun g => g.name != "_") = true := ⟨N7 prog 31, (by kernel_rfl), (by kernel_rfl), (by kernel_rfl)⟩;rw[NN h1 h2 h3 k_];have e1:prog.keyLits (d+3) 29 ((r.cs.drop 0).take (prog.cellsOf 29))=some (r.a.ls++(r.b.ls++(r.c.ls++r.e.ls))):=by
  have e:(r.cs.drop 0).take (prog.cellsOf 29)=r.a.cs++(r.b.cs++(r.c.cs++r.e.cs)):=k_;rw[e];exact aJS r h d
 have e2:prog.keyLits (d+3) 28 ((r.cs.drop 8).take (prog.cellsOf 28))=some r.d.ls:=by have e:(r.cs.drop 8).take (prog.cellsOf 28)=r.d.cs:=k_;rw[e];exact Fj r.d h.2.2.2.2 (d+1)
 simp only[JB,TN,e1,e2];simp[RN.ls]
theorem TO(r:RV)(h:r.Sm)(d:Nat):prog.keyLits (d+5) 33 r.cs=some r.ls:=by
 obtain ⟨fs, h1, h2, h3⟩ : ∃ fs, prog.underlying 33 = some (.struct fs) ∧ fs.toList.map (fun g => (g.type, g.offset)) = [(31, 0), (31, 10), (31, 20)] ∧ fs.all (fun g => g.name != "_") = true := ⟨N7 prog 33, (by kernel_rfl), (by kernel_rfl), (by kernel_rfl)⟩;rw[NN h1 h2 h3 k_];have e:∀(k:Nat) (s:RN),(r.cs.drop k).take (prog.cellsOf 31)=s.cs->s.Sm->prog.keyLits (d+4) 31 ((r.cs.drop k).take (prog.cellsOf 31))=some s.ls:=λk s e hs=>by rw[e];exact N8 s hs d
 simp only[JB,TN,e 0 r.x k_ h.1,e 10 r.y k_ h.2.1,e 20 r.z k_ h.2.2];simp[RV.ls]
theorem aAL(r:RP)(h:r.Sm)(d:Nat):prog.keyLits (d+6) 35 r.cs=some r.ls:=by
 obtain ⟨fs, h1, h2, h3⟩ : ∃ fs, prog.underlying 35 = some (.struct fs) ∧ fs.toList.map (fun g => (g.type, g.offset)) = [(33, 0), (31, 30)] ∧ fs.all (fun g => g.name != "_") = true := ⟨N7 prog 35, (by kernel_rfl), (by kernel_rfl), (by kernel_rfl)⟩;rw[NN h1 h2 h3 k_];have e1:prog.keyLits (d+5) 33 ((r.cs.drop 0).take (prog.cellsOf 33))=some r.n.ls:=by
  have e:(r.cs.drop 0).take (prog.cellsOf 33)=r.n.cs:=k_;rw[e];exact TO r.n h.1 d
 have e2:prog.keyLits (d+5) 31 ((r.cs.drop 30).take (prog.cellsOf 31))=some r.d.ls:=by have e:(r.cs.drop 30).take (prog.cellsOf 31)=r.d.cs:=k_;rw[e];exact N8 r.d h.2 (d+1)
 simp only[JB,TN,e1,e2];simp[RP.ls]
section
variable{Bs:aa}{N:Nat}
theorem C3{o:Oper}{neg:Bool}(ho:Hv o=some (neg,28))(r s:RI)(hr:r.Sm)(hs:s.Sm){b:Bool}(hb:(if neg then b else !b)=true↔r=s):cA prog Bs o [r.v,s.v] [] (.bool b) []:=
 NM (m:=2) ho o_ k_ k_ k_ k_ (Fj r hr 0) (Fj s hs 0) rfl rfl (by rw[hb];exact RI.vD.symm)
theorem aAM{o:Oper}{neg:Bool}(ho:Hv o=some (neg,31))(r s:RN)(hr:r.Sm)(hs:s.Sm){b:Bool}(hb:(if neg then b else !b)=true↔r=s):cA prog Bs o [r.v,s.v] [] (.bool b) []:=
 NM (m:=4) ho o_ k_ k_ k_ k_ (N8 r hr 0) (N8 s hs 0) rfl rfl (by rw[hb];exact RN.vD.symm)
theorem Fk{o:Oper}{neg:Bool}(ho:Hv o=some (neg,33))(r s:RV)(hr:r.Sm)(hs:s.Sm){b:Bool}(hb:(if neg then b else !b)=true↔r=s):cA prog Bs o [r.v,s.v] [] (.bool b) []:=
 NM (m:=5) ho o_ k_ k_ k_ k_ (TO r hr 0) (TO s hs 0) rfl rfl (by rw[hb];exact RV.vD.symm)
theorem TP{o:Oper}{neg:Bool}(ho:Hv o=some (neg,35))(r s:RP)(hr:r.Sm)(hs:s.Sm){b:Bool}(hb:(if neg then b else !b)=true↔r=s):cA prog Bs o [r.v,s.v] [] (.bool b) []:=
 NM (m:=6) ho o_ k_ k_ k_ k_ (aAL r hr 0) (aAL s hs 0) rfl rfl (by rw[hb];exact RP.vD.symm)
end
def bF(z:Int):RI:=⟨decide (z<0),cd z.natAbs⟩
theorem aAN(z:Int):bK z=(bF z).v:=rfl
theorem yY{x y:Int}(h:bF x=bF y):x=y:=by have h1:decide (x<0)=decide (y<0):=cI RI.neg h;have h2:x.natAbs=y.natAbs:=aIp (cI RI.aZ h);rw[s9]at h1;omega
def rZ(f:Fr):RN:=⟨bF f.a,bF f.b,bF f.c,bF f.e,bF f.d⟩
def ik(f:Fr):Value:=(rZ f).v
theorem aJT{f g:Fr}(h:rZ f=rZ g):f=g:=Fr.ext' (yY (cI RN.a h)) (yY (cI RN.b h)) (yY (cI RN.c h)) (yY (cI RN.e h)) (yY (cI RN.d h))
def dQ(x:K):RN:=rZ (bH x)
def b9(x:K):Value:=(dQ x).v
theorem Ku{x y:K}(h:dQ x=dQ y):x=y:=aJN (aJT h)
abbrev aC:Nat:=1099511627774
theorem vE{z:Int}{n:Nat}(h:z.natAbs<2^n)(hn:n<=aC):(bF z).Sm:=by show(cd z.natAbs).length<=maxLen;rw[ti];have:=vA h;unfold aC at hn;simp[maxLen];omega
theorem aJU{f:Fr}{n:Nat}(h:dD n f)(hn:n<=aC):(rZ f).Sm:=⟨vE h.1 hn,vE h.2.1 hn,vE h.2.2.1 hn,vE h.2.2.2.1 hn,vE h.2.2.2.2 hn⟩
theorem C4{x:K}{n:Nat}(h:Sz n x)(hn:n<=aC):(dQ x).Sm:=aJU h hn
def ic(c:Nat->Int):aj:=[.bool (bF (c 0)).neg,.string (BA (bF (c 0)).aZ),.bool (bF (c 1)).neg,.string (BA (bF (c 1)).aZ),.bool (bF (c 2)).neg,.string (BA (bF (c 2)).aZ),.bool (bF (c 3)).neg,.string (BA (bF (c 3)).aZ)]
def pz(c:Nat->Int):Value:=.agg (ic c).toArray
def co(f:Fr):Nat->Int
 |0=>f.a
 |1=>f.b
 |2=>f.c
 |_=>f.e
def oS(c:Nat->Int)(d:Int):Fr:=⟨c 0,c 1,c 2,c 3,d⟩
theorem C5{g:Nat}{x:Int}{p q:Nat}(h1:g<2^p)(h2:x.natAbs<2^q)(hp:p<=1099511627776)(hq:q<=1099511627776):aD prog 147 [bK g,bK x] (bK (Nat.gcd g x.natAbs:Nat)):=by have:=Kc (x:=(g:Int)) (y:=x) (by rw[C0];exact h1) h2 hp hq;rw[C0]at this;exact this
theorem aJV{g m p:Nat}(h:g<2^p):Nat.gcd g m<2^p\/g=0:=by
 by_cases hg:g=0
 ·exact .inr hg
 ·exact .inl (eW (aAO m (te hg)) h)
theorem yZ{g m p:Nat}(h:g<2^p)(h2:m<2^p):Nat.gcd g m<2^p:=by
 rcases aJV (m:=m) h with h3|h3
 ·exact h3
 ·rw[h3,TQ];exact h2
theorem aAP{c:Nat->Int}{d:Int}{n:Nat}(h:dD n (oS c d))(hn:n<=aC):aD prog 109 [pz c,bK d] (bK ((oS c d).g:Nat)):=by
 obtain⟨h0,h1,h2,h3,h4⟩:=h;have lY:n<=1099511627776:=by unfold aC at hn;omega
 have g1:=Kc h4 h0 lY lY;have s1:=yZ h4 h0;have g2:=C5 s1 h1 lY lY;have s2:=yZ s1 h1;have g3:=C5 s2 h2 lY lY;have s3:=yZ s2 h2;have g4:=C5 s3 h3 lY lY;exact aK func109 (λ_=>[g1.at 15,g2.at 15,g3.at 15,g4.at 15])
theorem TR{x y:Int}{n:Nat}(hy:y≠0)(h1:x.natAbs<2^n)(h2:y.natAbs<2^n)(hn:n<=aC):aD prog 211 [bK x,bK y] (bK (x.fdiv y)):=
 aK func211 (λ_=>[(Th hy h1 h2 hn hn).at 11])
theorem C6{c:Nat->Int}{d:Int}{n:Nat}(hd:d≠0)(h:dD n (oS c d))(hn:n<=aC):aD prog 184 [pz c,bK d] (ik (oS c d).low):=by
 have hc:=aAP h hn;have lY:n<=1099511627776:=by unfold aC at hn;omega
 obtain⟨f,hf⟩:∃ f,f=oS c d:=⟨_,rfl⟩;have vf:f.d≠0:=by rw[hf];exact hd
 have qc:=TE vf;have TS:=N0 f;have hg:f.g<2^n:=by
  have h5:f.d.natAbs<2^n:=by rw[hf];exact h.2.2.2.2
  exact eW (Nat.le_of_dvd o_ (Fe f)) h5
 have bA:f.s.natAbs<2^n:=by rw[TS];exact hg
 have ov:∀ u:Int,f.g ∣ u.natAbs->u.natAbs<2^n->aD prog 211 [bK u,bK f.s] (bK (u/f.s)):=λu hu uI=>by have:=TR qc uI bA hn;rw[Int.fdiv_eq_ediv_of_dvd (C1 hu)]at this;exact this
 have o0:=ov f.a (NW f) (by rw[hf];exact h.1);have o1:=ov f.b (NX f) (by rw[hf];exact h.2.1);have o2:=ov f.c (NY f) (by rw[hf];exact h.2.2.1);have o3:=ov f.e (NZ f) (by rw[hf];exact h.2.2.2.1);have o4:=ov f.d (Fe f) (by rw[hf];exact h.2.2.2.2);have Bk:=kG (z:=1) d_;have az:=rV d;rw[<-hf]at hc ⊢;have e0:f.a=c 0:=by rw[hf];rfl
 have e1:f.b=c 1:=by rw[hf];rfl
 have e2:f.c=c 2:=by rw[hf];rfl
 have e3:f.e=c 3:=by rw[hf];rfl
 have e4:f.d=d:=by rw[hf];rfl
 have one:(bF 1).Sm:=vE (n:=1) d_ d_;have sm:(bF f.s).Sm:=vE bA hn;by_cases Fl:d<0
 ·have hs:f.s=-(f.g:Int):=by unfold Fr.s;rw[e4,aw Fl]
  have aU:bF f.s≠bF 1:=λe=>by have:=yY e;omega
  have ng:=oj (f.g:Int);rw[<-hs]at ng;rw[e0]at o0;rw[e1]at o1;rw[e2]at o2;rw[e3]at o3;rw[e4]at o4;have dq:f.low=⟨c 0/f.s,c 1/f.s,c 2/f.s,c 3/f.s,d/f.s⟩:=by unfold Fr.low;rw[e0,e1,e2,e3,e4]
  rw[dq];have Bl:decide (d.sign<0)=true:=aB (by rw[E6 Fl];decide);generalize f.s=s at *;exact aK func184 (λ_=>[hc.at 9,az.at 11,.rw 12 (.bool (decide (d.sign<0))) (.bool true) (by rw[Bl]),ng.at 14,Bk.at 16,.step 17 (av f184 17) _ _ _ _ (C3 (neg:=true) k_ (bF s) (bF 1) sm one (b:=false) (by simp;exact aU)),o0.at 29,o1.at 29,o2.at 29,o3.at 29,o4.at 35])
 ·have hs:f.s=(f.g:Int):=by unfold Fr.s;rw[e4,ao Fl]
  have Bl:decide (d.sign<0)=false:=aJ (by rw[Be o_];decide);by_cases tu:f.g=1
  ·have dq:f.low=f:=by unfold Fr.low;rw[hs,tu];simp
   rw[dq,hf];rw[tu]at hc;exact aK func184 (λ_=>[hc.at 9,az.at 11,.rw 12 (.bool (decide (d.sign<0))) (.bool false) (by rw[Bl]),Bk.at 16,.step 17 (av f184 17) _ _ _ _ (C3 (neg:=true) k_ (bF 1) (bF 1) one one (b:=true) s_)])
  ·have aU:bF f.s≠bF 1:=λe=>by have:=yY e;omega
   rw[e0]at o0;rw[e1]at o1;rw[e2]at o2;rw[e3]at o3;rw[e4]at o4;have dq:f.low=⟨c 0/f.s,c 1/f.s,c 2/f.s,c 3/f.s,d/f.s⟩:=by unfold Fr.low;rw[e0,e1,e2,e3,e4]
   rw[dq];rw[<-hs]at hc;generalize f.s=s at *;exact aK func184 (λ_=>[hc.at 9,az.at 11,.rw 12 (.bool (decide (d.sign<0))) (.bool false) (by rw[Bl]),Bk.at 16,.step 17 (av f184 17) _ _ _ _ (C3 (neg:=true) k_ (bF s) (bF 1) sm one (b:=false) (by simp;exact aU)),o0.at 29,o1.at 29,o2.at 29,o3.at 29,o4.at 35])
theorem TT{f:Fr}{n:Nat}(hf:f.pv)(h:dD n f)(hn:n<=aC):aD prog 69 [ik f] (.bool true):=by have hc:=aAP (c:=co f) (d:=f.d) h hn;have e:oS (co f) f.d=f:=rfl;rw[e,hf.one]at hc;have hp:=hf.pos;have hs:decide (f.d.sign>0)=true:=aB (by rw[Be hp];decide);have one:(bF 1).Sm:=vE (n:=1) d_ d_;exact aK func69 (λ_=>[(oP f.a).at 11,(oP f.b).at 11,(oP f.c).at 11,(oP f.e).at 11,(oP f.d).at 16,(rV f.d).at 20,.rw 21 (.bool (decide (f.d.sign>0))) (.bool true) (by rw[hs]),hc.at 28,(kG (z:=1) d_).at 29,.step 30 (av f69 30) _ _ _ _ (C3 (neg:=true) k_ (bF 1) (bF 1) one one (b:=true) s_)])
theorem kJ{x:K}{n:Nat}(h:Sz n x)(hn:n<=aC):aD prog 69 [b9 x] (.bool true):=TT (kp x) h hn
theorem TU(z:Int):bH (⟨⟨z,0⟩,⟨0,0⟩⟩:K)=⟨z,0,0,0,1⟩:=by
 have hl:Fr.pv ⟨z,0,0,0,1⟩:=⟨Int.zero_lt_one,by simp[Fr.g]⟩;have hv:Fr.val ⟨z,0,0,0,1⟩=⟨⟨z,0⟩,⟨0,0⟩⟩:=by
  unfold Fr.val;dsimp only;have e:∀ u:Int,Rat.divInt u 1=(u:Rat):=λu=>by rw[Bj,Fi];grind
  rw[e,e];rfl
 rw[<-hv];exact Ff hl
def kI(z:Int):K:=⟨⟨z,0⟩,⟨0,0⟩⟩
theorem aAQ(z:Int):b9 (kI z)=ik ⟨z,0,0,0,1⟩:=by unfold b9 dQ kI;rw[TU];rfl
theorem qH{z:Int}{n:Nat}(h:z.natAbs<2^n)(hn:0<n):Sz n (kI z):=by unfold Sz kI;rw[TU];have:2^1<=2^n:=cY d_ hn;exact⟨h,by simp;omega,by simp;omega,by simp;omega,by simp;omega⟩
theorem C7:bF 0=⟨false,[]⟩:=by unfold bF;simp[CJ]
theorem r5{z:Int}(h:z.natAbs<9223372036854775808):aD prog 146 [.int .i64 z] (b9 (kI z)):=by
 rw[aAQ];have e:ik ⟨z,0,0,0,1⟩=(RN.mk (bF z) ⟨false,[]⟩ ⟨false,[]⟩ ⟨false,[]⟩ (bF 1)).v:=by unfold ik rZ;rw[C7]
 rw[e];exact aK func146 (λ_=>[(kG h).at 4,(kG (z:=1) d_).at 6])
theorem aJW{c:Nat->Int}{d:Int}{n:Nat}(hd:d≠0)(h:dD n (oS c d))(hn:n<=aC):aD prog 162 [pz c,bK d] (.tuple #[ik (oS c d).low,.int .i64 0]):=by
 have hl:=C6 hd h hn;have hs:(d.sign==0)=false:=by simp;exact hd
 exact aK func162 (λ_=>[(oP (c 0)).at 13,(oP (c 1)).at 13,(oP (c 2)).at 13,(oP (c 3)).at 13,(oP d).at 19,(rV d).at 24,.rw 25 (.bool (d.sign==0)) (.bool false) (by rw[hs]),hl.at 29])
theorem aJX{p q:Int}{n:Nat}(hq:q≠0)(h1:p.natAbs<2^n)(h2:q.natAbs<2^n)(hn:n<=63):aD prog 120 [.int .i64 p,.int .i64 q] (.tuple #[ik (Fr.mk p 0 0 0 q).low,.int .i64 0]):=by
 have h63:2^n<=9223372036854775808:=dh (cY d_ hn) d_;have hp:0<2^n:=cG d_;have hm:=aJW (c:=λi=>match i with|0=>p|_=>0) (d:=q) (n:=n) hq ⟨h1,hp,hp,hp,h2⟩ (by unfold aC;omega);have e:pz (λi=>match i with|0=>p|_=>0)=.agg #[.bool (bF p).neg,.string (BA (bF p).aZ),.bool false,.string ⟨#[]⟩,.bool false,.string ⟨#[]⟩,.bool false,.string ⟨#[]⟩]:=by show Value.agg #[.bool (bF p).neg,.string (BA (bF p).aZ),.bool (bF 0).neg,.string (BA (bF 0).aZ),.bool (bF 0).neg,.string (BA (bF 0).aZ),.bool (bF 0).neg,.string (BA (bF 0).aZ)]=_;rw[C7];rfl
 rw[e]at hm;exact aK func120 (λ_=>[(kG (z:=p) o_).at 7,(kG (z:=q) o_).at 10,hm.at 11])
theorem y0{x:K}{n:Nat}(h:Sz n x)(hn:n<=aC):aD prog 199 [b9 x] (b9 (-x)):=by
 have hv:=kJ h hn;have e:b9 (-x)=ik (yX (bH x)):=by unfold b9 dQ;rw[TI];rfl
 rw[e];exact aK func199 (λ_=>[hv.at 5,(oj (bH x).a).at 16,(oj (bH x).b).at 16,(oj (bH x).c).at 16,(oj (bH x).e).at 16])
theorem uJ{x y:K}{m n:Nat}(hx:Sz m x)(hy:Sz n y)(cT:m+n<aC):aD prog 160 [b9 x,b9 y] (b9 (x+y)):=by
 have v1:=kJ hx o_;have v2:=kJ hy o_;have pA:aC<=1099511627776:=by decide
 have xk:=(kp x).pos;have vC:=(kp y).pos;have hl:=C6 (c:=co (uH (bH x) (bH y))) (d:=(uH (bH x) (bH y)).d) (n:=m+n+1) (C2 o_ o_) (dD.add hx hy) o_;have e:b9 (x+y)=ik (uH (bH x) (bH y)).low:=by unfold b9 dQ;rw[TG];rfl
 rw[e];obtain⟨x1,x2,x3,x4,x5⟩:=hx;obtain⟨y1,y2,y3,y4,y5⟩:=hy;have mu:∀{u v:Int} {p q:Nat},u.natAbs<2^p->v.natAbs<2^q->p+q<=aC->aD prog 195 [bK u,bK v] (bK (u*v)):=λh1 h2 h3=>mJ h1 h2 o_ o_;have ad:∀{u v:Int},u.natAbs<2^m->v.natAbs<2^n->aD prog 180 [bK (u*(bH y).d),bK (v*(bH x).d)] (bK (u*(bH y).d+v*(bH x).d)):=λh1 h2=>
  yT (ev h1 y5) (ev h2 x5) o_ o_
 exact aK func160 (λ_=>[v1.at 8,v2.at 12,(mu x1 y5 o_).at 26,(mu y1 x5 o_).at 33,(ad x1 y1).at 34,(mu x2 y5 o_).at 26,(mu y2 x5 o_).at 33,(ad x2 y2).at 34,(mu x3 y5 o_).at 26,(mu y3 x5 o_).at 33,(ad x3 y3).at 34,(mu x4 y5 o_).at 26,(mu y4 x5 o_).at 33,(ad x4 y4).at 34,(mu x5 y5 o_).at 42,hl.at 43])
theorem Bm{x y:K}{m n:Nat}(hx:Sz m x)(hy:Sz n y)(cT:m+n<aC):aD prog 168 [b9 x,b9 y] (b9 (x-y)):=by rw[CR.sub_def];exact aK func168 (λ_=>[(y0 hy o_).at 7,(uJ hx hy.neg cT).at 8])
section
open CR OF
def mL(x:K):K:=⟨x.re,-x.im⟩
def lJ(x:K):K:=⟨⟨x.re.re,-x.re.im⟩,⟨x.im.re,-x.im.im⟩⟩
def xl(f:Fr):Fr:=⟨f.a,f.b,-f.c,-f.e,f.d⟩
def xm(f:Fr):Fr:=⟨f.a,-f.b,f.c,-f.e,f.d⟩
theorem N9(u d:Int):Rat.divInt (-u) d=-Rat.divInt u d:=(Rat.neg_divInt u d).symm
theorem aAR(f:Fr):(xl f).val=mL f.val:=bw.ext rfl (bw.ext (N9 _ _) (N9 _ _))
theorem TV(f:Fr):(xm f).val=lJ f.val:=bw.ext (bw.ext rfl (N9 _ _)) (bw.ext rfl (N9 _ _))
theorem aJY{f:Fr}(h:f.pv):(xl f).pv:=⟨h.pos,by have:=h.one;unfold Fr.g at this ⊢;simpa[xl]using this⟩
theorem aJZ{f:Fr}(h:f.pv):(xm f).pv:=⟨h.pos,by have:=h.one;unfold Fr.g at this ⊢;simpa[xm]using this⟩
theorem aAS(x:K):bH (mL x)=xl (bH x):=by have:=Ff (aJY (kp x));rw[aAR,oQ]at this;exact this
theorem aAT(x:K):bH (lJ x)=xm (bH x):=by have:=Ff (aJZ (kp x));rw[TV,oQ]at this;exact this
theorem Sz.mL{n:Nat}{x:K}(h:Sz n x):Sz n (mL x):=by unfold Sz at *;rw[aAS];obtain⟨h1,h2,h3,h4,h5⟩:=h;exact⟨h1,h2,by simpa[xl]using h3,by simpa[xl]using h4,h5⟩
theorem Sz.lJ{n:Nat}{x:K}(h:Sz n x):Sz n (lJ x):=by unfold Sz at *;rw[aAT];obtain⟨h1,h2,h3,h4,h5⟩:=h;exact⟨h1,by simpa[xm]using h2,h3,by simpa[xm]using h4,h5⟩
def two(y:K):K:=y*mL y
def qI(y:K):K:=two y*lJ (two y)
theorem aJ0(y:K):two y=⟨bw.nm y,0⟩:=by
 unfold two mL;apply bw.ext
 ·show y.re*y.re+xj*(y.im*-y.im)=y.re*y.re-xj*(y.im*y.im);exact k6 y.re y.im xj (λa b s=>a*a+s*(b*-b)) (λa b s=>a*a-s*(b*b)) d_
 ·show y.re*-y.im+y.im*y.re=0;exact ko y.re y.im (λa b=>a*-b+b*a) (λ_ _=>0) d_
theorem Oa(y:K):qI y=⟨⟨bw.nm (bw.nm y),0⟩,⟨0,0⟩⟩:=by
 unfold qI;rw[aJ0];obtain⟨p,q⟩:=bw.nm y;have e:lJ (⟨⟨p,q⟩,0⟩:K)=⟨⟨p,-q⟩,0⟩:=by unfold lJ;show(⟨⟨p,-q⟩,⟨0,-0⟩⟩:K)=_;rw[CR.neg_zero];rfl
 rw[e];apply bw.ext
 ·show(⟨p,q⟩:K2)*⟨p,-q⟩+xj*(0*0)=_;rw[CR.zero_mul,CR.mul_zero,CR.add_zero];apply bw.ext
  ·show p*p+2*(q*-q)=p*p-2*(q*q)
   grind
  ·show p*-q+q*p=0
   grind
 ·show(⟨p,q⟩:K2)*0+0*⟨p,-q⟩=0;rw[CR.mul_zero,CR.zero_mul,CR.add_zero]
theorem TW{y:K}(h:y≠0):bw.nm (bw.nm y)≠0:=λe=>h (bw.NU (bw.NU e))
theorem aAU(q:Rat):bH (⟨⟨q,0⟩,⟨0,0⟩⟩:K)=⟨q.num,0,0,0,q.den⟩:=by
 have hl:Fr.pv ⟨q.num,0,0,0,q.den⟩:=⟨by show(0:Int)<(q.den:Int);have:=q.den_pos;omega,by have:=q.reduced;unfold Nat.Coprime at this;simp[Fr.g];rw[Hr];exact this⟩
 have hv:Fr.val ⟨q.num,0,0,0,q.den⟩=⟨⟨q,0⟩,⟨0,0⟩⟩:=by
  unfold Fr.val;have e:∀ d:Int,Rat.divInt 0 d=0:=λd=>by simp
  dsimp only;rw[e,aAF]
 rw[<-hv];exact Ff hl
def om(y:K):Fr:=⟨(bH (qI y)).d,0,0,0,(bH (qI y)).a⟩
theorem Ob{y:K}(h:y≠0):(om y).d≠0:=by unfold om;dsimp only;rw[Oa,aAU];exact λe=>TW h (Rat.num_eq_zero.1 e)
theorem aJ1{y:K}(h:y≠0):qI y*(om y).val=1:=by
 have hq:=TW h;have e1:(om y).val=⟨⟨(bw.nm (bw.nm y))⁻¹,0⟩,⟨0,0⟩⟩:=by
  unfold om Fr.val;rw[Oa,aAU];have e:∀ d:Int,Rat.divInt 0 d=0:=λd=>by simp
  dsimp only;rw[e,Bj];generalize bw.nm (bw.nm y)=q at *;have h2:((q.den:Int):Rat)/(q.num:Rat)=q⁻¹:=by
   have h3:(q.num:Rat)≠0:=by simpa using hq
   have h4:((q.den:Int):Rat)*q=q.num:=by
    have h5:(q.num:Rat)/((q.den:Int):Rat)=q:=by rw[<-Bj];exact aAF q
    have h6:((q.den:Int):Rat)≠0:=by have:=q.den_nz;simpa using this
    have h7:=aAy (a:=(q.num:Rat)) h6;rw[h5,Rat.mul_comm]at h7;exact h7
   have h8:=HJ q hq;have h9:=HJ (q.num:Rat) h3;rw[Fi]
   grind
  rw[h2]
 rw[e1,Oa];generalize bw.nm (bw.nm y)=q at *;have h8:=HJ q hq;apply bw.ext
 ·apply bw.ext
  ·show(q*q⁻¹+2*(0*0))+(3*(0*0+2*(0*0))+2*(0*(0*0+0*0)))=1
   grind
  ·show(q*0+0*q⁻¹)+(3*(0*0+0*0)+0*(0*0+2*(0*0)))=0
   grind
 ·apply bw.ext
  ·show(q*0+2*(0*0))+(0*q⁻¹+2*(0*0))=0
   grind
  ·show(q*0+0*0)+(0*0+0*q⁻¹)=0
   grind
theorem aAV{x y:K}(h:y≠0):(x*mL y)*(lJ (two y)*(om y).val)=x*y⁻¹:=by
 have h1:=aJ1 h;have h2:=OF.lI y h;have e1:y*(mL y*(lJ (two y)*(om y).val))=1:=by rw[<-h1];unfold qI two;exact Fb y (mL y) (lJ (y*mL y)) (om y).val (λy c b i=>y*(c*(b*i))) (λy c b i=>y*c*b*i) d_
 have e2:mL y*(lJ (two y)*(om y).val)=y⁻¹:=by have h3:=cI (λt=>y⁻¹*t) e1;rw[CR.mul_one,<-CR.mul_assoc,CR.mul_comm y⁻¹ y,h2,CR.one_mul]at h3;exact h3
 rw[<-e2,CR.mul_assoc]
theorem Sz.inv{n:Nat}{y:K}(h:y≠0)(hy:Sz n y):Sz (4*n+12) (om y).val:=by have h1:Sz (n+n+4) (two y):=hy.mul hy.mL;have h2:Sz (n+n+4+(n+n+4)+4) (qI y):=h1.mul h1.lJ;have h3:Sz (4*n+12) (qI y):=h2.mono o_;unfold Sz;rw[Fg (Ob h)];obtain⟨a1,a2,a3,a4,a5⟩:=h3;have hp:0<2^(4*n+12):=cG d_;exact dD.low ⟨a5,hp,hp,hp,a1⟩ (Ob h)
theorem Sz.div{m n:Nat}{x y:K}(h:y≠0)(hx:Sz m x)(hy:Sz n y):Sz (m+7*n+28) (x*y⁻¹):=by rw[<-aAV h];have h1:Sz (n+n+4) (two y):=hy.mul hy.mL;exact((hx.mul hy.mL).mul (h1.lJ.mul (Sz.inv h hy))).mono o_
end
def sq(n:Nat):Int:=match n with|0=>1|1=>2|2=>3|_=>6
def xn(n:Nat)(a b c:Nat->Int):Nat->Int:=λk=>if Nat.beq k ((n/4) ^^^ (n%4))then c k+sq ((n/4)&&& (n%4))*(a (n/4)*b (n%4))else c k
def jF(a b:Nat->Int):Nat->Nat->Int
 |0=>λ_=>0
 |n+1=>xn n a b (jF a b n)
def m7(n:Nat):Nat:=4+9*(n/4)
def nx(n:Nat):Nat:=m7 n+1+2*(n%4)
def ptr(k:Nat):Value:=.pointer (some ⟨k,0,some 7⟩)
section
variable{Bs:aa}{a b:Nat->Int}
def TX(n:Nat)(b:Nat->Int):aV:=[(18,pz b),(19,vI (n%4)),(6,vI (n/4)),(7,ptr (m7 n)),(5,ptr 3)]
def HN(n:Nat)(a c:Nat->Int):aH:=[(3,.aI (ic c) 29),(m7 n,.aI (bF (a (n/4))).cs 28)]
theorem Oc{n:Nat}{c:Nat->Int}(h:a (n/4)=0\/b (n%4)=0):xn n a b c=c:=by
 funext k
 unfold xn;split
 ·rcases h with h|h<;>rw[h]<;>simp
 ·rfl
theorem Kv{z:Int}:((BA (cd z.natAbs)).toList==(ByteArray.mk #[]).toList)=decide (z=0):=by rw[qF,s9];omega
theorem aJ2(n:Nat)(hn:n<16){c:Nat->Int}{p q r:Nat}(ha:∀ i,(a i).natAbs<2^p)(hb:∀ i,(b i).natAbs<2^q)(hc:∀ i,(c i).natAbs<2^r)(Od:p+q+3<=aC)(hr:r<=aC):
  ah prog Bs 62 (.block 3 (af f183 3)) (TX n b) (HN n a c) (nx n) ⟨.normal,[],HN n a (xn n a b c),nx n+2⟩:=by
 have pA:aC<=1099511627776:=by decide
 have qJ:∀ m,(sq m).natAbs<2^3:=λm=>by unfold sq;split<;>decide
 have m1:=mJ (ha (n/4)) (hb (n%4)) o_ o_;have m2:=mJ (qJ ((n/4)&&& (n%4))) (ev (ha (n/4)) (hb (n%4))) o_ o_;have ad:=yT (hc ((n/4) ^^^ (n%4))) (ev (qJ ((n/4)&&& (n%4))) (ev (ha (n/4)) (hb (n%4)))) o_ o_;have so:=kG (z:=sq ((n/4)&&& (n%4))) (l8 (qJ _) d_);by_cases h1:a (n/4)=0
 ·rw[Oc (.inl h1)];have e:((BA (cd (a (n/4)).natAbs)).toList==(ByteArray.mk #[]).toList)=true:=by rw[Kv];exact aB h1
  rcases n with _|_|_|_|_|_|_|_|_|_|_|_|_|_|_|_|n
  all_goals first|omega|exact aA [.rw 25 _ (.bool true) (cI Value.bool e)]
 ·by_cases h2:b (n%4)=0
  ·rw[Oc (.inr h2)];have e:((BA (cd (a (n/4)).natAbs)).toList==(ByteArray.mk #[]).toList)=false:=by rw[Kv];exact aJ h1
   have e':((BA (cd (b (n%4)).natAbs)).toList==(ByteArray.mk #[]).toList)=true:=by rw[Kv];exact aB h2
   rcases n with _|_|_|_|_|_|_|_|_|_|_|_|_|_|_|_|n
   all_goals first|omega|exact aA [.rw 25 _ (.bool false) (cI Value.bool e),.rw 29 _ (.bool true) (cI Value.bool e')]
  ·have e:((BA (cd (a (n/4)).natAbs)).toList==(ByteArray.mk #[]).toList)=false:=by rw[Kv];exact aJ h1
   have e':((BA (cd (b (n%4)).natAbs)).toList==(ByteArray.mk #[]).toList)=false:=by rw[Kv];exact aJ h2
   rcases n with _|_|_|_|_|_|_|_|_|_|_|_|_|_|_|_|n
   all_goals first|omega|exact aA [.rw 25 _ (.bool false) (cI Value.bool e),.rw 29 _ (.bool false) (cI Value.bool e'),so.at 37,m1.at 49,m2.at 50,ad.at 51]
theorem TY{p q:Nat}(ha:∀ i,(a i).natAbs<2^p)(hb:∀ i,(b i).natAbs<2^q):∀ n,n<=16->∀ k,(jF a b n k).natAbs<=n*2^(p+q+3)
 |0,_,k=>by show(0:Int).natAbs<=_;simp
 |n+1,hn,k=>by
  have ih:=TY ha hb n o_ k;show(xn n a b (jF a b n) k).natAbs<=_;unfold xn;rw[ft,pU];split
  ·have qJ:∀ m,(sq m).natAbs<2^3:=λm=>by unfold sq;split<;>decide
   have h1:=ev (qJ ((n/4)&&& (n%4))) (ev (ha (n/4)) (hb (n%4)));rw[show 3+(p+q)=p+q+3 by omega]at h1;have:=aAG (jF a b n k) (sq ((n/4)&&& (n%4))*(a (n/4)*b (n%4)));exact dh this (Kw ih (iM h1))
  ·exact dh ih (JS _ _)
end
theorem Kx(f g:Fr):oS (jF (co f) (co g) 16) (f.d*g.d)=e6 f g:=by
 apply Fr.ext'
 ·show jF (co f) (co g) 16 0=_;simp[jF,xn,sq,co,e6]
 ·show jF (co f) (co g) 16 1=_;simp[jF,xn,sq,co,e6]
 ·show jF (co f) (co g) 16 2=_;simp[jF,xn,sq,co,e6]
 ·show jF (co f) (co g) 16 3=_;simp[jF,xn,sq,co,e6]
 ·rfl
theorem HO{f:Fr}{n:Nat}(h:dD n f):∀ i,(co f i).natAbs<2^n
 |0=>h.1
 |1=>h.2.1
 |2=>h.2.2.1
 |_+3=>h.2.2.2.1
theorem aAW:ic (λ_=>0)=[.bool false,.string ⟨#[]⟩,.bool false,.string ⟨#[]⟩,.bool false,.string ⟨#[]⟩,.bool false,.string ⟨#[]⟩]:=by unfold ic;rw[C7];rfl
theorem aJ3{f g:Fr}{m n:Nat}(hf:dD m f)(hg:dD n g)(vf:f.d≠0)(nY:g.d≠0)(cT:m+n+8<=aC):aD prog 183 [ik f,ik g] (ik (e6 f g).low):=by
 have pA:aC<=1099511627776:=by decide
 have ca:=HO hf;have cb:=HO hg;have hl:=C6 (c:=jF (co f) (co g) 16) (d:=f.d*g.d) (n:=m+n+4) (C2 vf nY) (by rw[Kx];exact hf.mul hg) o_;rw[Kx]at hl;have md:=mJ hf.2.2.2.2 hg.2.2.2.2 o_ o_;have hs:∀ i,i<=16->∀ k,(jF (co f) (co g) i k).natAbs<2^(m+n+8):=λi hi k=>by
  have h1:=TY ca cb i hi k;have h2:i*2^(m+n+3)<=16*2^(m+n+3):=e8 _ hi;have h3:2^(m+n+8)=32*2^(m+n+3):=by rw[show m+n+8=5+(m+n+3)by omega,ep]
  have h4:0<2^(m+n+3):=cG d_;omega
 have go:∀(w:World) (i:Nat),i<16->ah prog (aa.at w) 62 (.block 3 (af f183 3)) (TX i (co g)) (HN i (co f) (jF (co f) (co g) i)) (nx i) ⟨.normal,[],HN i (co f) (jF (co f) (co g) (i+1)),nx i+2⟩:=λw i hi=>
  aJ2 i hi ca cb (hs i o_) o_ o_
 have TZ:∀(w:World),ah prog (aa.at w) 62 (.block 3 (af f183 3)) (TX 0 (co g)) [(3,.aI [.bool false,.string ⟨#[]⟩,.bool false,.string ⟨#[]⟩,.bool false,.string ⟨#[]⟩,.bool false,.string ⟨#[]⟩] 29),(m7 0,.aI (bF (co f 0)).cs 28)] (nx 0)
   ⟨.normal,[],HN 0 (co f) (jF (co f) (co g) 1),nx 0+2⟩:=λw=>by
  have h:=go w 0 o_;have e:HN 0 (co f) (jF (co f) (co g) 0)=[(3,.aI [.bool false,.string ⟨#[]⟩,.bool false,.string ⟨#[]⟩,.bool false,.string ⟨#[]⟩,.bool false,.string ⟨#[]⟩] 29),(m7 0,.aI (bF (co f 0)).cs 28)]:=by show[(3,Obj.aI (ic (λ_=>0)) 29),(m7 0,.aI (bF (co f 0)).cs 28)]=_;rw[aAW]
  rw[e]at h;exact h
 generalize jF (co f) (co g)=c at *;exact gE mixed func183 200 (λw=>[.code 3 _ _ _ _ _ (TZ w),.code 3 _ _ _ _ _ (go w 1 o_),.code 3 _ _ _ _ _ (go w 2 o_),.code 3 _ _ _ _ _ (go w 3 o_),.code 3 _ _ _ _ _ (go w 4 o_),.code 3 _ _ _ _ _ (go w 5 o_),.code 3 _ _ _ _ _ (go w 6 o_),.code 3 _ _ _ _ _ (go w 7 o_),.code 3 _ _ _ _ _ (go w 8 o_),.code 3 _ _ _ _ _ (go w 9 o_),.code 3 _ _ _ _ _ (go w 10 o_),.code 3 _ _ _ _ _ (go w 11 o_),.code 3 _ _ _ _ _ (go w 12 o_),.code 3 _ _ _ _ _ (go w 13 o_),.code 3 _ _ _ _ _ (go w 14 o_),.code 3 _ _ _ _ _ (go w 15 o_),md.at 60,hl.at 61]) (λ_=>k_) k_ k_
theorem HP{x y:K}{m n:Nat}(hx:Sz m x)(hy:Sz n y)(cT:m+n+8<=aC):aD prog 183 [b9 x,b9 y] (b9 (x*y)):=by
 have e:b9 (x*y)=ik (e6 (bH x) (bH y)).low:=by unfold b9 dQ;rw[TH];rfl
 rw[e];exact aJ3 hx hy (by have:=(kp x).pos;omega) (by have:=(kp y).pos;omega) cT
theorem oT{x y:K}{m n:Nat}(hx:Sz m x)(hy:Sz n y)(cT:m+n+8<=aC):aD prog 163 [b9 x,b9 y] (b9 (x*y)):=
 aK func163 (λ_=>[(kJ hx o_).at 6,(kJ hy o_).at 10,(HP hx hy cT).at 16])
theorem aJ4{x:K}:aD prog 182 [b9 x,vI 2] (b9 (mL x)):=by
 have e:b9 (mL x)=ik (xl (bH x)):=by unfold b9 dQ;rw[aAS];rfl
 rw[e];exact aK func182 (λ_=>[(oj (bH x).c).at 18,(oj (bH x).e).at 18])
theorem aJ5{x:K}:aD prog 182 [b9 x,vI 1] (b9 (lJ x)):=by
 have e:b9 (lJ x)=ik (xm (bH x)):=by unfold b9 dQ;rw[aAT];rfl
 rw[e];exact aK func182 (λ_=>[(oj (bH x).b).at 18,(oj (bH x).e).at 18])
theorem aJ6:kI 0=0:=rfl
theorem HQ{x y:K}{m n:Nat}(h:y≠0)(hx:Sz m x)(hy:Sz n y)(cT:m+7*n+40<=aC):aD prog 154 [b9 x,b9 y] (.tuple #[b9 (x*y⁻¹),.int .i64 0]):=by
 have h1:Sz (n+n+4) (two y):=hy.mul hy.mL;have h2:Sz (n+n+4+(n+n+4)+4) (qI y):=h1.mul h1.lJ;have h3:=Sz.inv h hy;have d1:=HP hy hy.mL o_;have d2:=HP h1 h1.lJ o_;have d3:=HP hx hy.mL o_;have d4:=HP h1.lJ h3 o_;have d5:=HP (hx.mul hy.mL) (h1.lJ.mul h3) o_;rw[aAV h]at d5;have hi:=C6 (c:=co (om y)) (d:=(om y).d) (n:=n+n+4+(n+n+4)+4) (Ob h) (by obtain⟨a1,a2,a3,a4,a5⟩:=h2;have hp:0<2^(n+n+4+(n+n+4)+4):=cG d_;exact⟨a5,hp,hp,hp,a1⟩) o_
 have e:oS (co (om y)) (om y).d=om y:=rfl;have e2:ik (om y).low=b9 (om y).val:=by unfold b9 dQ;rw[Fg (Ob h)];rfl
 rw[e,e2]at hi;have e3:pz (co (om y))=.agg #[.bool (bF (bH (qI y)).d).neg,.string (BA (bF (bH (qI y)).d).aZ),.bool false,.string ⟨#[]⟩,.bool false,.string ⟨#[]⟩,.bool false,.string ⟨#[]⟩]:=by show Value.agg #[.bool (bF (bH (qI y)).d).neg,.string (BA (bF (bH (qI y)).d).aZ),.bool (bF 0).neg,.string (BA (bF 0).aZ),.bool (bF 0).neg,.string (BA (bF 0).aZ),.bool (bF 0).neg,.string (BA (bF 0).aZ)]=_;rw[C7];rfl
 rw[e3]at hi;have e4:(om y).d=(bH (qI y)).a:=rfl;rw[e4]at hi;have z:=r5 (z:=0) d_;have zs:Sz 1 (kI 0):=qH d_ o_;have ne:dQ y≠dQ (kI 0):=λe=>h (by rw[Ku e];rfl);generalize (om y).val=v at *;exact aK func154 (λ_=>[(kJ hx o_).at 13,(kJ hy o_).at 17,z.at 23,.step 24 (av f154 24) _ _ _ _ (aAM (neg:=true) k_ (dQ y) (dQ (kI 0)) (C4 hy o_) (C4 zs d_) (b:=false) (by simp;exact ne)),(aJ4 (x:=y)).at 27,d1.at 30,(aJ5 (x:=two y)).at 32,d2.at 35,hi.at 42,d3.at 45,d4.at 48,d5.at 49])
theorem aJ7{x:K}{m:Nat}(hx:Sz m x)(hm:m<=aC):aD prog 154 [b9 x,b9 0] (.tuple #[.agg #[.bool false,.string ⟨#[]⟩,.bool false,.string ⟨#[]⟩,.bool false,.string ⟨#[]⟩,.bool false,.string ⟨#[]⟩,.bool false,.string ⟨#[]⟩],.int .i64 10]):=by have zs:Sz 1 (kI 0):=qH d_ o_;exact aK func154 (λ_=>[(kJ hx hm).at 13,(kJ (x:=0) zs d_).at 17,(r5 (z:=0) d_).at 23,.step 24 (av f154 24) _ _ _ _ (aAM (neg:=true) k_ (dQ 0) (dQ (kI 0)) (C4 zs d_) (C4 zs d_) (b:=true) (by simp;rfl))])
theorem T0{a b s:Int}(ha:a.natAbs<=1)(hs:s.natAbs<=1):aD prog 178 [.int .i64 a,.int .i64 b,.int .i64 s] (.int .i64 (tt a b s)):=by
 have hw:IntKind.i64.wrap (a*s)=a*s:=by
  have h1:a=-1\/a=0\/a=1:=by omega
  rcases h1 with h1|h1|h1<;>rw[h1,c8]<;>omega
 unfold tt;by_cases h1:a=b
 ·rw[aw (.inl h1)];exact aK func178 (λ_=>[.rw 10 (.bool (a==b)) (.bool true) (by rw[h1];simp)])
 ·by_cases h2:b=0
  ·rw[aw (.inr h2)];exact aK func178 (λ_=>[.rw 10 (.bool (a==b)) (.bool false) (by congr 1;simpa using h1),.rw 13 (.bool (b==0)) (.bool true) (by rw[h2];rfl)])
  ·rw[ao (λh=>h.elim h1 h2)];by_cases h3:a=0
   ·rw[aw h3];exact aK func178 (λ_=>[.rw 10 (.bool (a==b)) (.bool false) (by congr 1;simpa using h1),.rw 13 (.bool (b==0)) (.bool false) (by congr 1;simpa using h2),.rw 18 (.bool (a==0)) (.bool true) (by rw[h3];rfl)])
   ·rw[ao h3];exact aK func178 (λ_=>[.rw 10 (.bool (a==b)) (.bool false) (by congr 1;simpa using h1),.rw 13 (.bool (b==0)) (.bool false) (by congr 1;simpa using h2),.rw 18 (.bool (a==0)) (.bool false) (by congr 1;simpa using h3),.wr 22 .i64 (a*s) (a*s) hw])
theorem Fm{k:Int}{x y:Int}{p q:Nat}(hk:k.natAbs<2^3)(h1:x.natAbs<2^p)(h2:y.natAbs<2^q)(Od:p+q+3<=aC):aD prog 181 [.int .i64 k,bK x,bK y] (bK (k*(x*y))):=by
 have pA:aC<=1099511627776:=by decide
 exact aK func181 (λ_=>[(kG (z:=k) (l8 hk d_)).at 8,(mJ h1 h2 o_ o_).at 11,(mJ hk (ev h1 h2) o_ o_).at 12])
theorem HR{k x y:Int}{p q:Nat}(hk:k.natAbs<2^3)(h1:x.natAbs<2^p)(h2:y.natAbs<2^q):(k*(x*y)).natAbs<2^(p+q+3):=by have:=ev hk (ev h1 h2);rwa[show 3+(p+q)=p+q+3 by omega]at this
theorem HT{x y:Int}{p:Nat}(h1:x.natAbs<2^p)(h2:y.natAbs<2^p):(x+y).natAbs<2^(p+1):=by have:=aAG x y;rw[dw];omega
theorem Oe{x y:Int}{p:Nat}(h1:x.natAbs<2^p)(h2:y.natAbs<2^p):(x-y).natAbs<2^(p+1):=by have:=Int.natAbs_sub_le x y;rw[dw];omega
theorem Fo(z:Int):z.sign.natAbs<=1:=by
 rcases NV z 0 with h|h|h
 ·rw[E6 h];decide
 ·rw[h];decide
 ·rw[Be h];decide
theorem T1{x y:Int}{p q:Nat}(h1:x.natAbs<2^p)(h2:y.natAbs<2^q)(hp:p+p+3<=aC)(hq:q+q+3<=aC):aD prog 177 [bK x,bK y] (.int .i64 (pw x y)):=by
 have pA:aC<=1099511627776:=by decide
 exact aK func177 (λ_=>[(rV x).at 6,(rV y).at 8,(mJ h1 h1 o_ o_).at 11,(Fm (k:=2) d_ h2 h2 o_).at 14,(S9 (ev h1 h1) (HR (k:=2) d_ h2 h2) o_ o_).at 15,(T0 (b:=y.sign) (s:=(x*x-2*(y*y)).sign) (Fo x) (Fo _)).at 16])
theorem Of(x y:Int):(pw x y).natAbs<=1:=by
 unfold pw tt;have h1:=Fo x;have h2:=Fo y;have h3:=Fo (x*x-2*(y*y));split
 ·exact h1
 ·split
  ·exact h2
  ·rw[uG];exact dh (yN h1 h3) d_
theorem nG{x:K}{n:Nat}(hx:Sz n x)(hn:4*n+20<=aC):aD prog 152 [b9 x] (.int .i64 (OF.az x)):=by
 have pA:aC<=1099511627776:=by decide
 have hv:=kJ hx o_;rw[aAK];obtain⟨x1,x2,x3,x4,x5⟩:=hx;unfold b9 dQ at *;generalize bH x=f at *;have s1:=T1 x1 x2 o_ o_;have s2:=T1 x3 x4 o_ o_;have t1:=Fm (k:=1) d_ x1 x1 o_;rw[NL]at t1;have t2:=Fm (k:=2) d_ x2 x2 o_;have t3:=Fm (k:=3) d_ x3 x3 o_;have t6:=Fm (k:=6) d_ x4 x4 o_;have z1:(f.a*f.a).natAbs<2^(n+n+3):=cx (ev x1 x1) (cY d_ o_);have z2:=HR (k:=2) d_ x2 x2;have z3:=HR (k:=3) d_ x3 x3;have z6:=HR (k:=6) d_ x4 x4;have a1:=yT z1 z2 o_ o_;have a2:=yT z3 z6 o_ o_;have b1:=E8 (HT z1 z2) (HT z3 z6) o_ o_;have u2:=Fm (k:=2) d_ x1 x2 o_;have u6:=Fm (k:=6) d_ x3 x4 o_;have y2:=HR (k:=2) d_ x1 x2;have y6:=HR (k:=6) d_ x3 x4;have b2:=E8 y2 y6 o_ o_;have s3:=T1 (Oe (HT z1 z2) (HT z3 z6)) (Oe y2 y6) o_ o_;have xo:=Of f.a f.b;have T2:=Of ((f.a*f.a+2*(f.b*f.b))-(3*(f.c*f.c)+6*(f.e*f.e))) (2*(f.a*f.b)-6*(f.c*f.e));have mx:=T0 (b:=pw f.c f.e) xo T2;have m0:=T0 (a:=pw f.a f.b) (b:=pw f.c f.e) (s:=0) xo d_;unfold N6;generalize pw f.a f.b=p at *;generalize pw f.c f.e=q at *;by_cases h:p=q\/q=0\/p=0
 ·have e:tt p q (pw ((f.a*f.a+2*(f.b*f.b))-(3*(f.c*f.c)+6*(f.e*f.e))) (2*(f.a*f.b)-6*(f.c*f.e)))=tt p q 0:=by
   unfold tt;by_cases h1:p=q\/q=0
   ·rw[aw h1,aw h1]
   ·rw[ao h1,ao h1];have h2:p=0:=by
     rcases h with h|h|h
     ·exact absurd (.inl h) h1
     ·exact absurd (.inr h) h1
     ·exact h
    rw[aw h2,aw h2]
  rw[e];by_cases h1:p=q
  ·exact aK func152 (λ_=>[hv.at 12,s1.at 28,s2.at 31,.rw 34 (.bool (p==q)) (.bool true) (by rw[h1];simp),m0.at 45])
  ·by_cases h2:q=0
   ·exact aK func152 (λ_=>[hv.at 12,s1.at 28,s2.at 31,.rw 34 (.bool (p==q)) (.bool false) (by congr 1;simpa using h1),.rw 37 (.bool (q==0)) (.bool true) (by rw[h2];rfl),m0.at 45])
   ·have h3:p=0:=by
     rcases h with h|h|h
     ·exact absurd h h1
     ·exact absurd h h2
     ·exact h
    exact aK func152 (λ_=>[hv.at 12,s1.at 28,s2.at 31,.rw 34 (.bool (p==q)) (.bool false) (by congr 1;simpa using h1),.rw 37 (.bool (q==0)) (.bool false) (by congr 1;simpa using h2),.rw 41 (.bool (p==0)) (.bool true) (by rw[h3];rfl),m0.at 45])
 ·have h1:p≠q:=λe=>h (.inl e);have h2:q≠0:=λe=>h (.inr (.inl e));have h3:p≠0:=λe=>h (.inr (.inr e));exact aK func152 (λ_=>[hv.at 12,s1.at 28,s2.at 31,.rw 34 (.bool (p==q)) (.bool false) (by congr 1;simpa using h1),.rw 37 (.bool (q==0)) (.bool false) (by congr 1;simpa using h2),.rw 41 (.bool (p==0)) (.bool false) (by congr 1;simpa using h3),t1.at 48,t2.at 51,a1.at 52,t3.at 55,t6.at 58,a2.at 59,b1.at 60,u2.at 63,u6.at 66,b2.at 67,s3.at 72,mx.at 73])
theorem mg{x y:K}{m n:Nat}(hx:Sz m x)(hy:Sz n y)(cT:4*(m+n)+24<=aC):aD prog 126 [b9 x,b9 y] (.int .i64 (OF.az (x-y))):=
 aK func126 (λ_=>[(Bm hx hy o_).at 7,(nG (hx.sub hy) o_).at 8])
def iO(x:K):K:=if OF.az x<0 then -x else x
theorem T3{x:K}{n:Nat}(hx:Sz n x)(hn:4*n+20<=aC):aD prog 198 [b9 x] (b9 (iO x)):=by
 unfold iO;have n1:=y0 hx o_;have n2:=y0 hx.neg o_;rw[CR.neg_neg]at n2;by_cases h:OF.az x<0
 ·rw[aw h];exact aK func198 (λ_=>[(nG hx hn).at 4,.rw 5 (.bool (decide (OF.az x<0))) (.bool true) (by rw[aB h]),n1.at 7])
 ·rw[ao h];exact aK func198 (λ_=>[(nG hx hn).at 4,.rw 5 (.bool (decide (OF.az x<0))) (.bool false) (by rw[aJ h]),n1.at 9,n2.at 10])
theorem aAX{ι:Map}{w:World}{b o cap:Nat}{x:Obj}(h:jv ι w (.at b o cap) x)(hx:x.owns=true):∃ cs ty,w.heap[b]?=some (.cells cs ty (0,0)):=by
 cases x with
 |aI cells ty=>
  obtain⟨b',bt,e,_,h2⟩:=h;injection e with e _ _;subst e;exact⟨_,_,h2⟩
 |row cells ty size=>
  rcases h with ⟨h,_⟩|⟨b',aO,cur,e,h2,_⟩
  ·cases h
  ·injection e with e _ _;subst e;exact⟨_,_,h2⟩
 |_=>cases hx
def Else(w:World)(l:Nat):Prop:=∀ cs ty f,w.heap[l]?≠some (.cells cs ty f)
theorem Og{w:World}{l:Nat}{r:Loop}(h:w.heap[l]?=some (.loop r)):Else w l:=λcs ty f e=>by rw[h]at e;cases e
theorem aJ8{w:World}{l:Nat}{r:Option (List Deferred)}(h:w.heap[l]?=some (.deferred r)):Else w l:=λcs ty f e=>by rw[h]at e;cases e
theorem Oh{ι:Map}{w w':World}{loc:o9}{x:Obj}{l:Nat}(hl:Else w l)(h:jv ι w loc x)(hx:∀ F,x=.fact F->F.rc=false)(hz:w.heap.size<=w'.heap.size)
  (hs:∀ b o cap,x.owns=true\/x.gj=true->loc=.at b o cap->b=l\/w'.heap[b]?=w.heap[b]?) (hf:∀ F v b,x=.fact F->loc=.val v->F.cO v w b->b=l\/w'.heap[b]?=w.heap[b]?):jv ι w' loc x:=by
 cases x with
 |aI cells ty=>
  obtain⟨b,bt,e,h1,h2⟩:=h;rcases hs b 0 0 (.inl rfl) e with rfl|hb
  ·exact absurd h2 (hl _ _ _)
  ·exact⟨b,bt,e,h1,by rw[hb];exact h2⟩
 |row cells ty size=>
  rcases h with h|⟨b,cap,cur,e,h1,h2⟩
  ·exact .inl h
  ·rcases hs b 0 cap (.inl rfl) e with rfl|hb
   ·exact absurd h1 (hl _ _ _)
   ·exact .inr ⟨b,cap,cur,e,by rw[hb];exact h1,h2⟩
 |view cells=>
  rcases h with h|⟨b,o,cap,bt,e,h1,h2⟩
  ·exact .inl h
  ·rcases hs b o cap (.inr rfl) e with rfl|hb
   ·have:bt=[]:=by
     cases bt with
     |nil=>rfl
     |cons u t=>
      have:=h2 0 u rfl;unfold World.cell? at this;dsimp only at this;split at this
      ·rename_i h3;exact absurd h3 (hl _ _ _)
      ·cases this
    subst this;exact .inr ⟨b,o,cap,[],e,h1,λj u hj=>by cases hj⟩
   ·exact .inr ⟨b,o,cap,bt,e,h1,λj u hj=>by rw[World.cell?_of_block (w:=w) (w':=w') (a:=⟨b,o+j,none⟩) hb];exact h2 j u hj⟩
 |fact F=>
  obtain⟨v,e,h1⟩:=h;refine⟨v,e,(F.soft (hx F rfl) v w w' h1 hz λk hk cs ty f hc=>?_).1⟩;rcases hf F v k rfl e hk with rfl|hb
  ·exact absurd hc (hl _ _ _)
  ·rw[hb];exact hc
 |dead=>trivial
theorem Oi{B1 B2:aa}{ι κ:Map}{c c2:Nat->Option Obj}{w1 w2:World}{L:aH}(h:aM B1 ι c w1)(hL:cS c L)(rH:∀ k x,ag L k=some x->κ k=ι k)
  (aJ9:∀ k x l,ag L k=some x->ι k=some l->jv ι w1 l x->jv κ w2 l x) (aKa:B2.G w2) (Jg:∀ k x b o cap,ag L k=some x->x.owns=true->ι k=some (.at b o cap)->¬B2.cO b)
  (yi:w1.heap.size<=w2.heap.size) (Sx:∀ k,c2 k=none->κ k=none) (dj:∀ k x,c2 k=some x->ag L k=some x\/(x=.dead/\∃ l,κ k=some l)) (hfa:∀ k F,ag L k=some (.fact F)->F.rc=true->B2.Fa F) (hff:∀ k F v b,ag L k=some (.fact F)->ι k=some (.val v)->F.cO v w2 b->F.cO v w1 b)
  (hle:Map.le B2.mp κ):aM B2 κ c2 w2:=by
 have src:∀{k x},c2 k=some x->x≠.dead->c k=some x/\κ k=ι k/\ag L k=some x:=λ{k x} hk hx=>by
  rcases dj k x hk with h1|⟨h1,_⟩
  ·exact⟨hL k x h1,rH k x h1,h1⟩
  ·exact absurd h1 hx
 have nd:∀{x:Obj},x.owns=true->x≠.dead:=λh e=>by subst e;cases h
 have nv:∀{x:Obj},x.gj=true->x≠.dead:=λh e=>by subst e;cases h
 refine⟨aKa,Sx,?_,?_,?_,?_,?_,?_,?_,hle⟩
 ·intro k x hk;rcases dj k x hk with h1|⟨rfl,l,hl⟩
  ·obtain⟨l,e1,e2⟩:=h.born k x (hL k x h1);exact⟨l,(rH k x h1).trans e1,aJ9 k x l h1 e1 e2⟩
  ·exact⟨l,hl,trivial⟩
 ·intro k x b o cap hk hx hl;obtain⟨q1,q2,q3⟩:=src hk (nd hx);rw[q2]at hl;exact⟨cx (h.own k x b o cap q1 hx hl).1 yi,Jg k x b o cap q3 hx hl⟩
 ·intro k j x y b o cap o' aO hk hx hj hy hl cg;obtain⟨q1,q2,_⟩:=src hk (nd hx);obtain⟨p1,p2,_⟩:=src hj (nd hy);exact h.inj k j x y b o cap o' aO q1 hx p1 hy (q2▸hl) (p2▸cg)
 ·intro k j x F b o cap v hk hx hl hj hv;obtain⟨q1,q2,_⟩:=src hk (nd hx);obtain⟨p1,p2,p3⟩:=src hj n_;intro hF;exact h.apart k j x F b o cap v q1 hx (q2▸hl) p1 (p2▸hv) (hff j F v b p3 (p2▸hv) hF)
 ·intro k x b o cap hk hx hl;obtain⟨q1,q2,_⟩:=src hk (nv hx);obtain⟨s1,s2⟩:=h.seen k x b o cap q1 hx (q2▸hl);refine⟨cx s1 yi,λj y o' aO hj hy hm=>?_⟩;obtain⟨p1,p2,_⟩:=src hj (nd hy);exact s2 j y o' aO p1 hy (p2▸hm)
 ·intro j F hj;exact hfa j F (src hj n_).2.2
 ·intro j k F F' hj hk;exact h.one j k F F' (src hj n_).1 (src hk n_).1
def fj(l:Nat)(r:Loop):Fact where
 G _ W:=W.heap[l]?=some (.loop r)
 cO _ _ k:=k=l
 lt _ w k h hk:=by subst hk;exact(yx.1 h).1
 dep _ w w' h _ hk:=⟨(hk l rfl).trans h,λk h=>h⟩
 rc:=true
 soft h:=by cases h
def pB(W1:World)(l:Nat)(S:Nat->Prop)(m:Map):aa where
 G W:=sT W1 W/\W.tape=W1.tape/\W.output=W1.output/\W1.heap.size<=W.heap.size/\∀ k,k<W1.heap.size->¬S k->k≠l->W.heap[k]?=W1.heap[k]?
 cO k:=k<W1.heap.size/\¬S k/\k≠l
 Fa F:=∃ r,F=fj l r
 mp:=m
 lt w k h hk:=cx hk.1 h.2.2.2.1
 dep w w' h h1 h2 h3 h4 h5:=⟨h1.trans h.1,h2.trans h.2.1,h3.trans h.2.2.1,dh h.2.2.2.1 h4,λk hk hS hl=>(h5 k ⟨hk,hS,hl⟩).trans (h.2.2.2.2 k hk hS hl)⟩
section
variable{W1 W:World}{l g:Nat}{S:Nat->Prop}{m ι:Map}{c:Nat->Option Obj}{r r':Loop}
theorem Bn{B:aa}(h:aM B ι c W)(hg:c g=some (.fact (fj l r))):W.heap[l]?=some (.loop r):=by obtain⟨lc,hl,v,_,hr⟩:=h.born g _ hg;exact hr
theorem aAY(h:aM (pB W1 l S m) ι c W)(hg:c g=some (.fact (fj l r))):aM (pB W1 l S m) ι (aY c g (.fact (fj l r'))) (W.putObj l (.loop r')):=by
 have hr:=Bn h hg;have al:=(yx.1 hr).1;have tv:=Og hr;have ne:∀ b,b≠l->(W.putObj l (.loop r')).heap[b]?=W.heap[b]?:=λb hb=>aAZ hb;have cV:∀ j y,j≠g->aY c g (.fact (fj l r')) j=some y->c j=some y:=λj y hj e=>by unfold aY at e;rw[ao hj]at e;exact e
 have new:∀ y,aY c g (.fact (fj l r')) g=some y->y=.fact (fj l r'):=λy e=>by unfold aY at e;rw[aw rfl]at e;injection e with e;exact e.symm
 have nf:∀ j y,j≠g->c j=some y->∀ F,y=.fact F->F.rc=false:=λj y hj e F e2=>by
  subst e2;cases hr:F.rc with
  |false=>rfl
  |true=>exact absurd (h.one j g F _ e hg hr rfl) hj
 have og:∀ j y,aY c g (.fact (fj l r')) j=some y->y.owns=true\/y.gj=true->c j=some y:=λj y e hy=>by
  by_cases hj:j=g
  ·subst hj;rw[new y e]at hy;rcases hy with hy|hy<;>cases hy
  ·exact cV j y hj e
 refine⟨⟨h.base.1,h.base.2.1,h.base.2.2.1,by rw[vF];exact h.base.2.2.2.1,λk hk hS hl=>(ne k hl).trans (h.base.2.2.2.2 k hk hS hl)⟩,?_,?_,?_,?_,?_,?_,?_,?_,h.oC⟩
 ·intro j hj;unfold aY at hj;by_cases k7:j=g
  ·rw[aw k7]at hj;cases hj
  ·rw[ao k7]at hj;exact h.dr j hj
 ·intro j y hj;by_cases k7:j=g
  ·subst k7;rw[new y hj];obtain⟨lc,hl,v,e,_⟩:=h.born j _ hg;exact⟨lc,hl,v,e,World.putObj_heap_same al⟩
  ·have hc:=cV j y k7 hj;obtain⟨lc,hl,ho⟩:=h.born j y hc;exact⟨lc,hl,Oh tv ho (nf j y k7 hc) (by rw[vF];exact bh _) (λb o cap _ _=>(Nat.decEq b l).casesOn (λhb=>.inr (ne b hb)) λhb=>.inl hb) λF v b _ _ _=>(Nat.decEq b l).casesOn (λhb=>.inr (ne b hb)) λhb=>.inl hb⟩
 ·intro k x b o cap hk hx hl;rw[vF];exact h.own k x b o cap (og k x hk (.inl hx)) hx hl
 ·intro k j x y b o cap o' aO hk hx hj hy;exact h.inj k j x y b o cap o' aO (og k x hk (.inl hx)) hx (og j y hj (.inl hy)) hy
 ·intro k j x F b o cap v hk hx hl hj hv hF;have gD:=og k x hk (.inl hx);by_cases k7:j=g
  ·subst k7;have e:=new _ hj;injection e with e;subst e;exact h.apart k j x _ b o cap v gD hx hl hg hv hF
  ·have iu:=cV j _ k7 hj;obtain⟨lc,q1,v',q2,q3⟩:=h.born j _ iu;rw[hv]at q1;injection q1 with q1;subst q1;injection q2 with q2;subst q2;refine h.apart k j x F b o cap v gD hx hl iu hv ((F.soft (nf j _ k7 iu F rfl) v W _ q3 (by rw[vF];exact bh _) λk2 fF cs ty f hc=>?_).2 b hF);rw[ne k2 (λe=>by subst e;exact tv _ _ _ hc)];exact hc
 ·intro k x b o cap hk hx hl;rw[vF];obtain⟨q1,q2⟩:=h.seen k x b o cap (og k x hk (.inr hx)) hx hl;exact⟨q1,λj y o' aO hj hy=>q2 j y o' aO (og j y hj (.inl hy)) hy⟩
 ·intro j F hj;by_cases k7:j=g
  ·subst k7;have e:=new _ hj;injection e with e;exact λ_=>⟨r',e⟩
  ·exact h.fa j F (cV j _ k7 hj)
 ·intro j k F F' hj hk hr sU;by_cases k7:j=g
  ·by_cases lK:k=g
   ·rw[k7,lK]
   ·have:=nf k _ lK (cV k _ lK hk) F' rfl;rw[sU]at this;cases this
  ·have:=nf j _ k7 (cV j _ k7 hj) F rfl;rw[hr]at this;cases this
end
section
variable{P:Program}{W1 W W4:World}{l g next:Nat}{S:Nat->Prop}{m ι:Map}{c:Nat->Option Obj}{r r2:Loop}
def vG(ι:Map)(next:Nat):Map:=λk=>if k<next then ι k else none
def oU(c:Nat->Option Obj)(next:Nat)(L:aH):Nat->Option Obj:=λk=>if k<next then(match ag L k with|some x=>some x|none=>(c k).map λ_=>.dead)else none
theorem xq{k:Nat}(h:k<next):vG ι next k=ι k:=by unfold vG;rw[aw h]
theorem aKb(h:aM (pB W1 l S m) ι c W)(hg:c g=some (.fact (fj l r)))(T4:g<next){L:aH}(hL:cS c L)(Fp:ag L g=none)(dq:∀ k x,ag L k=some x->k<next/\fP next x)
  (nS:∀ k F,ag L k≠some (.fact F)) (hS:∀ k x b o cap,ag L k=some x->x.owns=true->ι k=some (.at b o cap)->S b) :
  aM (pB W l S (vG ι next)) (vG ι next) (oU c next ((g,.fact (fj l r))::L)) W/\cS (oU c next ((g,.fact (fj l r))::L)) L/\oU c next ((g,.fact (fj l r))::L) g=some (.fact (fj l r))/\eD (oU c next ((g,.fact (fj l r))::L)) next:=by
 have hr:=Bn h hg;have T5:∀ k,ag ((g,.fact (fj l r))::L) k=if g=k then some (.fact (fj l r))else ag L k:=λk=>by
  show(if Nat.beq g k then _ else _)=_;by_cases e:g=k
  ·subst e;simp
  ·rw[ao e,nW e];rfl
 have jw:∀ k x,ag ((g,.fact (fj l r))::L) k=some x->k<next/\c k=some x/\(x=.fact (fj l r)/\k=g\/ag L k=some x):=λk x e=>by
  rw[T5]at e;by_cases hk:g=k
  ·subst hk;rw[aw rfl]at e;injection e with e;subst e;exact⟨T4,hg,.inl ⟨rfl,rfl⟩⟩
  ·rw[ao hk]at e;exact⟨(dq k x e).1,hL k x e,.inr e⟩
 refine⟨Oi (L:=(g,.fact (fj l r))::L) h (λk x e=>(jw k x e).2.1) (λk x e=>xq (jw k x e).1) (λk x lc e _ ho=>?_) ⟨.refl _,rfl,rfl,bh _,λ_ _ _ _=>rfl⟩ (λk x b o cap e hx hb hF=>?_) (bh _) (λk e=>?_) (λk x e=>?_) (λk F e=>?_) (λ_ _ _ _ _ _ h=>h) (Map.le.refl _),λk x e=>?_,?_,λk hk=>?_⟩
 ·rcases(jw k x e).2.2 with ⟨rfl,_⟩|e
  ·exact ho
  ·exact ho.below (λk hk l e=>by rw[xq hk];exact e) (dq k x e).2
 ·rcases(jw k x e).2.2 with ⟨rfl,_⟩|e
  ·cases hx
  ·exact hF.2.1 (hS k x b o cap e hx hb)
 ·unfold oU at e;unfold vG;split at e
  ·rename_i hk;rw[aw hk];split at e
   ·cases e
   ·cases hc:c k with
    |none=>exact h.dr k hc
    |some x=>rw[hc]at e;cases e
  ·rename_i hk;rw[ao hk]
 ·unfold oU at e;split at e
  ·rename_i hk;split at e
   ·rename_i y hy;injection e with e;subst e;exact .inl hy
   ·cases hc:c k with
    |none=>rw[hc]at e;cases e
    |some y=>
     rw[hc]at e;injection e with e;obtain⟨lc,q,_⟩:=h.born k y hc;exact .inr ⟨e.symm,lc,by rw[xq hk];exact q⟩
  ·cases e
 ·rcases(jw k _ e).2.2 with ⟨e,_⟩|e
  ·injection e with e;exact λ_=>⟨r,e⟩
  ·exact absurd e (nS k F)
 ·unfold oU;rw[aw (dq k x e).1,T5,ao (λh=>by subst h;rw[Fp]at e;cases e),e]
 ·unfold oU;rw[aw T4,T5,aw rfl]
 ·unfold oU;rw[ao o_]
theorem aKc(h:aM (pB W1 l S m) ι c W)(hg:c g=some (.fact (fj l r))){Os cq:aH}(hO:cS c Os)(T6:ag Os g=none)(dH:∀ k x,ag Os k=some x->x.owns=true)(qK:∀ k x,ag cq k=some x->x.owns=true)
  (jQ:∀ k,ag cq k=none↔ag Os k=none) (hS:∀ b,S b->∃ k x o cap,ag Os k=some x/\ι k=some (.at b o cap)) (jz:∀ k x,ag cq k=some x->fP next x)
  {au:Map} {c':Nat->Option Obj} {aKd:Map} (hm:aM (pB W l S aKd) au c' W4) (Oj:c' g=some (.fact (fj l r2))) (r6:cS c' cq) (dq:∀ k,k<next->∀ lc,au k=some lc->ι k=some lc)
  (T4:g<next) (mD:∀ k x,ag cq k=some x->k<next):aM (pB W1 l S m) ι (ll c ((g,.fact (fj l r2))::cq)) W4:=by
 have hr:=Bn h hg;have hr4:=Bn hm Oj;have tv:=Og hr;have aKe:=Og hr4;have bA:W.heap.size<=W4.heap.size:=hm.base.2.2.2.1;have aI:∀ b,b<W.heap.size->¬S b->b≠l->W4.heap[b]?=W.heap[b]?:=hm.base.2.2.2.2
 -- xj kinds of marks
 have kinds:∀ k x,ll c ((g,.fact (fj l r2))::cq) k=some x->(k=g/\x=.fact (fj l r2))\/(k≠g/\ag cq k=some x/\c' k=some x/\x.owns=true)\/(k≠g/\ag Os k=none/\c k=some x/\∀ F,x=.fact F->F.rc=false):=λk x e=>by
  rw[vi]at e;by_cases hk:k=g
  ·subst hk;have:ag ((k,Obj.fact (fj l r2))::cq) k=some (.fact (fj l r2)):=by show(if Nat.beq k k then _ else _)=_;simp
   rw[this]at e;injection e with e;exact .inl ⟨rfl,e.symm⟩
  ·have:ag ((g,Obj.fact (fj l r2))::cq) k=ag cq k:=by show(if Nat.beq g k then _ else _)=_;rw[nW (mA hk)];rfl
   rw[this]at e;cases ho:ag cq k with
   |some y=>rw[ho]at e;injection e with e;subst e;exact .inr (.inl ⟨hk,rfl,r6 k y ho,qK k y ho⟩)
   |none=>
    rw[ho]at e;refine .inr (.inr ⟨hk,(jQ k).1 ho,e,λF ef=>?_⟩);subst ef;cases hr:F.rc with
    |false=>rfl
    |true=>exact absurd (h.one k g F _ e hg hr rfl) hk
 -- the map is the same at the marks of the list
 have same:∀ k x,ag cq k=some x->au k=ι k:=λk x e=>by obtain⟨lc,q,_⟩:=hm.born k x (r6 k x e);rw[q,dq k (mD k x e) lc q]
 have C8:∀ k x b o cap,ag Os k=none->c k=some x->x.owns=true->ι k=some (.at b o cap)->¬S b:=λk x b o cap hn hc hx hl hs=>by obtain⟨k',x',o',aO,e1,e2⟩:=hS b hs;have:=h.inj k k' x x' b o cap o' aO hc hx (hO k' x' e1) (dH k' x' e1) hl e2;subst this;rw[hn]at e1;cases e1
 have C9:∀ k x b o cap,c k=some x->x.gj=true->ι k=some (.at b o cap)->¬S b:=λk x b o cap hc hx hl hs=>by obtain⟨k',x',o',aO,e1,e2⟩:=hS b hs;exact(h.seen k x b o cap hc hx hl).2 k' x' o' aO (hO k' x' e1) (dH k' x' e1) e2
 have xt:∀ k F v b,c k=some (.fact F)->ι k=some (.val v)->F.cO v W b->¬S b:=λk F v b hc hl hF hs=>by obtain⟨k',x',o',aO,e1,e2⟩:=hS b hs;exact h.apart k' k x' F b o' aO v (hO k' x' e1) (dH k' x' e1) e2 hc hl hF
 have aA0:∀ k x b o cap,c k=some x->x.owns=true->ι k=some (.at b o cap)->b≠l:=λk x b o cap hc hx hl e=>by obtain⟨lc,q1,q2⟩:=h.born k x hc;rw[hl]at q1;injection q1 with q1;subst q1;obtain⟨cs,ty,q⟩:=aAX q2 hx;subst e;exact tv _ _ _ q
 have T7:∀ k x b o cap,c' k=some x->x.owns=true->au k=some (.at b o cap)->b≠l:=λk x b o cap hc hx hl e=>by obtain⟨lc,q1,q2⟩:=hm.born k x hc;rw[hl]at q1;injection q1 with q1;subst q1;obtain⟨cs,ty,q⟩:=aAX q2 hx;subst e;exact aKe _ _ _ q
 -- a block of the aUE is none of the aUF
 have part:∀ k x b o cap j y o' aO,ag cq k=some x->ι k=some (.at b o cap)->ag Os j=none->c j=some y->y.owns=true->ι j=some (.at b o' aO)->False:=λk x b o cap j y o' aO hk hl hj hc hy cg=>by
  rcases eC b W.heap.size with al|dM
  ·have hx:=qK k x hk;have q:=(hm.own k x b o cap (r6 k x hk) hx (by rw[same k x hk];exact hl)).2;have h1:=C8 j y b o' aO hj hc hy cg;have h2:=aA0 j y b o' aO hc hy cg;exact q ⟨al,h1,h2⟩
  ·have:=(h.own j y b o' aO hc hy cg).1;omega
 refine⟨?_,?_,?_,?_,?_,?_,?_,?_,?_,h.oC⟩
 ·refine⟨hm.base.1.trans h.base.1,hm.base.2.1.trans h.base.2.1,hm.base.2.2.1.trans h.base.2.2.1,dh h.base.2.2.2.1 bA,λk hk hs hl=>?_⟩;exact(aI k (cx hk h.base.2.2.2.1) hs hl).trans (h.base.2.2.2.2 k hk hs hl)
 ·intro k hk;rw[vi]at hk;cases ho:ag ((g,Obj.fact (fj l r2))::cq) k with
  |some y=>rw[ho]at hk;cases hk
  |none=>rw[ho]at hk;exact h.dr k hk
 ·intro k x hk;rcases kinds k x hk with ⟨rfl,rfl⟩|⟨lK,h1,h2,h3⟩|⟨lK,h1,h2,h3⟩
  ·obtain⟨lc,q1,v,q2,_⟩:=h.born k _ hg;exact⟨lc,q1,v,q2,hr4⟩
  ·obtain⟨lc,q1,q2⟩:=hm.born k x h2;exact⟨lc,by rw[<-same k x h1];exact q1,q2.below dq (jz k x h1)⟩
  ·obtain⟨lc,q1,q2⟩:=h.born k x h2;refine⟨lc,q1,Oh tv q2 h3 bA (λb o cap hx e=>?_) λF v b e1 e2 hF=>?_⟩;rotate_left
   ·by_cases fK:b=l
    ·exact .inl fK
    ·subst e1;subst e2;exact .inr (aI b (q2.wB rfl hF) (xt k F v b h2 q1 hF) fK)
   by_cases fK:b=l
   ·exact .inl fK
   ·right;subst e;rcases hx with hx|hx
    ·exact aI b (h.own k x b o cap h2 hx q1).1 (C8 k x b o cap h1 h2 hx q1) fK
    ·exact aI b (h.seen k x b o cap h2 hx q1).1 (C9 k x b o cap h2 hx q1) fK
 ·intro k x b o cap hk hx hl;rcases kinds k x hk with ⟨rfl,rfl⟩|⟨lK,h1,h2,h3⟩|⟨lK,h1,h2,h3⟩
  ·cases hx
  ·obtain⟨q1,q2⟩:=hm.own k x b o cap h2 hx (by rw[same k x h1];exact hl);exact⟨q1,λhF=>q2 ⟨cx hF.1 h.base.2.2.2.1,hF.2⟩⟩
  ·obtain⟨q1,q2⟩:=h.own k x b o cap h2 hx hl;exact⟨cx q1 bA,q2⟩
 ·intro k j x y b o cap o' aO hk hx hj hy hl cg;rcases kinds k x hk with ⟨rfl,rfl⟩|⟨lK,h1,h2,h3⟩|⟨lK,h1,h2,h3⟩
  ·cases hx
  ·rcases kinds j y hj with ⟨rfl,rfl⟩|⟨k7,p1,p2,p3⟩|⟨k7,p1,p2,p3⟩
   ·cases hy
   ·exact hm.inj k j x y b o cap o' aO h2 hx p2 hy (by rw[same k x h1];exact hl) (by rw[same j y p1];exact cg)
   ·exact(part k x b o cap j y o' aO h1 hl p1 p2 hy cg).elim
  ·rcases kinds j y hj with ⟨rfl,rfl⟩|⟨k7,p1,p2,p3⟩|⟨k7,p1,p2,p3⟩
   ·cases hy
   ·exact(part j y b o' aO k x o cap p1 cg h1 h2 hx hl).elim
   ·exact h.inj k j x y b o cap o' aO h2 hx p2 hy hl cg
 ·intro k j x F b o cap v hk hx hl hj hv hF;rcases kinds j _ hj with ⟨rfl,e⟩|⟨k7,p1,p2,p3⟩|⟨k7,p1,p2,p3⟩
  ·injection e with e;subst e;have vH:b=l:=hF;rcases kinds k x hk with ⟨rfl,rfl⟩|⟨lK,h1,h2,h3⟩|⟨lK,h1,h2,h3⟩
   ·cases hx
   ·exact T7 k x b o cap h2 hx (by rw[same k x h1];exact hl) vH
   ·exact aA0 k x b o cap h2 hx hl vH
  ·cases p3
  ·have hF:F.cO v W b:=by obtain⟨lc,q1,v',q2,q3⟩:=h.born j _ p2;rw[hv]at q1;injection q1 with q1;subst q1;injection q2 with q2;subst q2;refine(F.soft (p3 F rfl) v W W4 q3 bA λk2 fF cs ty f hc=>?_).2 b hF;rw[aI k2 (F.lt v W k2 q3 fF) (xt j F v k2 p2 hv fF) (λe=>by subst e;exact tv _ _ _ hc)];exact hc
   rcases kinds k x hk with ⟨rfl,rfl⟩|⟨lK,h1,h2,h3⟩|⟨lK,h1,h2,h3⟩
   ·cases hx
   ·have cg:au k=some (.at b o cap):=by rw[same k x h1];exact hl
    have hb:b<W.heap.size:=by obtain⟨lc,q1,q2⟩:=h.born j _ p2;rw[hv]at q1;injection q1 with q1;subst q1;exact q2.wB rfl hF
    exact(hm.own k x b o cap h2 hx cg).2 ⟨hb,xt j F v b p2 hv hF,T7 k x b o cap h2 hx cg⟩
   ·exact h.apart k j x F b o cap v h2 hx hl p2 hv hF
 ·intro k x b o cap hk hx hl;rcases kinds k x hk with ⟨rfl,rfl⟩|⟨lK,h1,h2,h3⟩|⟨lK,h1,h2,h3⟩
  ·cases hx
  ·cases x<;>simp[Obj.owns,Obj.gj]at h3 hx
  ·obtain⟨q1,q2⟩:=h.seen k x b o cap h2 hx hl;refine⟨cx q1 bA,λj y o' aO hj hy cg=>?_⟩;rcases kinds j y hj with ⟨rfl,rfl⟩|⟨k7,p1,p2,p3⟩|⟨k7,p1,p2,p3⟩
   ·cases hy
   ·have jw:au j=some (.at b o' aO):=by rw[same j y p1];exact cg
    exact(hm.own j y b o' aO p2 hy jw).2 ⟨q1,C9 k x b o cap h2 hx hl,T7 j y b o' aO p2 hy jw⟩
   ·exact q2 j y o' aO p2 hy cg
 ·intro j F hj;rcases kinds j _ hj with ⟨_,e⟩|⟨_,_,_,h3⟩|⟨_,_,_,h3⟩
  ·injection e with e;exact λ_=>⟨r2,e⟩
  ·cases h3
  ·exact λhr=>by rw[h3 F rfl]at hr;cases hr
 ·intro j k F F' hj hk hr sU;rcases kinds j _ hj with ⟨e1,_⟩|⟨_,_,_,h3⟩|⟨_,_,_,h3⟩
  ·rcases kinds k _ hk with ⟨e2,_⟩|⟨_,_,_,h3⟩|⟨_,_,_,h3⟩
   ·rw[e1,e2]
   ·cases h3
   ·rw[h3 F' rfl]at sU;cases sU
  ·cases h3
  ·rw[h3 F rfl]at hr;cases hr
end
def Ol:aV->aV->aV
 |[],fr=>fr
 |p::l,fr=>Ol l (p::fr)
theorem aA1{m:Map}{N:Nat}:∀(l:aV) {fr:aV} {T:Array Value},T.size=N->(∀ t,ni m (bC fr t) (T.getD t undef))->(∀ p∈l,p.1<N/\flat p.2=true)->
  (l.foldl (λt p=>t.setIfInBounds p.1 p.2) T).size=N/\∀ t,ni m (bC (Ol l fr) t) ((l.foldl (λt p=>t.setIfInBounds p.1 p.2) T).getD t undef)
 |[],fr,T,hT,h,_=>⟨hT,h⟩
 |(p,v)::l,fr,T,hT,h,hl=>by
  obtain⟨h1,h2⟩:=hl (p,v) (aT ..);dsimp only at h1 h2;refine aA1 l (fr:=(p,v)::fr) (T:=T.setIfInBounds p v) (by simpa using hT) (λt=>?_) λq hq=>hl q (bB _ hq);by_cases e:p=t
  ·subst e;have e1:bC ((p,v)::fr) p=v:=by simp[bC]
   have e2:(T.setIfInBounds p v).getD p undef=v:=by rw[pQ,Array.getElem?_setIfInBounds_self_of_lt o_];rfl
   rw[e1,e2];exact .inr (.same h2)
  ·have e1:bC ((p,v)::fr) t=bC fr t:=by show(if Nat.beq p t then _ else _)=_;rw[nW e];rfl
   have e2:(T.setIfInBounds p v).getD t undef=T.getD t undef:=by rw[pQ,pQ,Rx e]
   rw[e1,e2];exact h t
def exJ:Ex->Option Code
 |.normal=>none
 |.ret=>some .ret
 |.exit id=>some (.exit id)
def jU(fk:FuncId)(T:Array Value)(ps:Array Tmp)(iB eK:Code)(D:Nat):Loop:={ state:=.ready,pending:=none,fn:=fk,tmps:=T,params:=ps,assign:=iB,body:=eK,defers:=D }
def Da(r:Loop)(j:Option Code):Loop:={ r with state:=if j.isNone then .ready else .done,pending:=j }
section
variable{P:Program}{W1:World}{l g next N D:Nat}{S:Nat->Prop}{m:Map}
theorem Om{c:Nat->Option Obj}{L:aH}(h:∀ p∈L.map (λp=>(p.1,some p.2)),c p.1=p.2):cS c L:=λk x e=>h (k,some x) (di.2 ⟨(k,x),j4 e,rfl⟩)
structure On(P:Program)(next N:Nat)(ps:Array Tmp)(iB eK:Code)(fr:aV)(Os Vs cq:aH)(ew:aj)(j:Option Code):Prop where
 flat:∀ v∈ew,flat v=true
 len:ew.length=ps.size
 jA:∀ p∈ps,p<N
 low:∀ k x,ag (Os++Vs) k=some x->k<next/\fP (next+1) x
 aA2:∀ k x,ag cq k=some x->fP (next+1) x
 own:∀ k x,ag Os k=some x->x.owns=true
 aA3:∀ k x,ag cq k=some x->x.owns=true
 view:∀ k x,ag Vs k=some x->x.gj=true
 keys:∀ k,ag cq k=none↔ag Os k=none
 run:∃ rA rB:lZ,(∀ B,ah P B N iB (Ol (ps.toList.zip ew) fr) (Os++Vs) (next+1) rA)/\rA.ex=.normal/\next+1<=rA.next/\ag rA.M next=none/\
  (∀ B,ah P B N eK rA.fr rA.M rA.next rB)/\(∀ k x,ag cq k=some x->ag rB.M k=some x)/\exJ rB.ex=j
theorem Oo{ps:Array Tmp}{iB eK:Code}{fr:aV}{Os Vs cq:aH}{ew:aj}{j:Option Code}(ay:On P next N ps iB eK fr Os Vs cq ew j)
  {o:Oper} {x:Operand} (ho:dp o.op=some x) {T:Array Value} {fk:FuncId} (hT:T.size=N) (hTs:∀ t,ni m (bC fr t) (T.getD t undef)) (cT:∀ k lc,m k=some lc->k<next)
  (hS:∀ b,S b↔∃ k x o cap,ag Os k=some x/\m k=some (.at b o cap)) (hSm:∀ k x,ag Os k=some x->m k≠none) :
  cA P (pB W1 l S m) o (.func (.yield l) #[] #[]::ew) ((next,some (.fact (fj l (jU fk T ps iB eK D))))::(Os++Vs).map (λp=>(p.1,some p.2))) (.bool j.isNone)
   ((next,.fact (fj l (Da (jU fk T ps iB eK D) j)))::cq):=by
 intro R ι c a w hv hm hn K Q hK;obtain⟨rA,rB,hA,T8,hAn,Oq,hB,T9,Ua⟩:=ay.run;have hg:c next=some (.fact (fj l (jU fk T ps iB eK D))):=hn (next,_) (aT ..);have hL:cS c (Os++Vs):=Om λp hp=>hn p (bB _ hp);have hO:cS c Os:=λk x e=>hL k x (by rw[gM,e]);have Fp:ag (Os++Vs) next=none:=by
  cases e:ag (Os++Vs) next with
  |none=>rfl
  |some x=>have:=(ay.low _ _ e).1;omega
 have T6:ag Os next=none:=by
  rw[gM]at Fp;cases e:ag Os next with
  |none=>rfl
  |some x=>rw[e]at Fp;cases Fp
 have aKf:ag cq next=none:=(ay.keys next).2 T6;have Ot:∀ k x,ag (Os++Vs) k=some x->x.owns=true->ag Os k=some x:=λk x e hx=>by
  rw[gM]at e;cases e1:ag Os k with
  |some y=>rw[e1]at e;exact e
  |none=>
   rw[e1]at e;have:=ay.view k x e;cases x<;>simp[Obj.owns,Obj.gj]at hx this
 have hr:=Bn hm hg;obtain⟨dst,op,ty,pos,after,guard⟩:=o;dsimp only at ho hv;unfold dp at ho;split at ho
 ·rename_i x' kV wF;injection ho with ho;subst ho;have yn:(Op.operands (.call ⟨.value x',kV,wF⟩)).toList=x'::kV.toList:=by simp[Op.operands,Call.operands]
  rw[yn]at hv;cases hv with
  |cons hx ry=>
  obtain⟨kf,eY,he,h1,h2⟩:=hx.B6;have ef:kf=#[]:=by
   cases j7:kf.toList with
   |nil=>exact HU.1 j7
   |cons _ _=>rw[j7]at h1;cases h1
  have ec:eY=#[]:=by
   cases j7:eY.toList with
   |nil=>exact HU.1 j7
   |cons _ _=>rw[j7]at h2;cases h2
  subst ef;subst ec;have aN:kV.toList.map a.eval=ew:=nj ry ay.flat;have e3:execOp a.eval ⟨dst,.call ⟨.value x',kV,wF⟩,ty,pos,after,guard⟩=Instr.yield l ew.toArray:=by
   have:execOp a.eval ⟨dst,.call ⟨.value x',kV,wF⟩,ty,pos,after,guard⟩=(do let d <-Deferred.ofValue (a.eval x') (kV.map a.eval);invoke d.target d.args):=rfl;rw[this,he,<-aN];have:kV.map a.eval=(kV.toList.map a.eval).toArray:=by apply GG;simp
   rw[this];simp[Deferred.ofValue,invoke,go_sem]
  have hy:=run_yield (P:=P) (args:=ew.toArray) hr (by simpa[jU]using ay.len);have aKg:((jU fk T ps iB eK D).params.zip ew.toArray).foldl (λtmps (t,a)=>tmps.setIfInBounds t a) (jU fk T ps iB eK D).tmps=(ps.toList.zip ew).foldl (λt p=>t.setIfInBounds p.1 p.2) T:=by rw[<-aA4];simp[jU]
  rw[aKg]at hy;obtain⟨f1,f2⟩:=aA1 (ps.toList.zip ew) hT hTs λp hp=>by have:=List.of_mem_zip hp;exact⟨ay.jA _ (by simpa using this.1),ay.flat _ this.2⟩
  refine⟨λ_ _=>trivial,?_⟩;rw[Me _ _ _ n_,e3,hy,Oper.uponIn_round];refine⟨λe=>(by cases e),roundIn_of_wpIn trivial ?_⟩
  -- the aUG own memory
  obtain⟨Ky,Kz,Ou,uI⟩:=aKb (next:=next+1) hm hg (A5 _) hL Fp (λk x e=>⟨aA5 (ay.low k x e).1,(ay.low k x e).2⟩)
   (λk F e=>by
    rw[gM]at e;cases e1:ag Os k with
    |some y=>rw[e1]at e;injection e with e;subst e;have:=ay.own k _ e1;cases this
    |none=>rw[e1]at e;have:=ay.view k _ e;cases this)
   (λk x b o cap e hx hb=>by
    have e1:=Ot k x e hx;refine(hS b).2 ⟨k,x,o,cap,e1,?_⟩;cases e2:m k with
    |none=>exact absurd e2 (hSm k x e1)
    |some lc=>rw[hm.oC k lc e2]at hb;exact hb)
  refine hA _ (some l) _ _ _ _ _ ⟨rfl,f1,λt=>(f2 t).mono λk lc e=>by rw[xq (aA5 (cT k lc e))];exact hm.oC k lc e⟩ Ky Kz uI λbM gn a1 w1 jq fv cW eA dK ig _=>?_;rw[T8];have tu:gn next=some (.fact (fj l (jU fk T ps iB eK D))):=(ig next (A5 _) Fp).trans Ou;refine⟨_,run_beginRound (Bn cW tu) rfl,?_⟩;have dx:=aAY (r':={ jU fk T ps iB eK D with state:=.busy }) cW tu;refine hB _ (some l) _ _ _ _ _ fv dx (λk x e=>?_) (λk hk=>?_) λdC rD a2 w2 kW _ yj Fq hu3 hk3 _=>?_
  ·unfold aY;by_cases lK:k=next
   ·subst lK;rw[Oq]at e;cases e
   ·rw[ao lK];exact eA k x e
  ·unfold aY;rw[ao o_];exact dK k hk
  ·have hg3:rD next=some (.fact (fj l { jU fk T ps iB eK D with state:=.busy })):=(hk3 next o_ Oq).trans (by unfold aY;rw[aw rfl]);have hm4:=aAY (r':=Da (jU fk T ps iB eK D) j) yj hg3;have uK:=run_endRound (P:=P) j (Bn yj hg3);have Fs:∀ k,k<next+1->∀ lc,dC k=some lc->ι k=some lc:=λk hk lc e=>by
    cases qp:ι k with
    |some y7=>
     have:=kW k y7 (jq k y7 (by rw[xq hk];exact qp));rw[e]at this;exact this.symm
    |none=>
     exfalso;have hc:c k=none:=by
      cases hc:c k with
      |none=>rfl
      |some y=>obtain⟨y7,q,_⟩:=hm.born k y hc;rw[qp]at q;cases q
     have lK:k≠next:=λe=>by subst e;rw[hg]at hc;cases hc
     have vm:ag (Os++Vs) k=none:=by
      cases e1:ag (Os++Vs) k with
      |none=>rfl
      |some y=>rw[hL k y e1]at hc;cases hc
     have q1:gn k=none:=by
      rw[ig k hk vm];unfold oU;rw[aw hk];have:ag ((next,Obj.fact (fj l (jU fk T ps iB eK D)))::(Os++Vs)) k=none:=by show(if Nat.beq next k then _ else _)=_;rw[nW (mA lK)];exact vm
      rw[this,hc];rfl
     have hAk:ag rA.M k=none:=by
      cases e1:ag rA.M k with
      |none=>rfl
      |some y=>rw[eA k y e1]at q1;cases q1
     have q2:rD k=none:=by rw[hk3 k o_ hAk];unfold aY;rw[ao lK];exact q1
     rw[yj.dr k q2]at e;cases e
   have hmm:=aKc (next:=next+1) (Os:=Os) (cq:=cq) hm hg hO T6 ay.own ay.aA3 ay.keys (λb hb=>by
     obtain⟨k,x,o,cap,e1,e2⟩:=(hS b).1 hb;exact⟨k,x,o,cap,e1,hm.oC k _ e2⟩) ay.aA2 hm4 (by unfold aY;rw[aw rfl])
    (λk x e=>by
     unfold aY;by_cases lK:k=next
     ·subst lK;rw[aKf]at e;cases e
     ·rw[ao lK];exact Fq k x (T9 k x e)) Fs (A5 _) (λk x e=>by
     cases e1:ag Os k with
     |none=>rw[(ay.keys k).2 e1]at e;cases e
     |some y=>exact aA5 (ay.low k y (by rw[gM,e1])).1)
   have fin:=hK ι (.bool j.isNone) _ (Map.le.refl _) (.same rfl) hmm;subst Ua;cases hx:rB.ex with
   |normal=>rw[hx]at uK fin;exact⟨_,_,uK,fin⟩
   |ret=>rw[hx]at uK fin;exact⟨_,_,uK,fin⟩
   |exit id=>rw[hx]at uK fin;exact⟨_,_,uK,fin⟩
 ·cases ho
end
def Ft(D:Nat):Deferred:={ target:=.collected D,args:=#[]}
def aa.held(B:aa)(D:Nat):aa where
 G w:=B.G w/\w.heap[D]?=some (.deferred (some []))
 cO k:=B.cO k\/k=D
 ds:=Ft D::B.ds
 Fa:=B.Fa
 mp:=B.mp
 lt w k h hk:=by
  rcases hk with hk|rfl
  ·exact B.lt w k h.1 hk
  ·exact(yx.1 h.2).1
 dep w w' h h1 h2 h3 h4 h5:=⟨B.dep w w' h.1 h1 h2 h3 h4 λk hk=>h5 k (.inl hk),(h5 D (.inr rfl)).trans h.2⟩
section
variable{P:Program}{B:aa}{N next:Nat}
structure Ov(P:Program)(next N:Nat)(fr:aV)(Os:aH)(m:Map)(S:Nat->Prop)(T:Array Value):Prop where
 size:T.size=N
 jA:∀ t,ni m (bC fr t) (T.getD t undef)
 low:∀ k lc,m k=some lc->k<next
 set:∀ b,S b↔∃ k x o cap,ag Os k=some x/\m k=some (.at b o cap)
 born:∀ k x,ag Os k=some x->m k≠none
def aKh(P:Program)(Q:Exit->Act->World->Prop)(j:Option Code)(a:Act)(w:World):Prop:=
 match j with
 |none=>Q .normal a w
 |some c=>c.wpIn (FW none) 0 P Q a w
theorem aA6{fr:aV}{Os Vs cq:aH}{ι:Map}{cc:Nat->Option Obj}{a:Act}{w:World}{g:Operand}{gf:FuncId}{ca:aj}{ps:Array Tmp}{iB eK:Code}{j:Option Code}{Q:Exit->Act->World->Prop}
  (hf:e9 B ι (bC fr) N a) (hm:aM B ι cc w) (hL:cS cc (Os++Vs)) (hu:eD cc next) (dH:∀ k x,ag Os k=some x->x.owns=true) (pa:∀ k x,ag Vs k=some x->x.gj=true)
  (hg:fY (bC fr) g=.func (.func gf) #[] ca.toArray) (aKi:Mo g=true) (eG:gk P gf=true)
  (jQ:∀ k,ag cq k=none↔ag Os k=none) (qK:∀ k x,ag cq k=some x->x.owns=true) (dq:∀ k x,ag (cq++Vs) k=some x->fP next x)
  (yw:∀(fk l D:Nat) (W1:World) (S:Nat->Prop),Ov P next N fr Os ι S a.tmps->∀(κ:Map) (c:Nat->Option Obj) (W:World) (eY:aj),aM (pB W1 l S ι) κ c W->cS c ((next,.fact (fj l (jU fk a.tmps ps iB eK D)))::(Os++Vs))->eD c (next+1)->bI (aG κ) ca eY->Calls P gf (.func (.yield l) #[] #[]::eY).toArray W λe W'=>∃ v tw c',e=.returned v/\Map.le κ tw/\aM (pB W1 l S ι) tw c' W'/\cS c' ((next,.fact (fj l (Da (jU fk a.tmps ps iB eK D) j)))::(cq++Vs))/\∀ k,k<next->c k=none->c' k=none)
  (hQ:∀ D bY w',(∀ k,B.cO k->k≠D)->w.heap.size<=D->e9 (B.held D) ι (bC fr) N { a with defers:=Ft D::a.defers }->aM (B.held D) ι bY w'->cS bY (cq++Vs)->eD bY next->aKh P Q j { a with defers:=Ft D::a.defers } w'):(Code.rangeFunc g ps iB eK).wpIn (FW none) 0 P Q a w:=by
 have hO:cS cc Os:=λk x e=>hL k x (by rw[gM,e]);have Ot:∀ k x,ag (Os++Vs) k=some x->x.owns=true->ag Os k=some x:=λk x e hx=>by
  rw[gM]at e;cases e1:ag Os k with
  |some y=>rw[e1]at e;exact e
  |none=>
   rw[e1]at e;have:=pa k x e;cases x<;>simp[Obj.owns,Obj.gj]at hx this
 have aA7:∀ k F,ag (Os++Vs) k≠some (.fact F):=λk F e=>by
  rw[gM]at e;cases e1:ag Os k with
  |some y=>rw[e1]at e;injection e with e;subst e;have:=dH k _ e1;cases this
  |none=>rw[e1]at e;have:=pa k _ e;cases this
 have aKj:∀ k lc,ι k=some lc->k<next:=λk lc e=>by
  rcases eC k next with h|h
  ·exact h
  ·rw[hm.dr k (hu k h)]at e;cases e
 have Ev:=X5 hf aKi (by rw[hg];rfl);rw[hg]at Ev;obtain⟨kf,eY,he,h1,h2⟩:=Ev.B6;have ef:kf=#[]:=by
  cases j7:kf.toList with
  |nil=>exact HU.1 j7
  |cons _ _=>rw[j7]at h1;cases h1
 subst ef;refine wpIn_rangeFunc ?_;intro fk _;obtain⟨W1,KA⟩:∃ W1,(w.alloc (.deferred (some []))).alloc (.loop (jU fk a.tmps ps iB eK w.heap.size))=W1:=⟨_,rfl⟩;have CD:=run_enterLoop_outer (P:=P) (w:=w) fk a.tmps ps iB eK;rw[show({ state:=.ready,pending:=none,fn:=fk,tmps:=a.tmps,params:=ps,assign:=iB,body:=eK,defers:=w.heap.size }:Loop)=jU fk a.tmps ps iB eK w.heap.size from rfl,KA]at CD;have pR:Below w.heap.size w W1:=by rw[<-KA];exact((Below.refl _ w).alloc (bh _) _).alloc s_ _
 have aA8:W1.heap.size=w.heap.size+2:=by rw[<-KA];simp
 have hL1:W1.heap[w.heap.size+1]?=some (.loop (jU fk a.tmps ps iB eK w.heap.size)):=by rw[<-KA];have:=World.alloc_heap_new (w.alloc (.deferred (some []))) (.loop (jU fk a.tmps ps iB eK w.heap.size));rwa[World.size_alloc]at this
 have hK1:W1.heap[w.heap.size]?=some (.deferred (some [])):=by rw[<-KA];exact(Ri _ _ _ s_).trans (World.alloc_heap_new w _)
 obtain⟨S,hS⟩:∃ S:Nat->Prop,∀ b,S b↔∃ k x o cap,ag Os k=some x/\ι k=some (.at b o cap):=⟨_,λb=>Iff.rfl⟩;have Ub:∀ b,S b->b<w.heap.size/\¬B.cO b:=λb hb=>by obtain⟨k,x,o,cap,e1,e2⟩:=(hS b).1 hb;exact hm.own k x b o cap (hO k x e1) (dH k x e1) e2
 have aA9:∀ k x,ag (Os++Vs) k=some x->∃ lc,ι k=some lc:=λk x e=>by obtain⟨lc,q,_⟩:=hm.born k x (hL k x e);exact⟨lc,q⟩
 refine⟨w.heap.size+1,[{ target:=.collected w.heap.size,args:=#[]}],W1,{ target:=.fn (.func gf) eY,args:=#[.func (.yield (w.heap.size+1)) #[] #[]]},W1,gf,#[.func (.yield (w.heap.size+1)) #[] #[]]++eY,W1,CD,?_,λ_ _=>trivial,?_,λe=>(by cases e),?_⟩
 ·simp only[resolve,he];simp[go_sem]
 ·have:=Mt (P:=P) eG (#[.func (.yield (w.heap.size+1)) #[] #[]]++eY) W1;simpa[invoke,go_sem]using this
 ·have hmW:=hm.call pR
  -- the aUH memory
  have cW:aM (pB W1 (w.heap.size+1) S ι) ι (λk=>match ag (Os++Vs) k with|some x=>some x|none=>(cc k).map λ_=>.dead) W1:=by
   refine Oi (L:=Os++Vs) hmW hL (λ_ _ _=>rfl) (λk x lc _ _ h=>h) ⟨.refl _,rfl,rfl,bh _,λ_ _ _ _=>rfl⟩ (λk x b o cap e hx hl hF=>?_) (bh _) (λk e=>?_) (λk x e=>?_) (λk F e=>absurd e (aA7 k F)) (λ_ _ _ _ _ _ h=>h) (Map.le.refl _)
   ·exact hF.2.1 ((hS b).2 ⟨k,x,o,cap,Ot k x e hx,hl⟩)
   ·split at e
    ·cases e
    ·cases hc:cc k with
     |none=>exact hm.dr k hc
     |some y=>rw[hc]at e;cases e
   ·split at e
    ·rename_i y hy;injection e with e;subst e;exact .inl hy
    ·cases hc:cc k with
     |none=>rw[hc]at e;cases e
     |some y=>
      rw[hc]at e;injection e with e;obtain⟨lc,q,_⟩:=hm.born k y hc;exact .inr ⟨e.symm,lc,q⟩
  generalize gm:(λk=>match ag (Os++Vs) k with|some x=>some x|none=>(cc k).map λ_=>Obj.dead:Nat->Option Obj)=c1 at cW;have KB:ag (Os++Vs) next=none:=by
   cases e:ag (Os++Vs) next with
   |none=>rfl
   |some x=>have:=hL _ _ e;rw[hu next (bh _)]at this;cases this
  have aBa:∀ k,next<=k->c1 k=none:=λk hk=>by
   rw[<-gm];have:ag (Os++Vs) k=none:=by
    cases e:ag (Os++Vs) k with
    |none=>rfl
    |some x=>have:=hL _ _ e;rw[hu k hk]at this;cases this
   simp only[this,hu k hk,aBb]
  have aKk:∀ k x,ag (Os++Vs) k=some x->c1 k=some x:=λk x e=>by rw[<-gm];simp only[e]
  have aKl:∀ k F,c1 k≠some (.fact F):=λk F e=>by
   rw[<-gm]at e;dsimp only at e;split at e
   ·rename_i y hy;injection e with e;subst e;exact aA7 k F hy
   ·cases hc:cc k with
    |none=>rw[hc]at e;cases e
    |some y=>rw[hc]at e;cases e
  have dx:=cW.add (k:=next) (x:=.fact (fj (w.heap.size+1) (jU fk a.tmps ps iB eK w.heap.size))) (l:=.val undef) (aBa next (bh _)) ⟨undef,rfl,hL1⟩ n_
   (λF v b e _ hF jj y o' aO hj hy hl=>by
    injection e with e;subst e;have hF:b=w.heap.size+1:=hF;obtain⟨q1,q2⟩:=cW.own jj y b o' aO hj hy hl;have:∃ lc,ι jj=some lc:=⟨_,hl⟩;have fK:b<w.heap.size:=by
     refine(Ub b ?_).1;have pC:=hj;rw[<-gm]at pC;dsimp only at pC;split at pC
     ·rename_i z hz;injection pC with pC;subst pC;exact(hS b).2 ⟨jj,z,o',aO,Ot jj z hz hy,hl⟩
     ·cases hc:cc jj with
      |none=>rw[hc]at pC;cases pC
      |some z=>rw[hc]at pC;injection pC with pC;subst pC;cases hy
    omega)
   n_ (λF e _=>⟨by injection e with e;exact⟨_,e.symm⟩,λjj F' hj=>absurd hj (aKl jj F')⟩)
  have kW:Map.le ι (dB ι next (.val undef)):=gC (hm.dr next (hu next (bh _)));have kt:Ov P next N fr Os ι S a.tmps:=⟨hf.size,hf.slot,aKj,hS,λk x e h=>by obtain⟨lc,q⟩:=aA9 k x (by rw[gM,e]);rw[h]at q;cases q⟩
  have iH:=yw fk (w.heap.size+1) w.heap.size W1 S kt (dB ι next (.val undef)) (aY c1 next (.fact (fj (w.heap.size+1) (jU fk a.tmps ps iB eK w.heap.size)))) W1 eY.toList dx
   (λk x e=>by
    unfold aY;by_cases hk:k=next
    ·subst hk;rw[aw rfl];have:ag ((k,Obj.fact (fj (w.heap.size+1) (jU fk a.tmps ps iB eK w.heap.size)))::(Os++Vs)) k=some (.fact (fj (w.heap.size+1) (jU fk a.tmps ps iB eK w.heap.size))):=by show(if Nat.beq k k then _ else _)=_;simp
     rw[this]at e;exact e
    ·rw[ao hk];have:ag ((next,Obj.fact (fj (w.heap.size+1) (jU fk a.tmps ps iB eK w.heap.size)))::(Os++Vs)) k=ag (Os++Vs) k:=by show(if Nat.beq next k then _ else _)=_;rw[nW (mA hk)];rfl
     rw[this]at e;exact aKk k x e)
   (λk hk=>by unfold aY;rw[ao o_];exact aBa k o_) (by
    have:bI (aG ι) ca eY.toList:=by simpa using h2
    exact nR kW this)
  have aKm:(.func (.yield (w.heap.size+1)) #[] #[]::eY.toList:aj).toArray=#[.func (.yield (w.heap.size+1)) #[] #[]]++eY:=by apply GG;simp
  rw[aKm]at iH;refine Mu.2 (iH.mono ?_)
  rintro e W2 ⟨v,tw,c',rfl,uf,bj,iW,gD⟩
  have Oj:c' next=some (.fact (fj (w.heap.size+1) (Da (jU fk a.tmps ps iB eK w.heap.size) j))):=iW next _ (by show(if Nat.beq next next then _ else _)=_;simp);have hO2:ag Os next=none:=by
   rw[gM]at KB;cases e:ag Os next with
   |none=>rfl
   |some x=>rw[e]at KB;cases KB
  have hV2:ag Vs next=none:=by rw[gM,hO2]at KB;exact KB
  have aKn:ag (cq++Vs) next=none:=by rw[gM,(jQ next).2 hO2];exact hV2
  have hJ:cS c' (cq++Vs):=λk x e=>iW k x (by
   by_cases hk:k=next
   ·subst hk;rw[aKn]at e;cases e
   ·show(if Nat.beq next k then _ else _)=_;rw[nW (mA hk)];exact e)
  have uK:=run_endLoop (P:=P) (Bn bj Oj) (by cases j<;>simp[Da]);refine⟨j,_,uK,?_⟩
  -- the marks of the list
  have Uc:∀ k x,ag (cq++Vs) k=some x->∃ y,ag (Os++Vs) k=some y/\(x.owns=true->y.owns=true/\ag Os k=some y):=λk x e=>by
   rw[gM]at e;cases e1:ag cq k with
   |some z=>
    cases e2:ag Os k with
    |none=>rw[(jQ k).2 e2]at e1;cases e1
    |some y=>exact⟨y,by rw[gM,e2],λ_=>⟨dH k y e2,rfl⟩⟩
   |none=>
    rw[e1]at e;have e2:=(jQ k).1 e1;refine⟨x,by rw[gM,e2];exact e,λhx=>?_⟩;have:=pa k x e;cases x<;>simp[Obj.owns,Obj.gj]at hx this
  have aBc:∀ k x,ag (cq++Vs) k=some x->ι k=tw k:=λk x e=>by obtain⟨y,e1,_⟩:=Uc k x e;obtain⟨lc,q⟩:=aA9 k y e1;rw[q,uf k lc (kW k lc q)]
  have aKo:∀ k,k<next->∀ lc,tw k=some lc->ι k=some lc:=λk hk lc e=>by
   cases q:ι k with
   |some y7=>have:=uf k y7 (kW k y7 q);rw[e]at this;exact this.symm
   |none=>
    exfalso;have y8:cc k=none:=by
     cases hc:cc k with
     |none=>rfl
     |some y=>obtain⟨y7,q',_⟩:=hm.born k y hc;rw[q]at q';cases q'
    have vm:ag (Os++Vs) k=none:=by
     cases e1:ag (Os++Vs) k with
     |none=>rfl
     |some y=>rw[hL k y e1]at y8;cases y8
    have:c' k=none:=gD k hk (by unfold aY;rw[ao o_,<-gm];simp only[vm,y8,aBb])
    rw[bj.dr k this]at e;cases e
  have tv:=Og (Bn bj Oj);have hDS:¬S w.heap.size:=λh=>by have:=(Ub _ h).1;omega
  have aBd:∀ b,b<w.heap.size+2->¬S b->b≠w.heap.size+1->W2.heap[b]?=W1.heap[b]?:=λb hb hs hl=>bj.base.2.2.2.2 b (by rw[aA8];exact hb) hs hl;have aUI:w.heap.size+2<=W2.heap.size:=by rw[<-aA8];exact bj.base.2.2.2.1
  have Ud:∀(o:Go.Obj) b,b≠w.heap.size+1->(W2.putObj (w.heap.size+1) o).heap[b]?=W2.heap[b]?:=λo b hb=>aAZ hb;have HV:∀ k,B.cO k->k≠w.heap.size:=λk hk=>by have:=B.lt w k hm.base hk;omega
  have aBe:∀ k F,ag (cq++Vs) k≠some (.fact F):=λk F e=>by
   rw[gM]at e;cases e1:ag cq k with
   |some y=>rw[e1]at e;injection e with e;subst e;have:=qK k _ e1;cases this
   |none=>rw[e1]at e;have:=pa k _ e;cases this
  have yj:∀ o:Go.Obj,aM (B.held w.heap.size) ι (λk=>match ag (cq++Vs) k with|some x=>some x|none=>(cc k).map λ_=>.dead) (W2.putObj (w.heap.size+1) o):=λo=>by
   refine Oi (L:=cq++Vs) bj hJ aBc (λk x lc e q ho=>?_) ⟨?_,?_⟩ (λk x b oo cap e hx hl hF=>?_) (by rw[vF];exact bh _) (λk e=>?_) (λk x e=>?_) (λk F e=>absurd e (aBe k F)) (λk F _ _ e=>absurd e (aBe k F)) hm.oC
   ·have nS:∀ F,x≠.fact F:=λF ex=>by
     subst ex;rw[gM]at e;cases e1:ag cq k with
     |some y=>rw[e1]at e;injection e with e;subst e;have:=qK k _ e1;cases this
     |none=>rw[e1]at e;have:=pa k _ e;cases this
    exact Oh tv (ho.below aKo (dq k x e)) (λF ef=>absurd ef (nS F)) (by rw[vF];exact bh _) (λb _ _ _ _=>(Nat.decEq b (w.heap.size+1)).casesOn (λhb=>.inr (Ud o b hb)) λhb=>.inl hb) λF v b ef=>absurd ef (nS F)
   ·refine B.dep w _ hm.base ?_ ?_ ?_ ?_ λk hk=>?_
    ·exact bj.base.1.trans pR.os
    ·exact bj.base.2.1.trans pR.tape
    ·exact bj.base.2.2.1.trans pR.output
    ·rw[vF];omega
    ·have hkl:=B.lt w k hm.base hk;rw[Ud o k o_,aBd k o_ (λhs=>(Ub k hs).2 hk) o_];exact pR.block k hkl
   ·rw[Ud o _ o_,aBd _ o_ hDS o_];exact hK1
   ·obtain⟨y,e1,e2⟩:=Uc k x e;obtain⟨hy,e3⟩:=e2 hx;have cg:ι k=some (.at b oo cap):=(aBc k x e).trans hl;have q:=hm.own k y b oo cap (hO k y e3) hy cg;rcases hF with hF|rfl
    ·exact q.2 hF
    ·omega
   ·split at e
    ·cases e
    ·cases hc:cc k with
     |none=>exact hm.dr k hc
     |some y=>rw[hc]at e;cases e
   ·split at e
    ·rename_i y hy;injection e with e;subst e;exact .inl hy
    ·cases hc:cc k with
     |none=>rw[hc]at e;cases e
     |some y=>
      rw[hc]at e;injection e with e;obtain⟨lc,q,_⟩:=hm.born k y hc;exact .inr ⟨e.symm,lc,q⟩
  have fin:=hQ w.heap.size _ _ HV (bh _) ⟨by show Ft _::a.defers=Ft _::B.ds;rw[hf.defers],hf.size,hf.slot⟩ (yj (.loop { Da (jU fk a.tmps ps iB eK w.heap.size) j with state:=.exhausted })) (λk x e=>by simp only[e]) (λk hk=>by
   have:ag (cq++Vs) k=none:=by
    cases e:ag (cq++Vs) k with
    |none=>rfl
    |some x=>obtain⟨y,e1,_⟩:=Uc k x e;have:=hL _ _ e1;rw[hu k hk]at this;cases this
   simp only[this,hu k hk,aBb])
  cases j with
  |none=>exact fin
  |some cj=>exact fin
theorem aBf{D:Nat}{ι:Map}{c:Nat->Option Obj}{W:World}(h:aM (B.held D) ι c W)(nS:∀ F,¬B.Fa F)(hD:∀ k,B.cO k->k≠D):aM B ι c (W.putObj D (.deferred none)):=by
 have tv:=aJ8 h.base.2;have ne:∀ b,b≠D->(W.putObj D (.deferred none)).heap[b]?=W.heap[b]?:=λb hb=>aAZ hb;refine⟨B.dep W _ h.base.1 ⟨rfl,bh _⟩ rfl rfl (by rw[vF];exact bh _) λk hk=>ne k (hD k hk),h.dr,?_,?_,h.inj,?_,?_,h.fa,h.one,h.oC⟩
 ·intro k x hk;obtain⟨l,q1,q2⟩:=h.born k x hk;refine⟨l,q1,Oh tv q2 (λF e=>?_) (by rw[vF];exact bh _) (λb _ _ _ _=>(Nat.decEq b D).casesOn (λhb=>.inr (ne b hb)) λhb=>.inl hb) λF v b _ _ _=>(Nat.decEq b D).casesOn (λhb=>.inr (ne b hb)) λhb=>.inl hb⟩;subst e;cases hr:F.rc with
  |false=>rfl
  |true=>exact absurd (h.fa k F hk hr) (nS F)
 ·intro k x b o cap hk hx hl;rw[vF];exact⟨(h.own k x b o cap hk hx hl).1,λhF=>(h.own k x b o cap hk hx hl).2 (.inl hF)⟩
 ·intro k j x F b o cap v hk hx hl hj hv hF;obtain⟨lc,q1,v',q2,q3⟩:=h.born j _ hj;rw[hv]at q1;injection q1 with q1;subst q1;injection q2 with q2;subst q2;have hr:F.rc=false:=by
   cases hr:F.rc with
   |false=>rfl
   |true=>exact absurd (h.fa j F hj hr) (nS F)
  refine h.apart k j x F b o cap v hk hx hl hj hv ((F.soft hr v W _ q3 (by rw[vF];exact bh _) λk2 fF cs ty f hc=>?_).2 b hF);rw[ne k2 (λe=>by subst e;exact tv _ _ _ hc)];exact hc
 ·intro k x b o cap hk hx hl;rw[vF];exact h.seen k x b o cap hk hx hl
theorem aKp{D:Nat}{fn:Func}{c:Code}{fr:aV}{M:aH}{r:lZ}{v:Value}{R:Ending->World->Prop}(uB:∀ B,ah P B N c fr M next r)(hex:(match r.ex with|.exit _=>false|_=>true)=true)(hv:AM P fn r.fr r.M=some v)
  {ι:Map} {cc:Nat->Option Obj} {a:Act} {w:World} (hf:e9 (B.held D) ι (bC fr) N a) (hm:aM (B.held D) ι cc w) (ha:cS cc M) (hu:eD cc next) (mE:B.ds=[]) (nS:∀ F,¬B.Fa F) (hD:∀ k,B.cO k->k≠D)
  (hR:∀ au v' w',aG au v v'->B.G w'->R (.returned v') w'):c.wpIn (FW none) 0 P (bodyPostM (FW none) 0 P fn R) a w:=by
 refine uB _ none ι cc a w _ hf hm ha hu λau bY a' w' hle oG bj iW _ _ _=>?_;have dx:=aBf bj nS hD;obtain⟨v',hc,pN⟩:=ML (fn:=fn) (B:=B) (N:=N) (a:={ a' with defers:=[]}) ⟨mE.symm,oG.size,oG.slot⟩ dx iW hv;have hl:LeavesInM (FW none) 0 P fn a'.tmps R a'.defers .returning w':=by rw[oG.defers];show LeavesInM (FW none) 0 P fn a'.tmps R (Ft D::B.ds) .returning w';rw[mE];exact⟨λe=>(by cases e),.inl ⟨D,_,rfl,run_takeDeferred bj.base.2,v',pN,hR au v' _ hc dx.base⟩⟩
 cases hx:r.ex with
 |normal=>exact hl
 |ret=>exact hl
 |exit id=>rw[hx]at hex;cases hex
end
def y9:Code->Nat->Option Code
 |.region i ops d,k=>if Nat.beq i k then some (.region i ops d)else none
 |.seq x y,k=>match y9 x k with|some o=>some o|none=>y9 y k
 |.cond _ x y,k=>match y9 x k with|some o=>some o|none=>y9 y k
 |.block _ b,k=>y9 b k
 |.loop b,k=>y9 b k
 |.scope b,k=>y9 b k
 |.rangeFunc _ _ x y,k=>match y9 x k with|some o=>some o|none=>y9 y k
 |_,_=>none
def KC(fn:Func)(k:Nat):Code:=match fn.body with|some c=>(match y9 c k with|some o=>o|none=>.skip)|none=>.skip
def Db:Code->Option Code
 |.seq x y=>match Db x with|some o=>some o|none=>Db y
 |.cond _ x y=>match Db x with|some o=>some o|none=>Db y
 |.block _ b=>Db b
 |.loop b=>Db b
 |.scope b=>Db b
 |.rangeFunc g p x y=>some (.rangeFunc g p x y)
 |_=>none
def vJ(fn:Func):Code:=match fn.body with|some c=>(match Db c with|some o=>o|none=>.skip)|none=>.skip
def HW:Code->Code|.rangeFunc _ _ x _=>x|c=>c
def HX:Code->Code|.rangeFunc _ _ _ y=>y|c=>c
def bX(k:Nat):Value:=.pointer (some ⟨k,0,some 7⟩)
section
variable{P:Program}{B:aa}{N next:Nat}
theorem nH{L:aH}{p:Nat×Obj->Bool}(h:L.all p=true){k:Nat}{x:Obj}(hk:ag L k=some x):p (k,x)=true:=bf.1 h _ (j4 hk)
theorem Ue:∀{L:aH} {k:Nat},ag L k=none↔k∉L.map (·.1)
 |[],k=>by simp[ag]
 |(j,x)::L,k=>by
  by_cases h:j=k
  ·subst h;simp[ag]
  ·have e:ag ((j,x)::L) k=ag L k:=by show(if Nat.beq j k then _ else _)=_;rw[nW h];rfl
   rw[e,Ue];simp[mA h]
theorem HY{L L':aH}(h:L'.map (·.1)=L.map (·.1))(k:Nat):ag L' k=none↔ag L k=none:=by rw[Ue,Ue,h]
def oq(next:Nat)(p:Nat×Obj):Bool:=p.2.cells.all (nr next)
theorem Dc{next:Nat}{p:Nat×Obj}(h:oq next p=true):fP next p.2:=λv hv=>bf.1 h v hv
theorem Ow{ps:Array Tmp}{iB eK:Code}{fr:aV}{Os Vs cq:aH}{ew:aj}{j:Option Code}(cN:ew.all flat=true)(hlen:ew.length=ps.size)(yu:(ps.toList.all λp=>Nat.blt p N)=true)
  (dq:((Os++Vs).all λp=>Nat.blt p.1 next&&oq (next+1) p)=true) (Fu:(cq.all (oq (next+1)))=true) (dH:(Os.all λp=>p.2.owns)=true) (qK:(cq.all λp=>p.2.owns)=true) (pa:(Vs.all λp=>p.2.gj)=true) (jQ:cq.map (·.1)=Os.map (·.1))
  {rA rB:lZ} (hA:∀ B,ah P B N iB (Ol (ps.toList.zip ew) fr) (Os++Vs) (next+1) rA) (T8:rA.ex=.normal) (hAn:Nat.ble (next+1) rA.next=true) (Oq:ag rA.M next=none)
  (hB:∀ B,ah P B N eK rA.fr rA.M rA.next rB) (T9:∀ k x,ag cq k=some x->ag rB.M k=some x) (Ua:exJ rB.ex=j):On P next N ps iB eK fr Os Vs cq ew j where
 flat:=bf.1 cN
 len:=hlen
 jA p hp:=by have:=bf.1 yu p (by simpa using hp);simpa[AF]using this
 low k x h:=by have:=nH dq h;simp only[db,AF]at this;exact⟨this.1,Dc this.2⟩
 aA2 k x h:=Dc (nH Fu h)
 own k x h:=nH dH h
 aA3 k x h:=nH qK h
 view k x h:=nH pa h
 keys:=HY jQ
 run:=⟨rA,rB,hA,T8,rm hAn,Oq,hB,T9,Ua⟩
theorem aKq{fn:Func}{args args':aj}{ι:Map}(de:bI (aG ι) args args')(hN:N=args.length+(fn.ntmps-args.length))(mE:B.ds=[]):
  e9 B ι (bC (jA 0 args)) N { tmps:=args'.toArray++Array.replicate (fn.ntmps-args'.toArray.size) undef,defers:=[]}:=by
 refine⟨mE.symm,by simp[hN,de.length],λt=>?_⟩;rcases MM de 0 t (List.replicate (fn.ntmps-args'.length) undef)with h|h
 ·simp only[kU,qt,GN]at h;have e:(args'.toArray++Array.replicate (fn.ntmps-args'.toArray.size) undef).getD t undef=(args'++List.replicate (fn.ntmps-args'.length) undef).getD t undef:=by simp[pQ,Ep,<-Array.getElem?_toList]
  dsimp only;rw[e];exact h
 ·exact .inl h
theorem aBg{D:Nat}{fn:Func}{fr:aV}{M:aH}{v:Value}{R:Ending->World->Prop}(hv:AM P fn fr M=some v)
  {ι:Map} {cc:Nat->Option Obj} {a:Act} {w:World} (hf:e9 (B.held D) ι (bC fr) N a) (hm:aM (B.held D) ι cc w) (ha:cS cc M) (mE:B.ds=[]) (nS:∀ F,¬B.Fa F) (hD:∀ k,B.cO k->k≠D)
  (hR:∀ au v' w',aG au v v'->B.G w'->R (.returned v') w'):LeavesInM (FW none) 0 P fn a.tmps R a.defers .returning w:=by
 have dx:=aBf hm nS hD;obtain⟨v',hc,pN⟩:=ML (fn:=fn) (B:=B) (N:=N) (a:={ a with defers:=[]}) ⟨mE.symm,hf.size,hf.slot⟩ dx ha hv;rw[hf.defers];show LeavesInM (FW none) 0 P fn a.tmps R (Ft D::B.ds) .returning w;rw[mE];exact⟨λe=>(by cases e),.inl ⟨D,_,rfl,run_takeDeferred hm.base.2,v',pN,hR ι v' _ hc dx.base⟩⟩
theorem aBh{f:FuncId}{fn:Func}{c:Code}{args:aj}{v:Value}(hf:P.funcs[f]?=some fn)(hb:fn.body=some c)(hN:N=args.length+(fn.ntmps-args.length))(de:args.all flat=true)
  (h:∀ w a,e9 (aa.at w) (λ_=>none) (bC (jA 0 args)) N a->aM (aa.at w) (λ_=>none) (λ_=>none) w->c.wpIn (FW none) 0 P (bodyPostM (FW none) 0 P fn λe w'=>e=.returned v/\Below w.heap.size w w') a w):aD P f args v:=by
 intro w;rw[bf]at de;exact Mu.1 (callsIn_of_wp_marks (F:=FW none) (n:=0) hf hb trivial (h w _ (aKq (kg de) hN rfl) (qB w)))
theorem aBi{f gf:FuncId}{fn:Func}{args:aj}{cells:aj}{ty:TypeId}{o:Oper}{x:Operand}{k:Nat}(gv:P.follows .mixedOrders=true)(hf:P.funcs[f]?=some fn)(ho:dp o.op=some x)(eG:gk P f=true)(n:Nat)
  (rs:∀ w,bE P (aa.at w) (args.length+(fn.ntmps-args.length)))
  (h:∀ w,nt (fQ (P:=P) fn n args [] 0 (rs w)) [(0,.aI cells ty)]=nu (fQ fn n args [] 0 (rs w)) (.func (.func gf) #[] #[.pointer (some ⟨0,0,some 7⟩)]) [(0,.aI cells ty)]) (de:args.all flat=true) (cN:cells.all flat=true) :
  cA P B o (.func (.func f) #[] #[]::args) [(k,none)] (.func (.func gf) #[] #[.pointer (some ⟨k,0,some 7⟩)]) [(k,.aI cells ty)]:=by
 have:=jB (P:=P) (B:=B) (o:=o) (x:=x) (f:=f) (fi:=[]) (args:=args) (ca:=[]) (need:=[(k,none)]) (val:=.func (.func gf) #[] #[.pointer (some ⟨k,0,some 7⟩)]) (cR:=[(k,.aI cells ty)]) ho eG ?_
 ·simpa using this
 ·intro ι c w hm hn args' ha;have hk:c k=none:=hn (k,none) (aT ..);rw[bf]at de cN;have e:args'=args:=nj (by simpa using ha) de;subst e;refine rJ gv hf rfl n (h w) (kg de) (qB w) n_ (λ_ _=>rfl) λau bY v' w' _ hc bj dz=>?_;obtain⟨kf,eY,rfl,h1,h2⟩:=hc.B6;have h0:bY 0=some (.aI cells ty):=dz (0,_) (aT ..);obtain⟨l,q1,b,bt,rfl,q2,q3⟩:=bj.born 0 _ h0;obtain⟨q4,q5⟩:=bj.own 0 _ b 0 0 h0 rfl q1;have hbn:w.heap.size<=b:=Ox q5;have ec:bt=cells:=nj q2 cN;subst ec;have ef:kf=#[]:=by
   cases j7:kf.toList with
   |nil=>exact HU.1 j7
   |cons _ _=>rw[j7]at h1;cases h1
  subst ef;have gT:eY.toList=[.pointer (some ⟨b,0,none⟩)]:=by
   have h2:bI (aG au) [.pointer (some ⟨0,0,some 7⟩)] eY.toList:=h2;generalize eY.toList=l at h2;cases h2 with
   |cons p q=>
    cases q;obtain⟨b',o',aO,e1,e2⟩:=p.yg rfl;rw[q1]at e1;injection e1 with e1;injection e1 with e1 e3 _;subst e1;subst e3;rw[e2];simp
  have dx:=hm.new (k:=k) (x:=.aI bt ty) (l:=.at b 0 0) bj.base hk ⟨b,bt,rfl,kg cN,q3⟩ (λb' o' aO _ e=>by injection e with e _ _;subst e;exact⟨hbn,q4⟩) n_ rfl;refine⟨dB ι k (.at b 0 0),_,rfl,gC (hm.dr k hk),?_,dx⟩;refine .fn .nil ?_;rw[gT];exact .cons (.ptr (fE _ _ _)) .nil
theorem Fv{gf:FuncId}{Oy:Func}{ca:aj}{W1 W:World}{l:Nat}{S:Nat->Prop}{m κ:Map}{c:Nat->Option Obj}{eY:aj}{M M':aH}{v:Value}(gv:P.follows .mixedOrders=true)(hf:P.funcs[gf]?=some Oy)
  (hN:N=(ca.length+1)+(Oy.ntmps-(ca.length+1))) (n:Nat) {rs:bE P (pB W1 l S m) N} (hm:aM (pB W1 l S m) κ c W) (ha:cS c M) (hu:eD c (next+1)) (gT:bI (aG κ) ca eY)
  (h:nt (fQ (P:=P) Oy n (.func (.yield l) #[] #[]::ca) M (next+1) rs) M'=nu (fQ Oy n (.func (.yield l) #[] #[]::ca) M (next+1) rs) v M') :
  Calls P gf (.func (.yield l) #[] #[]::eY).toArray W λe W'=>∃ v tw c',e=.returned v/\Map.le κ tw/\aM (pB W1 l S m) tw c' W'/\cS c' M'/\∀ k,k<next->c k=none->c' k=none:=by
 refine R2 gv hf (by simpa using hN) n h (.cons (.same rfl) gT) hm ha hu λau bY v' w' hle hc bj dz hk=>⟨v',au,bY,rfl,hle,bj,λk x e=>dz (k,x) (j4 e),λk gD y8=>?_⟩;rw[hk k o_ (by
  cases e:ag M k with
  |none=>rfl
  |some x=>rw[ha k x e]at y8;cases y8)]
 exact y8
end
end Go.Proofs.YtjjefbkbljlgdaaGreatDoor
