/- Weights of solids: the proof of MeasureWeightsCardSaid (the law's function answers true at every record and all densities it can be given; theorem measureWeights_card, last part), part 2 of 7; no condition. -/
import Derived.Test.YtmocejjfkdcgkaaGreatDoorMW1
namespace Go.Proofs.YtmocejjfkdcgkaaGreatDoor
open Go Go.RowKit Tryz
abbrev q_:=List (Nat×Option Obj)
abbrev g_:=Nat->Option Obj
variable{off cc k1 n2 k2 D m1 m2:Nat}{w w':h_}{ι κ az bX:Map}{f:FuncId}{ms:aL}{ty:TypeId}{xs args ca cells' args' post:ak}{v' va res u':i_}{fn:Func}{Q:Ending->World->Prop}{x1 x2:Obj}{cur:p_}
section
variable{P:j_}{B:aa}{N:Nat}
theorem jR.aJA{dP:Map}{w0 w1:h_}{l:pR}{x:Obj}(h0:jR az w0 l x)(h1:jR bX w1 l x)(wJ:Map.le az bX)(FI:Map.le az dP):jR dP w1 l x:=by
 cases x with
 |aM cells ty=>
  obtain⟨b,cs,e1,e2,_⟩:=h0;obtain⟨b',bL,DD,Dt,Du⟩:=h1;rw[Ft Dt (oM wJ e2)]at Du;rw[e1]at DD;injection DD with DD _ _;subst DD;exact⟨b,cs,e1,oM FI e2,Du⟩
 |row cells ty size=>
  rcases h0 with h0|⟨b,cap,cur,e1,e2,e3,e4,e5⟩
  ·exact .inl h0
  ·rcases h1 with h1|⟨b',aU,gn,DD,Dt,Du,e4',e5'⟩
   ·exact .inl h1
   ·refine .inr ⟨b',aU,gn,DD,Dt,Du,e4',?_⟩;rw[Ft e5' (oM wJ e5)];exact oM FI e5
 |view cells=>
  rcases h0 with h0|⟨b,o,cap,cs,e1,e2,e3⟩
  ·exact .inl h0
  ·rcases h1 with h1|⟨b',o',aU,bL,DD,Dt,Du⟩
   ·exact .inl h1
   ·refine .inr ⟨b',o',aU,bL,DD,?_,Du⟩;rw[Ft Dt (oM wJ e2)];exact oM FI e2
 |fact F=>exact h1
 |dead=>trivial
def mo(ι:Map)(next:Nat)(σ:List (Option Nat)):Map:=λk=>if k<next then ι k else match σ[k-next]? with
 |some (some m)=>ι m
 |some none=>some .nil
 |none=>none
def BU(c0:g_)(next:Nat)(X:List Obj):g_:=λk=>if k<next then c0 k else X[k-next]?
def marks:Nat->List Obj->aL
 |_,[]=>[]
 |k,x::l=>(k,x)::marks (k+1) l
def dY:List (Option Nat)->List Obj->aL
 |some m::σ,x::l=>(m,x)::dY σ l
 |none::σ,_::l=>dY σ l
 |_,_=>[]
def Obj.isNil:Obj->Bool
 |.row [] _ _=>true
 |.view []=>true
 |_=>false
def xT(next:Nat)(σ:List (Option Nat)):Value->Value
 |.slice (some ad) n c=>if Nat.ble next ad.block&&nu ad then(match σ[ad.block-next]? with
   |some (some m)=>.slice (some ⟨m,ad.off,some 7⟩) n c
   |some none=>.slice none 0 0
   |none=>.slice (some ad) n c)else .slice (some ad) n c
 |v=>v
def H0(next:Nat)(σ:List (Option Nat)):Value->Bool
 |.slice (some ad) n c=>if Nat.ble next ad.block&&nu ad then(match σ[ad.block-next]? with
   |some (some _)=>true
   |some none=>Nat.beq ad.off 0&&(Nat.beq n 0&&Nat.beq c 0)
   |none=>false)else om next (.slice (some ad) n c)
 |v=>om next v
def gZ(next:Nat)(σ:List (Option Nat))(fr:aX):aX:=fr.map λp=>(p.1,xT next σ p.2)
theorem KM{next:Nat}{σ:List (Option Nat)}{k:Nat}(h:k<next):mo ι next σ k=ι k:=by unfold mo;rw[aB h]
theorem TA{next:Nat}{σ:List (Option Nat)}{j m:Nat}(h:σ[j]?=some (some m)):mo ι next σ (next+j)=ι m:=by unfold mo;rw[av o_,FJ,h]
theorem aAC{next:Nat}{σ:List (Option Nat)}{j:Nat}(h:σ[j]?=some none):mo ι next σ (next+j)=some .nil:=by unfold mo;rw[av o_,FJ,h]
theorem aAD{next:Nat}{σ:List (Option Nat)}{v:i_}(aC:H0 next σ v=true)(h:aK ι (xT next σ v) v'):aK (mo ι next σ) v v':=by
 have low:∀ k,k<next->∀ l,ι k=some l->mo ι next σ k=some l:=λk hk l e=>by rw[KM hk];exact e
 have iu:∀{v:i_},om next v=true->aK ι v v'->aK (mo ι next σ) v v':=λhb h=>h.low low hb;cases v with
 |slice oa n c=>
  cases oa with
  |none=>exact iu aC h
  |some ad=>
   unfold H0 at aC;unfold xT at h;dsimp only at aC h;split at aC
   ·rename_i hc;rw[aB hc]at h;simp only[dr]at hc;have ep:=sF hc.1;obtain⟨j,hj⟩:∃ j,ad.block=next+j:=⟨ad.block-next,by omega⟩;have xQ:ad.block-next=j:=by omega
    rw[xQ]at aC h;have eta:=Db hc.2;cases H2:σ[j]? with
    |none=>rw[H2]at aC;cases aC
    |some o=>
     cases o with
     |none=>
      rw[H2]at aC h;simp only[dr]at aC;have h1:=lj aC.1;have h2:=lj aC.2.1;have h3:=lj aC.2.2;rw[h.eZ rfl,eta,h1,h2,h3,hj];exact .slcN (aAC H2)
     |some m=>
      rw[H2]at h;dsimp only at h;rw[eta,hj];rcases h.iF rfl with ⟨q1,q2,q3,q4,q5⟩|⟨b,o,cap,c',q1,q2,q3,q5⟩
      ·dsimp only at q1 q4;rw[q5,q2,q3,q4];exact .slcN (by rw[TA H2];exact q1)
      ·dsimp only at q1 q5;rw[q5];exact .slc (by rw[TA H2];exact q1) q2 q3
   ·rename_i hc;rw[av hc]at h;exact iu aC h
 |_=>exact iu aC h
theorem TB:∀(X:List Obj) (next k:Nat),ag (marks next X) k=if k<next then none else X[k-next]?
 |[],next,k=>by unfold marks ag;split<;>simp
 |x::X,next,k=>by
  unfold marks ag;by_cases h:next=k
  ·subst h;have:Nat.beq next next=true:=HJ next;rw[aB this,av (Nat.lt_irrefl _),wI];rfl
  ·rw[oQ h];simp only[vy,vz];rw[TB X (next+1) k];by_cases h2:k<next
   ·rw[aB o_,aB h2]
   ·rw[av o_,av h2];obtain⟨d,rfl⟩:∃ d,k=next+1+d:=⟨k-next-1,by omega⟩;rw[FJ,show next+1+d-next=d+1 by omega];rfl
theorem aAE:∀{σ:List (Option Nat)} {X:List Obj} {j m:Nat} {x:Obj},σ[j]?=some (some m)->X[j]?=some x->(m,x)∈dY σ X
 |o::σ,y::X,0,m,x,h1,h2=>by simp at h1 h2;subst h1;subst h2;exact aT ..
 |o::σ,y::X,j+1,m,x,h1,h2=>by
  have:=aAE (σ:=σ) (X:=X) (j:=j) (by simpa using h1) (by simpa using h2);cases o with
  |none=>exact this
  |some q=>exact bF _ this
 |[],_,j,m,x,h1,_=>by simp at h1
 |_::_,[],j,m,x,_,h2=>by simp at h2
structure H3(M:aL)(next:Nat)(σ:List (Option Nat))(fr:aX)(F:aL)(X:List Obj):Prop where
 len:X.length=σ.length
 nodup:∀ i j m:Nat,σ[i]?=some (some m)->σ[j]?=some (some m)->i=j
 low:∀ i m:Nat,σ[i]?=some (some m)->m<next->ag F m=none/\ag M m≠none
 nil:∀(i:Nat) (x:Obj),σ[i]?=some none->X[i]?=some x->x.isNil=true
 jh:∀ p∈fr,H0 next σ p.2=true
 keys:∀ p∈F,p.1<next/\ag M p.1≠none
 aJB:∀ p∈F,fV next p.2
 news:∀ x∈X,fV next x
theorem rename{c0 c1:g_}{w0 w1:h_}{M:aL}{next:Nat}{σ:List (Option Nat)}{fr:aX}{F:aL}{X:List Obj}(ok:H3 M next σ fr F X)
  (h0:aO B az c0 w0) (zT:eF c0 next) (oj:cY c0 M) (wJ:Map.le az bX) (h1:aO B bX c1 w1) (hF:cY c1 F) (hX:∀ p∈dY σ X,c1 p.1=some p.2) (hk:∀ k,k<next->ag M k=none->c1 k=c0 k) :
  ∃ c2,Map.le az (mo bX next σ)/\aO B (mo bX next σ) c2 w1/\cY c2 (F++marks next X)/\eF c2 (next+X.length)/\(∀ k,k<next->ag M k=none->c2 k=c0 k):=by
 have TC:∀ k l,az k=some l->k<next:=λk l e=>by
  rcases e7 k next with h|h
  ·exact h
  ·rw[h0.dF k (zT k h)]at e;cases e
 have hle:Map.le az (mo bX next σ):=λk l e=>by rw[KM (TC k l e)];exact wJ k l e
 have low:∀ k,k<next->∀ l,bX k=some l->mo bX next σ k=some l:=λk hk l e=>by rw[KM hk];exact e
 -- the objects
 let cl:g_:=λk=>match ag F k with
  |some x=>some x
  |none=>match ag M k with
   |none=>c1 k
   |some _=>some .dead
 have iG:∀ k x,cl k=some x->(x=.dead/\ag M k≠none)\/(c1 k=some x/\(ag F k=some x\/(ag F k=none/\ag M k=none))):=by
  intro k x hx;have hx:(match ag F k with|some x=>some x|none=>match ag M k with|none=>c1 k|some _=>some Obj.dead)=some x:=hx;cases hf:ag F k with
  |some y=>rw[hf]at hx;injection hx with hx;subst hx;exact .inr ⟨hF k y hf,.inl rfl⟩
  |none=>
   rw[hf]at hx;dsimp only at hx;cases hm:ag M k with
   |none=>rw[hm]at hx;exact .inr ⟨hx,.inr ⟨rfl,rfl⟩⟩
   |some y=>rw[hm]at hx;injection hx with hx;exact .inl ⟨hx.symm,λe=>by cases e⟩
 have aJC:∀(j:Nat) (x:Obj),X[j]?=some x->(σ[j]?=some none/\x.isNil=true)\/∃ m,σ[j]?=some (some m)/\c1 m=some x:=by
  intro j x hx;have hj:j<σ.length:=by rw[<-ok.len];exact(eA.1 hx).1
  cases hs:σ[j]? with
  |none=>rw[aAF]at hs;omega
  |some o=>
   cases o with
   |none=>exact .inl ⟨rfl,ok.nil j x hs hx⟩
   |some m=>exact .inr ⟨m,rfl,hX _ (aAE hs hx)⟩
 -- where a mark that is not dead comes from
 have src:∀ k x,BU cl next X k=some x->(x=.dead/\k<next/\ag M k≠none)\/(x.isNil=true/\mo bX next σ k=some .nil/\¬k<next)\/
   ∃ m,c1 m=some x/\mo bX next σ k=bX m/\((k<next/\m=k/\(ag F k=some x\/(ag F k=none/\ag M k=none)))\/(¬k<next/\σ[k-next]?=some (some m)/\X[k-next]?=some x)):=by
  intro k x hx;unfold BU at hx;split at hx
  ·rename_i al;rcases iG k x hx with h|⟨h1,h2⟩
   ·exact .inl ⟨h.1,al,h.2⟩
   ·exact .inr (.inr ⟨k,h1,KM al,.inl ⟨al,rfl,h2⟩⟩)
  ·rename_i ep;obtain⟨j,rfl⟩:∃ j,k=next+j:=⟨k-next,by omega⟩;rw[FJ]at hx ⊢;rcases aJC j x hx with ⟨h1,h2⟩|⟨m,h1,h2⟩
   ·exact .inr (.inl ⟨h2,aAC h1,ep⟩)
   ·exact .inr (.inr ⟨m,h2,TA h1,.inr ⟨ep,h1,hx⟩⟩)
 have aWw:∀{x:Obj},x.isNil=true->∀ b o cap,mo bX next σ=mo bX next σ->(some pR.nil:Option pR)=some (.at b o cap)->False:=λ_ b o cap _ e=>by cases e
 -- an owner comes from an owner
 have own:∀ k x b o cap,BU cl next X k=some x->x.owns=true->mo bX next σ k=some (.at b o cap)->∃ m,c1 m=some x/\bX m=some (.at b o cap)/\((k<next/\m=k/\(ag F k=some x\/(ag F k=none/\ag M k=none)))\/(¬k<next/\σ[k-next]?=some (some m)/\X[k-next]?=some x)):=by
  intro k x b o cap hx ho hl;rcases src k x hx with ⟨rfl,_⟩|⟨_,h,_⟩|⟨m,h1,h2,h3⟩
  ·cases ho
  ·rw[h]at hl;cases hl
  ·exact⟨m,h1,by rw[<-h2];exact hl,h3⟩
 have view:∀ k x b o cap,BU cl next X k=some x->x.kh=true->mo bX next σ k=some (.at b o cap)->∃ m,c1 m=some x/\bX m=some (.at b o cap):=by
  intro k x b o cap hx ho hl;rcases src k x hx with ⟨rfl,_⟩|⟨_,h,_⟩|⟨m,h1,h2,h3⟩
  ·cases ho
  ·rw[h]at hl;cases hl
  ·exact⟨m,h1,by rw[<-h2];exact hl⟩
 refine⟨BU cl next X,hle,⟨h1.base,?_,?_,?_,?_,?_,?_,?_,?_,h0.pg.trans hle⟩,?_,?_,?_⟩
 ·intro k hk;unfold BU at hk;split at hk
  ·rename_i al;rw[KM al];have hk:(match ag F k with|some x=>some x|none=>match ag M k with|none=>c1 k|some _=>some Obj.dead)=none:=hk;cases hf:ag F k with
   |some y=>rw[hf]at hk;cases hk
   |none=>
    rw[hf]at hk;dsimp only at hk;cases hm:ag M k with
    |none=>rw[hm]at hk;exact h1.dF k hk
    |some y=>rw[hm]at hk;cases hk
  ·rename_i ep;unfold mo;rw[av ep];have:σ[k-next]?=none:=by rw[aAF]at hk ⊢;rw[<-ok.len];exact hk
   rw[this]
 ·intro k x hx;rcases src k x hx with ⟨rfl,al,hM⟩|⟨hn,h,_⟩|⟨m,q1,q2,q3⟩
  ·cases hm:ag M k with
   |none=>exact absurd hm hM
   |some y=>
    obtain⟨l,e1,_⟩:=h0.born k y (oj k y hm);exact⟨l,hle k l e1,trivial⟩
  ·refine⟨.nil,h,?_⟩;cases x with
   |row cells ty size=>cases cells with
    |nil=>exact .inl ⟨rfl,rfl⟩
    |cons _ _=>cases hn
   |view cells=>cases cells with
    |nil=>exact .inl ⟨rfl,rfl⟩
    |cons _ _=>cases hn
   |_=>cases hn
  ·obtain⟨l,e1,e2⟩:=h1.born m x q1;refine⟨l,by rw[q2];exact e1,?_⟩;rcases q3 with ⟨al,rfl,h|⟨hf,hm⟩⟩|⟨ep,hs,sZ⟩
   ·exact e2.below low (ok.aJB _ (kD h))
   ·have e:=hk m al hm;rw[q1]at e;obtain⟨l',f1,f2⟩:=h0.born m x e.symm;have:=wJ m l' f1;rw[e1]at this;injection this with this;subst this;exact f2.aJA e2 wJ hle
   ·exact e2.below low (ok.news _ (cL sZ))
 ·intro k x b o cap hx ho hl;obtain⟨m,q1,q2,_⟩:=own k x b o cap hx ho hl;exact h1.own m x b o cap q1 ho q2
 ·intro k j x y b o cap o' aU hx E4 hy E8 hl cB;obtain⟨m,q1,q2,q3⟩:=own k x b o cap hx E4 hl;obtain⟨m',rp,BV,mz⟩:=own j y b o' aU hy E8 cB;have e:=h1.inj m m' x y b o cap o' aU q1 E4 rp E8 q2 BV;subst e;have KN:∀ k j x y,(k<next/\m=k/\(ag F k=some x\/(ag F k=none/\ag M k=none)))->(¬j<next/\σ[j-next]?=some (some m)/\X[j-next]?=some y)->False:=by
   rintro k j x y ⟨al,rfl,h⟩ ⟨_,hs,_⟩
   obtain⟨p1,p2⟩:=ok.low _ _ hs al;rcases h with h|h
   ·rw[p1]at h;cases h
   ·exact p2 h.2
  rcases q3 with q3|q3<;>rcases mz with mz|mz
  ·rw[<-q3.2.1,mz.2.1]
  ·exact(KN _ _ _ _ q3 mz).elim
  ·exact(KN _ _ _ _ mz q3).elim
  ·have:=ok.nodup _ _ _ q3.2.1 mz.2.1;have:=q3.1;have:=mz.1;omega
 ·intro k j x F' b o cap v hx E4 hl hj hv hf;obtain⟨m,q1,q2,_⟩:=own k x b o cap hx E4 hl;rcases src j (.fact F') hj with ⟨e,_⟩|⟨hn,_⟩|⟨m',p1,p2,_⟩
  ·cases e
  ·cases hn
  ·exact h1.apart m m' x F' b o cap v q1 E4 q2 p1 (by rw[<-p2];exact hv) hf
 ·intro k x b o cap hx KO hl;obtain⟨m,q1,q2⟩:=view k x b o cap hx KO hl;obtain⟨p1,p2⟩:=h1.seen m x b o cap q1 KO q2;refine⟨p1,λj y o' aU hy E8 hj=>?_⟩;obtain⟨m',s1,s2,_⟩:=own j y b o' aU hy E8 hj;exact p2 m' y o' aU s1 E8 s2
 ·intro j F' hj;rcases src j (.fact F') hj with ⟨e,_⟩|⟨hn,_⟩|⟨m',p1,_,_⟩
  ·cases e
  ·cases hn
  ·exact h1.fa m' F' p1
 ·intro k j F' F'' hx hy hr ph;rcases src k (.fact F') hx with ⟨e,_⟩|⟨hn,_⟩|⟨m,q1,q2,q3⟩
  ·cases e
  ·cases hn
  rcases src j (.fact F'') hy with ⟨e,_⟩|⟨hn,_⟩|⟨m',rp,BV,mz⟩
  ·cases e
  ·cases hn
  have e:=h1.one m m' F' F'' q1 rp hr ph;subst e;have KN:∀ k j x y,(k<next/\m=k/\(ag F k=some x\/(ag F k=none/\ag M k=none)))->(¬j<next/\σ[j-next]?=some (some m)/\X[j-next]?=some y)->False:=by
   rintro k j x y ⟨al,rfl,h⟩ ⟨_,hs,_⟩
   obtain⟨p1,p2⟩:=ok.low _ _ hs al;rcases h with h|h
   ·rw[p1]at h;cases h
   ·exact p2 h.2
  rcases q3 with q3|q3<;>rcases mz with mz|mz
  ·rw[<-q3.2.1,mz.2.1]
  ·exact(KN _ _ _ _ q3 mz).elim
  ·exact(KN _ _ _ _ mz q3).elim
  ·have:=ok.nodup _ _ _ q3.2.1 mz.2.1;have:=q3.1;have:=mz.1;omega
 ·intro k x hx;rw[iH]at hx;unfold BU;cases hf:ag F k with
  |some y=>
   rw[hf]at hx;injection hx with hx;subst hx;have al:=(ok.keys _ (kD hf)).1;dsimp only at al;rw[aB al];show(match ag F k with|some x=>some x|none=>match ag M k with|none=>c1 k|some _=>some Obj.dead)=some y;rw[hf]
  |none=>
   rw[hf]at hx;dsimp only at hx;rw[TB]at hx;by_cases al:k<next
   ·rw[aB al]at hx;cases hx
   ·rw[av al]at hx ⊢;exact hx
 ·intro k gN;unfold BU;rw[av o_,aAF];omega
 ·intro k al hm;unfold BU;rw[aB al];show(match ag F k with|some x=>some x|none=>match ag M k with|none=>c1 k|some _=>some Obj.dead)=c0 k;cases hf:ag F k with
  |some y=>exact absurd hm (ok.keys _ (kD hf)).2
  |none=>rw[hm];exact hk k al hm
theorem aJD{BF fr:aX}{a:Act}{next:Nat}{σ:List (Option Nat)}(hf:fR B ι (bJ BF) N a)(aC:∀ p∈fr,H0 next σ p.2=true)(h:∀ p∈gZ next σ fr,bJ BF p.1=p.2)(BW:∀ p∈fr,mK (xT next σ p.2)=false):
  fR B (mo ι next σ) (bJ fr) N a:=by
 refine⟨hf.defers,hf.size,λt=>?_⟩;have key:∀(l:aX),(∀ p∈l,p∈fr)->n9 (mo ι next σ) (bJ l t) (a.tmps.getD t undef):=by
  intro l;induction l with
  |nil=>intro _;exact .inl rfl
  |cons p l ih=>
   intro hl;obtain⟨s,v⟩:=p;show n9 _ (if Nat.beq s t then v else bJ l t) _;by_cases hs:Nat.beq s t=true
   ·rw[aB hs];have hm:=hl _ (aT ..);have h1:=h (s,xT next σ v) (db.2 ⟨(s,v),hm,rfl⟩);dsimp only at h1;have e:=lj hs;subst e;have h2:=hf.slot s;rw[h1]at h2;exact .inr (aAD (aC _ hm) (h2.Bp (BW _ hm)))
   ·rw[av hs];exact ih λq hq=>hl q (bF _ hq)
 exact key fr λ_ h=>h
theorem TD:∀{σ:List (Option Nat)} {X:List Obj} {m:Nat} {x:Obj},(∀ i j m:Nat,σ[i]?=some (some m)->σ[j]?=some (some m)->i=j)->(m,x)∈dY σ X->ag (dY σ X) m=some x
 |[],_,m,x,_,h=>by simp[dY]at h
 |none::_,[],m,x,_,h=>by simp[dY]at h
 |some _::_,[],m,x,_,h=>by simp[dY]at h
 |none::σ,y::X,m,x,hn,h=>TD (σ:=σ) (X:=X) (λi j m h1 h2=>by have:=hn (i+1) (j+1) m (by simpa using h1) (by simpa using h2);omega) h
 |some q::σ,y::X,m,x,hn,h=>by
  have mP:∀ i j m:Nat,σ[i]?=some (some m)->σ[j]?=some (some m)->i=j:=λi j m h1 h2=>by have:=hn (i+1) (j+1) m (by simpa using h1) (by simpa using h2);omega
  show(if Nat.beq q m then some y else ag (dY σ X) m)=some x;rcases cC.1 h with e|h'
  ·injection e with e1 e2;subst e1;subst e2;rw[aB (HJ m)]
  ·have aQ:q≠m:=by
    rintro rfl
    have idx:∀{σ:List (Option Nat)} {X:List Obj},(q,x)∈dY σ X->∃ j:Nat,σ[j]?=some (some q):=by
     intro σ;induction σ with
     |nil=>intro X h;simp[dY]at h
     |cons o σ ih=>
      intro X h;cases X with
      |nil=>cases o<;>simp[dY]at h
      |cons z X=>
       cases o with
       |none=>obtain⟨j,hj⟩:=ih (X:=X) h;exact⟨j+1,by simpa using hj⟩
       |some t=>
        rcases cC.1 h with e|h
        ·injection e with e1 _;exact⟨0,by simp[e1]⟩
        ·obtain⟨j,hj⟩:=ih (X:=X) h;exact⟨j+1,by simpa using hj⟩
    obtain⟨j,hj⟩:=idx h';have:=hn 0 (j+1) q s_ (by simpa using hj);omega
   rw[oQ aQ];simp only[vy,vz];exact TD mP h'
theorem TE:∀{σ:List (Option Nat)} {X:List Obj} {m:Nat} {x:Obj},(m,x)∈dY σ X->∃ j:Nat,σ[j]?=some (some m)
 |[],_,_,_,h=>by simp[dY]at h
 |none::_,[],_,_,h=>by simp[dY]at h
 |some _::_,[],_,_,h=>by simp[dY]at h
 |none::σ,_::X,_,_,h=>by obtain⟨j,hj⟩:=TE (σ:=σ) (X:=X) h;exact⟨j+1,by simpa using hj⟩
 |some t::σ,_::X,m,x,h=>by
  rcases cC.1 h with e|h
  ·injection e with e1 _;exact⟨0,by simp[e1]⟩
  ·obtain⟨j,hj⟩:=TE (σ:=σ) (X:=X) h;exact⟨j+1,by simpa using hj⟩
theorem H3.agr{M:aL}{next:Nat}{σ:List (Option Nat)}{fr:aX}{F:aL}{X:List Obj}(ok:H3 M next σ fr F X){c:g_}(h:cY c (F++dY σ X)):
  cY c F/\∀ p∈dY σ X,c p.1=some p.2:=by
 refine⟨λk x hx=>h k x (by rw[iH,hx]),λp hp=>?_⟩;obtain⟨m,x⟩:=p;have hf:ag F m=none:=by
  obtain⟨j,hj⟩:=TE hp;rcases e7 m next with al|ep
  ·exact(ok.low j m hj al).1
  ·cases hF:ag F m with
   |none=>rfl
   |some y=>have:=(ok.keys _ (kD hF)).1;dsimp only at this;omega
 exact h m x (by rw[iH,hf];exact TD ok.nodup hp)
theorem aJE{fr:aX}{a:Act}{next:Nat}{σ:List (Option Nat)}(hf:fR B ι (bJ (gZ next σ fr)) N a)(aC:∀ p∈fr,H0 next σ p.2=true)(BW:∀ p∈fr,mK (xT next σ p.2)=false):
  fR B (mo ι next σ) (bJ fr) N a:=by
 refine⟨hf.defers,hf.size,λt=>?_⟩;have key:∀(l:aX),(∀ p∈l,p∈fr)->n9 ι (bJ (gZ next σ l) t) (a.tmps.getD t undef)->n9 (mo ι next σ) (bJ l t) (a.tmps.getD t undef):=by
  intro l;induction l with
  |nil=>intro _ _;exact .inl rfl
  |cons p l ih=>
   intro hl h;obtain⟨s,v⟩:=p;have h:n9 ι (if Nat.beq s t then xT next σ v else bJ (gZ next σ l) t) (a.tmps.getD t undef):=h;show n9 _ (if Nat.beq s t then v else bJ l t) _;by_cases hs:Nat.beq s t=true
   ·rw[aB hs]at h ⊢;have hm:=hl _ (aT ..);exact .inr (aAD (aC _ hm) (h.Bp (BW _ hm)))
   ·rw[av hs]at h ⊢;exact ih (λq hq=>hl q (bF _ hq)) h
 exact key fr (λ_ h=>h) (hf.slot t)
theorem aJF{b:Code}{fr:aX}{M:aL}{next p:Nat}{r:mQ}(n:Nat)(I:Nat->aX)(F:Nat->aL)(X:Nat->List Obj)(hp:∀ i,i<=n->(X i).length=p)
  (start:∃ σ,H3 M next σ (I 0) (F 0) (X 0)/\(∀ q∈I 0,mK (xT next σ q.2)=false)/\(∀ q∈gZ next σ (I 0),bJ fr q.1=q.2)/\(∀ k x,ag (F 0++dY σ (X 0)) k=some x->ag M k=some x))
  (body:∀ i,i<n->∃ σ gH,H3 M next σ (I (i+1)) (F (i+1)) (X (i+1))/\(∀ q∈I (i+1),mK (xT next σ q.2)=false)/\ai P B N b (I i) (F i++marks next (X i)) (next+p) ⟨.normal,gZ next σ (I (i+1)),F (i+1)++dY σ (X (i+1)),gH⟩)
  (last:ai P B N b (I n) (F n++marks next (X n)) (next+p) r) (hr:r.ex≠.normal):ai P B N (.loop b) fr M next r:=by
 intro R uj c0 a0 w0 Q BG kC oj zT hQ;refine S5 (n+1) ?_;have key:∀ d i,i+d=n->∀(bX:Map) (c1:g_) (a1:Act) (w1:h_),Map.le uj bX->fR B bX (bJ (I i)) N a1->aO B bX c1 w1->cY c1 (F i++marks next (X i))->eF c1 (next+p)->
   (∀ k,k<next->ag M k=none->ag (F i) k=none)->(∀ k,k<next->ag M k=none->c1 k=c0 k)->
   (∀ t,vj (.loop b) t=false->a1.tmps.getD t undef=a0.tmps.getD t undef)->Code.roundsIn (FW R) 0 P b Q (d+1) a1 w1:=by
  have vg:∀(i k:Nat),k<next->ag M k=none->ag (F i) k=none->ag (F i++marks next (X i)) k=none:=λi k hk _ hf=>by rw[iH,hf];dsimp only;rw[TB,aB hk]
  intro d;induction d with
  |zero=>
   intro i hi bX c1 a1 w1 jx iI c8 eG dT TF iA kk;have:i=n:=by omega
   subst this;rw[Fp];refine last R bX c1 a1 w1 _ iI c8 eG dT λdP c2 a2 w2 lk jd dH gV e6 fP sI=>?_;have:=hQ dP c2 a2 w2 (jx.trans lk) jd dH gV e6 (λk hk h0=>(fP k o_ (vg i k hk h0 (TF k hk h0))).trans (iA k hk h0)) λt ht=>(sI t ht).trans (kk t ht);show Exit.then _ Q r.ex.Bx a2 w2;cases hx:r.ex with
   |normal=>exact absurd hx hr
   |exit id=>rw[hx]at this;exact this
   |ret=>rw[hx]at this;exact this
  |succ d ih=>
   intro i hi bX c1 a1 w1 jx iI c8 eG dT TF iA kk;rw[Fp];obtain⟨σ,gH,ok,BW,hb⟩:=body i o_;refine hb R bX c1 a1 w1 _ iI c8 eG dT λdP c2 a2 w2 lk jd dH gV e6 fP sI=>?_;obtain⟨q1,q2⟩:=ok.agr gV;have gN:∀ k,k<next->ag M k=none->c2 k=c0 k:=λk hk h0=>(fP k o_ (vg i k hk h0 (TF k hk h0))).trans (iA k hk h0);obtain⟨c3,e1,e2,e3,e4,e5⟩:=rename ok kC zT oj (jx.trans lk) dH q1 q2 gN;rw[hp (i+1) o_]at e4;refine ih (i+1) o_ _ c3 a2 w2 e1 (aJE jd ok.jh BW) e2 e3 e4 (λk hk h0=>?_) e5 λt ht=>(sI t ht).trans (kk t ht);cases hF:ag (F (i+1)) k with
   |none=>rfl
   |some y=>exact absurd h0 (ok.keys _ (kD hF)).2
 obtain⟨σ,ok,BW,nC,hM⟩:=start;obtain⟨q1,q2⟩:=ok.agr (c:=c0) λk x hx=>oj k x (hM k x hx);obtain⟨c3,e1,e2,e3,e4,e5⟩:=rename ok kC zT oj (Map.le.refl _) kC q1 q2 (λ_ _ _=>rfl);rw[hp 0 o_]at e4;refine key n 0 o_ _ c3 a0 w0 e1 (aJD BG ok.jh nC BW) e2 e3 e4 (λk hk h0=>?_) e5 λ_ _=>rfl;cases hF:ag (F 0) k with
 |none=>rfl
 |some y=>exact absurd h0 (ok.keys _ (kD hF)).2
end
variable{σ:List (Option Nat)}
def hJ(n a:Nat):List UInt8:=(List.range n).map λi=>UInt8.ofNat (a/256^(n-1-i)%256)
theorem KP(n a:Nat):(hJ n a).length=n:=by simp[hJ]
theorem xU(n a:Nat):hJ (n+1) a=UInt8.ofNat (a/256^n%256)::hJ n a:=by
 unfold hJ;rw[List.range_succ_eq_map,nE,TG]
 congr 1
 refine vm λi hi=>?_;have hi:=jT.1 hi;show UInt8.ofNat (a/256^(n+1-1-(i+1))%256)=_;rw[show n+1-1-(i+1)=n-1-i by omega]
theorem OA(a:Nat):hJ 0 a=[]:=rfl
theorem aAG(n a m:Nat)(h:n<=m):hJ n (a%256^m)=hJ n a:=by
 unfold hJ;refine vm λi hi=>?_;have hi:=jT.1 hi
 congr 1
 obtain⟨s,hs⟩:∃ s,m=(n-1-i)+1+s:=⟨m-(n-1-i)-1,by omega⟩;have e:256^m=256^(n-1-i)*(256*256^s):=by rw[hs,eR,dG,gi]
 rw[e,BO,KG]
theorem aAH(m n a:Nat):hJ (m+n) a=hJ m (a/256^n)++hJ n a:=by
 induction m with
 |zero=>simp[OA]
 |succ m ih=>
  rw[show m+1+n=(m+n)+1 by omega,xU,xU,ih,BX,ll,<-eR,nG n m]
theorem aJG(n a:Nat):gw (hJ n a)=a%256^n:=by
 induction n with
 |zero=>simp[OA,gw,uf]
 |succ n ih=>
  rw[xU,KF,ih,KP];have h1:(UInt8.ofNat (a/256^n%256)).toNat=a/256^n%256:=by rw[OB];exact dW (cM _ d_)
  rw[h1,dG,Oa,cX (256^n),nG]
def ct(a:Nat):List UInt8:=hJ (nd 256 a) a
theorem FK(a:Nat):gw (ct a)=a:=by unfold ct;rw[aJG,dW (ew d_ a)]
theorem DF:ct 0=[]:=by unfold ct;rw[nF];rfl
theorem uk(a:Nat):(ct a).length=nd 256 a:=KP _ _
theorem aJH{a:Nat}:ct a=[]↔a=0:=by
 constructor
 ·intro h;have:=FK a;rw[h]at this;exact this.symm
 ·rintro rfl;exact DF
theorem aJI{a b:Nat}(h:ct a=ct b):a=b:=by rw[<-FK a,h,FK]
theorem OC{a:Nat}(h:a≠0):∃ c l,ct a=c::l/\c≠0:=by
 have hp:=vp (B:=256) d_ h;obtain⟨n,hn⟩:∃ n,nd 256 a=n+1:=⟨nd 256 a-1,by omega⟩;have al:=ew (B:=256) d_ a;rw[hn]at al;refine⟨_,_,by unfold ct;rw[hn,xU],λe=>?_⟩;have h1:(UInt8.ofNat (a/256^n%256)).toNat=a/256^n%256:=by rw[OB];exact dW (cM _ d_)
 rw[e]at h1;have h2:a<256^n:=(HN d_ al).1 h1.symm;have:=jy (B:=256) d_ h2;omega
theorem aJJ(k:Nat)(l:List UInt8):jY (List.replicate k 0++l)=k+jY l:=by
 induction k with
 |zero=>simp
 |succ k ih=>
  have e:jY (0::(List.replicate k 0++l))=jY (List.replicate k 0++l)+1:=rfl;rw[List.replicate_succ,BX,e,ih];omega
theorem aAI{n k a:Nat}(h:a<256^n):hJ (k+n) a=List.replicate k 0++hJ n a:=by
 rw[aAH,mS h]
 congr 1
 induction k with
 |zero=>rfl
 |succ k ih=>rw[xU,ih,List.replicate_succ,Nat.zero_div];rfl
theorem aJK{n a:Nat}(h:a<256^n):KI (hJ n a)=ct a:=by
 have hle:=jy (B:=256) d_ h;obtain⟨k,hk⟩:∃ k,n=k+nd 256 a:=⟨n-nd 256 a,by omega⟩;have hz:jY (hJ (nd 256 a) a)=0:=by
  by_cases h0:a=0
  ·subst h0;rw[nF];rfl
  ·obtain⟨c,l,e,hc⟩:=OC h0;unfold ct at e;rw[e];unfold jY;rw[av hc]
 unfold KI;rw[hk,aAI (ew d_ a),aJJ,hz,jf,List.drop_append_of_le_length s_];simp[ct]
theorem aAJ{c:UInt8}{l:List UInt8}(h:c≠0):256^l.length<=gw (c::l):=by
 rw[KF];have:1<=c.toNat:=by
  rcases oV c.toNat with e|e
  ·exact absurd (Ov.1 (by rw[e];rfl)) h
  ·exact e
 have:=eV (256^l.length) this;omega
theorem aJL{l:List UInt8}(h:∀ c r,l=c::r->c≠0):ct (gw l)=l:=by
 have hlen:nd 256 (gw l)=l.length:=by
  refine aAK (jy d_ (BN l)) ?_;cases l with
  |nil=>simp
  |cons c r=>
   have h1:=aAJ (l:=r) (h c r rfl);rcases e7 (nd 256 (gw (c::r))) (r.length+1)with h2|h2
   ·have h3:=ew (B:=256) d_ (gw (c::r));have h4:256^nd 256 (gw (c::r))<=256^r.length:=df d_ o_;omega
   ·exact h2
 unfold ct;rw[hlen];clear hlen h;induction l with
 |nil=>rfl
 |cons c r ih=>
  have hv:=BN r;have hp:0<256^r.length:=cP d_;rw[pS,xU,KF]
  congr 1
  ·rw[nG,pW _ _ hp,mS hv,kA];have hc:c.toNat<256:=c.toNat_lt;rw[dW hc];simp
  ·rw[<-aAG _ _ _ (bC r.length),nG,DH,dW hv,ih]
theorem aJM(d:Nat):hJ 4 d=[UInt8.ofNat (d/16777216%256),UInt8.ofNat (d/65536%256),UInt8.ofNat (d/256%256),UInt8.ofNat (d%256)]:=by rw[xU,xU,xU,xU,OA];simp
section
variable{P:j_}{B:aa}{N:Nat}
def bd.mkc(fn:Func)(key k cp e size bytes:Nat)(z:i_)(hb:bytes*cp<=281474976710656)(hn:cp<=maxLen)(ho:N7 P (aw fn key)=some (e,size,bytes,z)):bd P B N:=
 .step key (aw fn key) [vI 0,vI cp] [(k,none)] (.slice (some ⟨k,0,some 7⟩) 0 0) [(k,.row [] e size)] (by
  unfold N7 at ho;split at ho
  ·rename_i t a b cg;split at ho
   ·rename_i e' ht;split at ho
    ·rename_i i hi;split at ho
     ·rename_i z' oN;injection ho with ho;injection ho with h1 ho;injection ho with h2 ho;injection ho with h3 h4;subst h1;subst h4;have:=Y9 (P:=P) (B:=B) cg ht hi oN (kl:=.i64) (kc:=.i64) (l:=0) (cp:=cp) (lM _) (by rw[h3];exact hb) hn (cells:=[]) (by rw[lP,aAL]) s_ n_ k;rw[h2]at this;exact this.step
     ·cases ho
    ·cases ho
   ·cases ho
  ·cases ho)
def bd.qH(fn:Func)(key k j n m nm e size bytes:Nat)(cells:ak)(q:Nat)(x:Obj)(new:ak)(kE:n+m=nm)(hx:x.reads=true)(hlen:x.cells.length=m*size)(jw:cells.length=n*size)(lL:cells++x.cells=new)
  (h1:∀ v∈x.cells,v.oneCell'=true) (bH:0<size) (h63:nm<=maxLen) (hb:nm*bytes<=140737488355328) (ho:FH P (aw fn key)=some (e,size,bytes,size,true)):bd P B N:=
 .step key (aw fn key) [.slice (some ⟨j,0,some 7⟩) n 0,.slice (some ⟨q,0,some 7⟩) m 0] [(k,none),(j,some (.row cells e size)),(q,some x)] (.slice (some ⟨k,0,some 7⟩) nm 0) [(k,.row new e size),(j,.dead)] (by
  subst kE;have hs:C9 B (.slice (some ⟨q,0,some 7⟩) m 0) m x.cells [(q,some x)]:=by have:=Ny (B:=B) (k:=q) (off:=0) (m:=m) (cc:=0) hx (len:=m*size) (λh=>by rw[h,lP]);rw[mT,kT (u5 hlen)]at this;exact this
  have:=aAA (B:=B) ho bH hs hlen h1 (j:=j) (n:=n) (cells:=cells) (u5 jw.symm) h63 hb k;rw[kT (u5 jw),lL]at this;exact this)
def ik(l:List UInt8):ak:=l.map λc=>.int .u8 (c.toNat:Int)
theorem aJN(l:List UInt8):∀ u∈ik l,flat u=true:=λu hu=>by obtain⟨x,_,rfl⟩:=db.1 hu;rfl
theorem aAM(l:List UInt8):∀ acc:List UInt8,(l.map λc=>(c.toNat:Int)).foldl (λ(r:ByteArray) (n:Int)=>r.push (UInt8.ofNat n.toNat)) (BA acc)=BA (acc++l):=by
 induction l with
 |nil=>intro acc;simp
 |cons c l ih=>
  intro acc;rw[nE,wE];have e:(BA acc).push (UInt8.ofNat ((c.toNat:Int)).toNat)=BA (acc++[c]):=by unfold BA;simp[ByteArray.push]
  rw[e,ih,Fo];rfl
def OD(P:j_)(o:Oper):Bool:=match o.op with
 |.convert src dst _=>match P.underlying src,P.underlying dst with
  |some (.slice e),some .string=>(match P.underlying e with|some (.int .u8)=>true|_=>false)
  |_,_=>false
 |_=>false
def bd.TH(fn:Func)(key k n:Nat)(l:List UInt8)(x:Obj)(hx:x.reads=true)(hc:x.cells=ik l)(hn:l.length=n)(ho:OD P (aw fn key)=true):bd P B N:=
 .step key (aw fn key) [.slice (some ⟨k,0,some 7⟩) n 0] [(k,some x)] (.string (BA l)) [] (by
  unfold OD at ho;split at ho
  ·rename_i src dst y cg;split at ho
   ·rename_i e hs hd;split at ho
    ·rename_i he;have:=Zb (P:=P) (B:=B) cg hs he hd (k:=k) (off:=0) (n:=n) (cc:=0) (y:=x) (ns:=l.map λc=>(c.toNat:Int)) hx (by rw[hc,mT,kT (by simp[ik,hn])];simp[ik,Function.comp_def]) (by simpa using hn)
     have e2:=aAM l [];rw[jg]at e2;rw[show ByteArray.empty=BA []from rfl,e2]at this;exact this.step
    ·cases ho
   ·cases ho
  ·cases ho)
end
section
variable{P:j_}{B:aa}{N:Nat}
theorem H4{m:Nat}{x:Obj}(h:∀ u∈x.cells,flat u=true):fV m x:=λu hu=>iW (h u hu)
def H5:List (Option Nat)->Bool
 |[]=>true
 |none::l=>H5 l
 |some m::l=>(l.all λo=>match o with|some k=>!Nat.beq m k|none=>true)&&H5 l
theorem aAN:∀{σ:List (Option Nat)},H5 σ=true->∀ i j m:Nat,σ[i]?=some (some m)->σ[j]?=some (some m)->i=j
 |[],_,i,j,m,h,_=>by simp at h
 |o::l,h,i,j,m,h1,h2=>by
  have hl:H5 l=true/\∀ k,o=some k->∀ j:Nat,l[j]?≠some (some k):=by
   cases o with
   |none=>exact⟨h,λk e=>by cases e⟩
   |some q=>
    simp only[H5,dr,bB]at h;refine⟨h.2,λk e j hj=>?_⟩;injection e with e;subst e;have:=h.1 _ (cL hj);simp at this
  cases i with
  |zero=>
   cases j with
   |zero=>rfl
   |succ j=>
    simp at h1 h2;exact absurd h2 (hl.2 m h1 j)
  |succ i=>
   cases j with
   |zero=>
    simp at h1 h2;exact absurd h1 (hl.2 m h2 i)
   |succ j=>
    simp at h1 h2;rw[aAN hl.1 i j m h1 h2]
def aAO(M:aL)(F:aL)(next:Nat)(σ:List (Option Nat)):Bool:=σ.all λo=>match o with
 |some m=>Nat.ble next m||((match ag F m with|none=>true|some _=>false)&&(match ag M m with|none=>false|some _=>true))
 |none=>true
def H6:List (Option Nat)->List Obj->Bool
 |none::σ,x::X=>x.isNil&&H6 σ X
 |some _::σ,_::X=>H6 σ X
 |_,_=>true
theorem aAP:∀{σ:List (Option Nat)} {X:List Obj},H6 σ X=true->∀(i:Nat) (x:Obj),σ[i]?=some none->X[i]?=some x->x.isNil=true
 |[],_,_,i,x,h,_=>by simp at h
 |_::_,[],_,i,x,_,h=>by simp at h
 |o::σ,y::X,h,i,x,h1,h2=>by
  cases i with
  |zero=>
   simp at h1 h2;subst h1;subst h2;simp only[H6,dr]at h;exact h.1
  |succ i=>
   simp at h1 h2;refine aAP (σ:=σ) (X:=X) ?_ i x h1 h2;cases o with
   |none=>simp only[H6,dr]at h;exact h.2
   |some _=>exact h
def DI(M:aL)(next:Nat)(σ:List (Option Nat))(fr:aX)(F:aL)(X:List Obj):Bool:=
 Nat.beq X.length σ.length&&(H5 σ&&(aAO M F next σ&&(H6 σ X&&((fr.all λp=>H0 next σ p.2&&!mK (xT next σ p.2))&&(F.all λp=>Nat.blt p.1 next&&(match ag M p.1 with|none=>false|some _=>true))))))
theorem aAQ{M:aL}{next:Nat}{fr:aX}{F:aL}{X:List Obj}(h:DI M next σ fr F X=true)(hF:∀ p∈F,fV next p.2)(hX:∀ x∈X,fV next x):
  H3 M next σ fr F X/\∀ q∈fr,mK (xT next σ q.2)=false:=by
 simp only[DI,dr,bB,zr]at h;obtain⟨h1,h2,h3,h4,h5,h6⟩:=h;refine⟨⟨lj h1,aAN h2,λi m hi hm=>?_,aAP h4,λp hp=>(h5 p hp).1,λp hp=>?_,hF,hX⟩,λq hq=>(h5 q hq).2⟩
 ·unfold aAO at h3;rw[bB]at h3;have:=h3 _ (cL hi);simp only[vl,dr]at this;rcases this with this|⟨p1,p2⟩
  ·have:=sF this;omega
  ·constructor
   ·cases hf:ag F m with
    |none=>rfl
    |some y=>rw[hf]at p1;cases p1
   ·intro e;rw[e]at p2;cases p2
 ·obtain⟨q1,q2⟩:=h6 p hp;refine⟨Nat.lt_of_succ_le (by simpa[Nat.blt]using q1),λe=>?_⟩;rw[e]at q2;cases q2
theorem rJ{b:Code}{next p:Nat}{r:mQ}(n:Nat)(I:Nat->aX)(F:Nat->aL)(X:Nat->List Obj)(BZ:List (Option Nat))(hp:∀ i,i<=n->(X i).length=p)
  (DJ:∀ i,i<=n->(∀ q∈F i,fV next q.2)/\∀ x∈X i,fV next x) (h0:DI (F 0++dY BZ (X 0)) next BZ (I 0) (F 0) (X 0)=true)
  (hs:((gZ next BZ (I 0)).map λq=>bJ (gZ next BZ (I 0)) q.1)=(gZ next BZ (I 0)).map λq=>q.2)
  (body:∀ i,i<n->∃ σ gH,DI (F 0++dY BZ (X 0)) next σ (I (i+1)) (F (i+1)) (X (i+1))=true/\ai P B N b (I i) (F i++marks next (X i)) (next+p) ⟨.normal,gZ next σ (I (i+1)),F (i+1)++dY σ (X (i+1)),gH⟩)
  (last:ai P B N b (I n) (F n++marks next (X n)) (next+p) r) (hr:r.ex≠.normal):ai P B N (.loop b) (gZ next BZ (I 0)) (F 0++dY BZ (X 0)) next r:=by
 refine aJF n I F X hp ?_ ?_ last hr
 ·obtain⟨q1,q2⟩:=aAQ h0 (DJ 0 (lM _)).1 (DJ 0 (lM _)).2;exact⟨BZ,q1,q2,N5 hs,λ_ _ h=>h⟩
 ·intro i hi;obtain⟨σ,gH,e1,e2⟩:=body i hi;obtain⟨q1,q2⟩:=aAQ e1 (DJ (i+1) o_).1 (DJ (i+1) o_).2;exact⟨σ,gH,q1,q2,e2⟩
end
def vb(m:Nat):Value:=.int .u8 (m:Int)
theorem aJO(d:Nat):ik (hJ 4 d)=[vb (d/16777216%256),vb (d/65536%256),vb (d/256%256),vb (d%256)]:=by
 have e:∀ m,Value.int .u8 ((UInt8.ofNat (m%256)).toNat:Int)=vb (m%256):=λm=>by rw[OB,dW (cM _ d_)];rfl
 rw[aJM];simp only[ik,nE,TI,e]
theorem OE(l m:List UInt8):ik (l++m)=ik l++ik m:=by simp[ik]
theorem FL(l:List UInt8):(ik l).length=l.length:=by simp[ik]
section
variable{Bs:aa}{n a:Nat}
def H7(n j m:Nat):aX:=[(4,dw j),(0,sl 0 n),(3,sl 2 (4*m))]
def FM(n a:Nat):aL:=[(0,.view (ao (ae base n a)))]
def FN(a j m:Nat):List Obj:=[.row (ik (hJ (4*m) (a/base^j))) 5 1]
theorem aJP{j m:Nat}(hn:n=m+1+j)(h63:n<35184372088832):
  ai prog Bs 45 (aJ (ah f197 0)) (H7 n (j+1) m) (FM n a++marks 2 (FN a (j+1) m)) 3 ⟨.normal,gZ 2 [some 4] (H7 n j (m+1)),FM n a++dY [some 4] (FN a j (m+1)),5⟩:=by
 have hj:j<n:=by omega
 obtain⟨d,hd⟩:∃ d,d=a/base^j%base:=⟨_,rfl⟩;have nI:d<base:=by rw[hd];exact iB d_ a j
 have jm:(ao (ae base n a))[j]?=some (aY d):=by rw[hd];exact lq (eP hj)
 have sh:∀ k:Nat,(d:Int).fdiv ((2:Int)^k)=((d/2^k:Nat):Int):=λk=>by rw[sT _ (H8 d_),ug,H9];rfl
 have w8:∀ m:Nat,IntKind.u8.wrap ((m:Nat):Int)=((m%256:Nat):Int):=λm=>by rw[aAR];omega
 have lL:ik (hJ (4*m) (a/base^(j+1)))++[vb (d/2^24%256),vb (d/2^16%256),vb (d/2^8%256),vb (d%256)]=ik (hJ (4*(m+1)) (a/base^j)):=by
  have e1:a/base^j/256^4=a/base^(j+1):=by rw[show(256:Nat)^4=base by decide,ll,<-dG]
  rw[show 4*(m+1)=4*m+4 by omega,aAH,e1,OE,<-aAG 4 (a/base^j) 4 (bC _),show a/base^j%256^4=d from hd.symm,aJO]
 exact aE [.rw 12 (dw (j+1)) (vI j) (eB j),.ge 13 j 0 true s_,.rw 18 (dw (j+1)) (vI j) (eB j),.ix f197 19 0 n j hj k_,.ld f197 20 181 0 j (.view (ao (ae base n a))) (aY d) rfl (by rw[gj];exact jm) k_,.quo 21 .u32 ((d:Int).fdiv ((2:Int)^24)) ((d/2^24:Nat):Int) (sh 24),.wr 22 .u8 ((d/2^24:Nat):Int) ((d/2^24%256:Nat):Int) (w8 _),.rw 24 (dw (j+1)) (vI j) (eB j),.ix f197 25 0 n j hj k_,.ld f197 26 181 0 j (.view (ao (ae base n a))) (aY d) rfl (by rw[gj];exact jm) k_,.quo 27 .u32 ((d:Int).fdiv ((2:Int)^16)) ((d/2^16:Nat):Int) (sh 16),.wr 28 .u8 ((d/2^16:Nat):Int) ((d/2^16%256:Nat):Int) (w8 _),.rw 30 (dw (j+1)) (vI j) (eB j),.ix f197 31 0 n j hj k_,.ld f197 32 181 0 j (.view (ao (ae base n a))) (aY d) rfl (by rw[gj];exact jm) k_,.quo 33 .u32 ((d:Int).fdiv ((2:Int)^8)) ((d/2^8:Nat):Int) (sh 8),.wr 34 .u8 ((d/2^8:Nat):Int) ((d/2^8%256:Nat):Int) (w8 _),.rw 36 (dw (j+1)) (vI j) (eB j),.ix f197 37 0 n j hj k_,.ld f197 38 181 0 j (.view (ao (ae base n a))) (aY d) rfl (by rw[gj];exact jm) k_,.wr 39 .u8 (d:Int) ((d%256:Nat):Int) (w8 _),.bs f197 40 3 4 5 1 [0,1,2,3] (vb 0) [vb (d/2^24%256),vb (d/2^16%256),vb (d/2^8%256),vb (d%256)] #[vb (d/2^24%256),vb (d/2^16%256),vb (d/2^8%256),vb (d%256)]
   (.row [vb (d/2^24%256),vb (d/2^16%256),vb (d/2^8%256),vb (d%256)] 5 1) rfl (λv hv=>by simp at hv;rcases hv with rfl|rfl|rfl|rfl<;>rfl) (λv hv=>by simp at hv;rcases hv with rfl|rfl|rfl|rfl<;>rfl) k_ rfl o_ o_ k_,
  .qH f197 41 4 2 (4*m) 4 (4*(m+1)) 5 1 1 (ik (hJ (4*m) (a/base^(j+1)))) 3 (.row [vb (d/2^24%256),vb (d/2^16%256),vb (d/2^8%256),vb (d%256)] 5 1) (ik (hJ (4*(m+1)) (a/base^j)))
   o_ rfl rfl (by rw[FL,KP];omega) lL (λv hv=>by simp[Obj.cells]at hv;rcases hv with rfl|rfl|rfl|rfl<;>rfl) o_ (by simp[maxLen];omega) o_ k_,
  .rw 14 (dw (j+1)) (vI j) (eB j),.wr 15 .i64 ((j:Int)-1) ((j:Int)-1) (pA o_)]
theorem aJQ(h63:n<35184372088832):
  ai prog Bs 45 (.block 0 (ah f197 0)) (gZ 2 [some 1] (H7 n n 0)) (FM n a++dY [some 1] (FN a n 0)) 2 ⟨.normal,H7 n 0 n,FM n a++marks 2 (FN a 0 n),3⟩:=by
 have:=rJ (P:=prog) (B:=Bs) (N:=45) (b:=aJ (ah f197 0)) (next:=2) (p:=1) (r:=⟨.exit 0,H7 n 0 n,FM n a++marks 2 (FN a 0 n),3⟩) n (λi=>H7 n (n-i) i) (λ_=>FM n a) (λi=>FN a (n-i) i) [some 1] (λ_ _=>rfl)
  (λi _=>⟨λq hq=>by simp[FM]at hq;subst hq;exact H4 (fT _),λx hx=>by simp[FN]at hx;subst hx;exact H4 (aJN _)⟩) k_ k_
  (λi hi=>⟨[some 4],5,k_,by
   obtain⟨j,hj⟩:∃ j,n=i+1+j:=⟨n-(i+1),by omega⟩;have e1:n-i=j+1:=by omega
   have e2:n-(i+1)=j:=by omega
   simp only[e1,e2];exact aJP hj h63⟩)
  (by simp only[wI];exact aE [.rw 13 (.bool (decide (((0:Nat):Int)-1>=0))) a_ rfl]) n_
 simp only[HL]at this;exact cd (id:=0) this
end
theorem aAS{a:Nat}(gJ:iQ w va a)(h1:nd base a<35184372088832):
  Calls prog 197 #[va] w λe w'=>e=.returned (.string (BA (ct a)))/\Below w.heap.size w w':=by
 have al:=ew (B:=base) d_ a;have hl:∀ s∈[cH.row va (nd base a) (ao (ae base (nd base a) a))],s.OK w:=by intro s hs;simp at hs;subst hs;exact⟨gJ,fT _⟩
 unfold iQ at gJ;generalize nd base a=n at *;have ht:KI (hJ (4*n) (a/base^0))=ct a:=by rw[sU,FF];refine aJK ?_;rw[sV];exact al
 have tl:=aJn (hJ (4*n) (a/base^0));rw[ht]at tl
 refine mh (Q:=λe w'=>e=.returned (.string (BA (ct a)))/\Below w.heap.size w w') mixed func197 [cH.row va n (ao (ae base n a))] hl 100 (N:=45) k_
  (rs:=[(bd.wr 7 .i64 (4*(n:Int)) ((4*n:Nat):Int) (by rw[dh];omega):bd prog (aa.at w) 45),.mkc f197 8 1 (4*n) 5 1 1 (vb 0) o_ (by simp[maxLen];omega) k_,.wr 11 .i64 ((n:Int)-1) ((n:Int)-1) (pA o_),.code 0 _ _ _ _ _ (aJQ (n:=n) (a:=a) h1),.TH f197 43 2 (4*n) (hJ (4*n) (a/base^0)) (.row (ik (hJ (4*n) (a/base^0))) 5 1) rfl rfl (KP _ _) k_,tl.at 44])
  (v:=.string (BA (ct a))) (ms:=[]) k_ λaz cr v' w' hc bE _ _=>⟨by rw[hc.eZ rfl],bE.base⟩
section
variable{P:j_}{B:aa}{N:Nat}
def cH.apart(g:Nat):cH->Prop
 |.plain _=>True
 |.row v n _=>∀ b o c',v=.slice (some ⟨b,o,none⟩) n c'->b≠g
theorem TJ{w:h_}{g:Nat}:∀(l:List cH) (k:Nat) (ι:Map) (c:g_),aO B ι c w->(∀ j x b o cap,c j=some x->x.owns=true->ι j=some (.at b o cap)->b=g)->eF c k->(∀ s∈l,cH.OK w s)->(∀ s∈l,cH.apart g s)->
  ∃ az c',Map.le ι az/\aO B az c' w/\eF c' (uc k l)/\cY c' (vo k l)/\(∀ j,j<k->c' j=c j)/\bW (aK az) (sP k l) (l.map cH.real)/\k<=uc k l
 |[],k,ι,c,hm,ho,hu,_,_=>⟨ι,c,Map.le.refl _,hm,hu,λk x h=>(by cases h),λ_ _=>rfl,.nil,bC _⟩
 |.plain v::l,k,ι,c,hm,ho,hu,hl,aQ=>by obtain⟨az,c',h1,h2,h3,h4,h5,h6,h7⟩:=TJ l k ι c hm ho hu (λs hs=>hl s (bF _ hs)) (λs hs=>aQ s (bF _ hs));have hv:flat v=true:=hl _ (aT ..);exact⟨az,c',h1,h2,h3,h4,h5,.cons (.same hv) h6,h7⟩
 |.row v n xs::l,k,ι,c,hm,ho,hu,hl,aQ=>by
  obtain⟨hv,cR⟩:cW w v n xs/\∀ u∈xs,flat u=true:=hl _ (aT ..);have hap:∀ b o c',v=.slice (some ⟨b,o,none⟩) n c'->b≠g:=aQ _ (aT ..);obtain⟨bX,q1,q2,q3⟩:=zy hm (k:=k) (hu k (bC _)) hv cR (λb o c' hb j y o' aU hj hy he=>hap b o c' hb (ho j y b o' aU hj hy he));have xV:∀ j x b o cap,bA c k (.view xs) j=some x->x.owns=true->bX j=some (.at b o cap)->b=g:=by
   intro j x b o cap hj hx hb;unfold bA at hj;by_cases b9:j=k
   ·rw[aB b9]at hj;injection hj with hj;subst hj;cases hx
   ·rw[av b9]at hj;obtain⟨lo,e1,_⟩:=hm.born j x hj;have:=q1 j lo e1;rw[hb]at this;injection this with this;subst this;exact ho j x b o cap hj hx e1
  have dT:eF (bA c k (.view xs)) (k+1):=λj hj=>by unfold bA;rw[av o_];exact hu j o_
  obtain⟨az,c',h1,h2,h3,h4,h5,h6,h7⟩:=TJ l (k+1) bX _ q2 xV dT (λs hs=>hl s (bF _ hs)) (λs hs=>aQ s (bF _ hs));refine⟨az,c',q1.trans h1,h2,h3,λj x hj=>?_,λj hj=>?_,.cons (q3.mono h1) h6,by show k<=uc (k+1) l;omega⟩
  ·unfold vo ag at hj;split at hj
   ·rename_i hb;injection hj with hj;subst hj;rw[<-lj hb,h5 k o_];unfold bA;rw[aB rfl]
   ·exact h4 j x hj
  ·rw[h5 j o_];unfold bA;rw[av o_]
theorem aJR{g cap size:Nat}{cells:ak}{m c':Nat}{v:i_}(gW:P.follows .mixedOrders=true)(hf:P.funcs[f]?=some fn)
  (hg:w.heap[g]?=some (.cells cur ty (0,0))) (jS:cap<=maxLen) (bH:cur.size=cap*size) (hc:cur.toList.take cells.length=cells) (cR:∀ v∈cells,flat v=true) (BM:∀ v∈cells',flat v=true) (hn:m<=c') (nA:cc+c'=cap)
  (l:List cH) (hl:∀ s∈l,cH.OK w s) (aQ:∀ s∈l,cH.apart g s) (n:Nat) {N:Nat} (hN:N=((.slice (some ⟨0,off,some 7⟩) m cc:i_)::sP 1 l).length+(fn.ntmps-((.slice (some ⟨0,off,some 7⟩) m cc:i_)::sP 1 l).length))
  {rs:bM P (aa.wG w g) N}
  (h:oq (gv (P:=P) fn n (.slice (some ⟨0,off,some 7⟩) m cc::sP 1 l) ((0,.row cells ty size)::vo 1 l) (uc 1 l) rs) ((0,.row cells' ty size)::ms)=ou (gv fn n (.slice (some ⟨0,off,some 7⟩) m cc::sP 1 l) ((0,.row cells ty size)::vo 1 l) (uc 1 l) rs) v ((0,.row cells' ty size)::ms))
  (hQ:∀ az TK v' w',az 0=some (.at g 0 cap)->aK az v v'->BL g w w'->(∃ gn,w'.heap[g]?=some (.cells gn ty (0,0))/\gn.size=cap*size/\gn.toList.take cells'.length=cells')->aO (aa.wG w g) az TK w'->(∀ p∈ms,TK p.1=some p.2)->Q (.returned v') w') :
  Calls P f (.slice (some ⟨g,off,none⟩) m c'::l.map cH.real).toArray w Q:=by
 have kC:=Tm hg jS bH hc cR;have aAT:dS (λ_=>none) 0 (.at g 0 cap) 0=some (.at g 0 cap):=gg _ _ _;obtain⟨ι,c,h1,h2,h3,h4,h5,h6,h7⟩:=TJ (g:=g) l 1 _ _ kC (λj x b o cp hj _ hb=>by
   by_cases B0:j=0
   ·subst B0;rw[aAT]at hb;injection hb with hb;injection hb with hb _ _;exact hb.symm
   ·unfold dS at hb;rw[av B0]at hb;cases hb) (λk hk=>by unfold bA;rw[av o_]) hl aQ
 have rl:ι 0=some (.at g 0 cap):=h1 0 _ aAT;have ha:cY c ((0,.row cells ty size)::vo 1 l):=λk x hk=>by
  unfold ag at hk;split at hk
  ·rename_i hb;injection hk with hk;subst hk;rw[<-lj hb,h5 0 o_];unfold bA;rw[aB rfl]
  ·exact h4 k x hk
 have aJS:aK ι (.slice (some ⟨0,off,some 7⟩) m cc) (.slice (some ⟨g,off,none⟩) m c'):=by have:=aK.slc (off:=off) rl hn nA;rwa[kA]at this
 refine sO gW hf hN n h (.cons aJS h6) h2 ha h3 λaz cr v' w' hle kz hm dQ=>?_;obtain⟨e1,e2⟩:=Tn hm (hle 0 _ rl) (dQ _ (aT ..)) BM;exact hQ az cr v' w' (hle 0 _ rl) kz e1 e2 hm λp hp=>dQ p (bF _ hp)
theorem aJT{o:Oper}{x:m_}{k m size TL:Nat}{cells:ak}{val:i_}(ho:dD o.op=some x)(e8:gO P f=true)(hkk:k2≠k)(kC:0<m)
  (cR:∀ v∈cells,flat v=true) (BM:∀ v∈cells',flat v=true) (kV:flat val=true) (iv:x2.reads=true) (aJU:∀ v∈x2.cells,flat v=true) (aJV:n2=0->TL=0)
  (h:∀ w g cap cur c' v2,w.heap[g]?=some (.cells cur ty (0,0))->m<=c'->cc+c'=cap->cap<=maxLen->cur.size=cap*size->cur.toList.take cells.length=cells->cW w v2 n2 (x2.cells.take TL)->(∀ b o c,v2=.slice (some ⟨b,o,none⟩) n2 c->b≠g)->Calls P f #[.slice (some ⟨g,off,none⟩) m c',v2] w λe w'=>e=.returned val/\BL g w w'/\∃ gn,w'.heap[g]?=some (.cells gn ty (0,0))/\gn.size=cap*size/\gn.toList.take cells'.length=cells') :
  cI P B o [.func (.func f) #[] #[],.slice (some ⟨k,off,some 7⟩) m cc,.slice (some ⟨k2,0,some 7⟩) n2 0] [(k,some (.row cells ty size)),(k2,some x2)] val [(k,.row cells' ty size)]:=by
 refine jV (fi:=[]) (ca:=[]) ho e8 λι c w hm fv args' bh=>?_;have hk:c k=some (.row cells ty size):=fv _ (aT ..);have fP:c k2=some x2:=fv _ (bF _ (aT ..));obtain⟨v,v2,rfl,hv,iz⟩:=jv bh;have hr:=po hm fP iv aJU aJV iz;rw[mT]at hr;rcases hv.iF rfl with ⟨_,h0,_⟩|⟨g,oo,cap,c',hb,lg,nA,he⟩
 ·omega
 ·dsimp only at hb he;obtain⟨l,q1,q2⟩:=hm.born k _ hk;rw[hb]at q1;injection q1 with q1;subst q1;rcases q2 with q2|⟨b,aU,cur,e1,mN,dO,gh,jw⟩
  ·cases q2.1
  ·injection e1 with e1 e2 e3;subst e1;subst e2;subst e3;rw[kA]at he;rw[he];have aQ:∀ b o c,v2=.slice (some ⟨b,o,none⟩) n2 c->b≠g:=by
    rintro b o c1 rfl rfl
    rcases iz.iF rfl with ⟨_,_,_,_,e⟩|⟨b',o',aU,c2,gF,_,_,e⟩
    ·cases e
    ·injection e with e _ _;injection e with e;injection e with e _ _;subst e;simp only[Obj.reads,vl]at iv;rcases iv with iv|iv
     ·exact hkk (hm.inj k2 k x2 _ _ _ _ _ _ fP iv hk rfl gF hb)
     ·exact(hm.seen k2 x2 _ _ _ fP iv gF).2 k _ _ _ hk rfl hb
   refine(h w g cap cur c' v2 mN lg nA dO gh (oc jw cR) hr aQ).mono ?_
   rintro e w' ⟨rfl,qF,gn,p1,p2,p3⟩
   refine⟨ι,val,rfl,Map.le.refl _,.same kV,hm.write hk rfl hb qF.os qF.tape qF.output qF.size (λj hj FC=>qF.block j hj FC) (.inr ⟨g,cap,gn,rfl,p1,dO,p2,?_⟩) n_ rfl⟩;rw[p3];exact kO BM
end
section
variable{B U V n T v1 v2 u2:Nat}
structure mV(B n U V T u2 v1 v2:Nat):Prop where
 hB:2<=B
 hU:U<V*B
 hT:T=U/B^(n+1)
 hu:u2=U/B^n%B
 kB:v1=V/B^(n+1)
 iz:v2=V/B^n%B
 top:B<=2*v1
 DK:v1<B
theorem mV.pow(h:mV B n U V T u2 v1 v2):0<B^n:=cP (by have:=h.hB;omega)
theorem mV.two(h:mV B n U V T u2 v1 v2):U/B^n=T*B+u2/\V/B^n=v1*B+v2:=by rw[h.hT,h.hu,h.kB,h.iz];exact⟨xN U n,xN V n⟩
theorem mV.aJW(h:mV B n U V T u2 v1 v2){q:Nat}(hq:q*v1<=T->False):U/V<q:=by
 have rK:0<V:=by
  rcases oV V with e|e
  ·have:=h.hU;rw[e]at this;omega
  ·exact e
 refine Nat.lt_of_not_le λhle=>hq ?_;have h1:q*V<=U:=(DL rK).1 hle;rw[h.hT,h.kB];have hp:0<B^(n+1):=cP (by have:=h.hB;omega);rw[DL hp];have h2:V/B^(n+1)*B^(n+1)<=V:=DM _ _
 calc q*(V/B^(n+1))*B^(n+1)=q*(V/B^(n+1)*B^(n+1)):=by rw[gi]
  _<=q*V:=jK _ h2
  _<=U:=h1
structure B3(U V T v1 q r:Nat):Prop where
 eq:q*v1+r=T
 le:U/V<=q
theorem mV.start(h:mV B n U V T u2 v1 v2):B3 U V T v1 (T/v1) (T%v1):=by
 refine⟨by rw[cX];exact jz T v1,?_⟩;have hv:0<v1:=by have:=h.top;have:=h.hB;omega
 have:=h.aJW (q:=T/v1+1) λhle=>by have:=(DL hv).2 hle;omega
 omega
theorem mV.small(h:mV B n U V T u2 v1 v2):U/V<B:=by
 have rK:0<V:=by
  rcases oV V with e|e
  ·have:=h.hU;rw[e]at this;omega
  ·exact e
 exact(iP rK).2 (by rw[cX];exact h.hU)
theorem mV.aJX(h:mV B n U V T u2 v1 v2){q r:Nat}(g:B3 U V T v1 q r)(hc:B<=q\/r*B+u2<q*v2):U/V<q:=by
 rcases hc with hc|hc
 ·exact cG h.small hc
 ·have rK:0<V:=by
   rcases oV V with e|e
   ·have:=h.hU;rw[e]at this;omega
   ·exact e
  rw[iP rK];obtain⟨e1,e2⟩:=h.two;have hp:=h.pow;have h1:U/B^n<q*(V/B^n):=by rw[e1,e2,<-g.eq,pr,fQ,<-gi];omega
  have h2:U<q*(V/B^n)*B^n:=(iP hp).1 h1;rw[gi]at h2;exact cG h2 (jK _ (DM _ _))
theorem mV.less(h:mV B n U V T u2 v1 v2){q r:Nat}(g:B3 U V T v1 q r)(hc:B<=q\/r*B+u2<q*v2):0<q/\B3 U V T v1 (q-1) (r+v1):=by have al:=h.aJX g hc;obtain⟨p,rfl⟩:∃ p,q=p+1:=⟨q-1,(Nat.sub_add_cancel (Nat.one_le_of_lt al)).symm⟩;refine⟨by omega,?_,Nat.le_of_lt_succ al⟩;have:=g.eq;rw[fQ,pv]at this;rw[OG];omega
theorem mV.fin(h:mV B n U V T u2 v1 v2){q r:Nat}(g:B3 U V T v1 q r)(hc:(q<B/\q*v2<=r*B+u2)\/B<=r):q<B/\q*V<U+V:=by
 obtain⟨e1,e2⟩:=h.two;have hp:=h.pow;have gQ:B^(n+1)=B^n*B:=dG ..;have hVd:=jz V (B^n);have hVm:=cM V hp;rcases hc with ⟨hq,hc⟩|hr
 ·refine⟨hq,?_⟩;have h1:q*(V/B^n)<=U/B^n:=by rw[e1,e2,<-g.eq,pr,fQ,<-gi];omega
  have h2:q*(V/B^n)*B^n<=U:=(DL hp).1 h1;have h3:q*V=q*(V/B^n)*B^n+q*(V%B^n):=by rw[gi,<-pr,cX (V/B^n),hVd]
  have h4:q*(V%B^n)<V:=by
   have h5:q*(V%B^n)<=(B-1)*B^n:=qG o_ (jl hVm);have h6:v1*B^(n+1)<=V:=by rw[h.kB];exact DM _ _
   have h7:1*B^(n+1)<=v1*B^(n+1):=eV _ (by have:=h.top;have:=h.hB;omega);have h8:(B-1)*B^n<B^(n+1):=by rw[gQ,cX (B^n)];exact B4 (by have:=h.hB;omega) hp
   omega
  omega
 ·have xW:V<(v1+1)*B^(n+1):=by rw[h.kB];have fE:0<B^(n+1):=cP (by have:=h.hB;omega);exact(iP fE).1 (B5 _)
  have fE:0<B^(n+1):=cP (by have:=h.hB;omega);have hTU:T*B^(n+1)<=U:=by rw[h.hT];exact DM _ _
  have aAU:T<(v1+1)*B:=by rw[h.hT,iP fE];refine cG h.hU ?_;rw[gi,cX B,<-gi];exact eV _ (jl xW)
  have hqB:q<B:=by
   have h1:q*v1<B*v1:=by have:=g.eq;rw[fQ,pv,cX v1]at aAU;omega
   exact aJY h1
  refine⟨hqB,?_⟩;have h2:q*V<=q*((v1+1)*B^(n+1)):=jK _ (jl xW);have h3:q*((v1+1)*B^(n+1))<=T*B^(n+1):=by rw[<-gi];refine eV _ ?_;have:=g.eq;rw[pr,gS];omega
  have rK:0<V:=by
   rcases oV V with e|e
   ·have:=h.hU;rw[e]at this;omega
   ·exact e
  omega
theorem mV.aJZ(h:mV B n U V T u2 v1 v2)(r:Nat):B<=r+v1+v1:=by have:=h.top;omega
theorem mV.aJ0(h:mV B n U V T u2 v1 v2){q r:Nat}(g:B3 U V T v1 q r):q<=B*2+1:=by
 have fE:0<B^(n+1):=cP (by have:=h.hB;omega);have xW:V<(v1+1)*B^(n+1):=by rw[h.kB];exact(iP fE).1 (B5 _)
 have aAU:T<(v1+1)*B:=by rw[h.hT,iP fE];refine cG h.hU ?_;rw[gi,cX B,<-gi];exact eV _ (jl xW)
 have hv:0<v1:=by have:=h.top;have:=h.hB;omega
 have h1:q*v1<(B*2)*v1:=by
  have:=g.eq;have h2:(v1+1)*B<=(B*2)*v1:=by
   rw[fQ,pv,gi,cX v1];have:B*1<=B*v1:=jK _ hv;have e:B*(2*v1)=B*v1+B*v1:=by rw[Nat.two_mul,pr]
   omega
  omega
 have:=aJY h1;omega
def oW(B q V i:Nat):Nat:=q*(V%B^i)/B^i
theorem aJ1{q:Nat}:oW B q V 0=0:=by simp[oW,uf]
theorem aAV(hB:0<B)(q V i:Nat):oW B q V i+q*(V/B^i%B)=q*(V%B^(i+1))/B^i:=by have hp:0<B^i:=cP hB;rw[pV,pr,<-gi,pW _ _ hp];rfl
theorem aJ2(hB:0<B)(q V i:Nat):(oW B q V i+q*(V/B^i%B))/B=oW B q V (i+1):=by rw[aAV hB,ll,<-dG];rfl
theorem aAW(hB:0<B)(q V i:Nat):(oW B q V i+q*(V/B^i%B))%B=q*V/B^i%B:=by
 have hp:0<B^i:=cP hB;rw[aAV hB];have e:q*V=q*(V%B^(i+1))+(q*(V/B^(i+1))*B)*B^i:=by
  have h1:=jz V (B^(i+1));have h2:q*(V/B^(i+1))*B*B^i=q*(B^(i+1)*(V/B^(i+1))):=by rw[dG];simp only[cX,nH,gi]
  rw[h2,<-pr,nG,h1]
 rw[e,pW _ _ hp,DH]
theorem aAX(hB:0<B){q:Nat}(hq:q<B)(V i:Nat):oW B q V i<B:=by have hp:0<B^i:=cP hB;unfold oW;rw[iP hp];have h1:q*(V%B^i)<=q*B^i:=jK _ (jl (cM _ hp));exact fq h1 (B4 hq hp)
end
variable{q r:Nat}
section
variable{B:Nat}
def gK(B j R D:Nat):Nat:=R%B^j+D*B^j
theorem xX(hB:0<B)(j R D i:Nat):gK B j R D/B^(j+i)%B=D/B^i%B:=by have hp:0<B^j:=cP hB;unfold gK;rw[eR,<-ll,pW _ _ hp,mS (cM _ hp),kA]
theorem TM(hB:0<B){j t:Nat}(ht:t<j)(R D:Nat):gK B j R D/B^t%B=R/B^t%B:=by
 unfold gK;obtain⟨s,rfl⟩:∃ s,j=t+1+s:=⟨j-(t+1),by omega⟩;have hp:0<B^t:=cP hB;have e1:R%B^(t+1+s)/B^t%B=R/B^t%B:=by
  have e:B^(t+1+s)=B^t*(B*B^s):=by rw[eR,dG,gi]
  rw[e,BO,KG]
 have e2:D*B^(t+1+s)=(D*B^s*B)*B^t:=by rw[eR,dG];simp only[cX,nH,gi]
 rw[e2,pW _ _ hp,DH,e1]
theorem Ia(hB:0<B){j m:Nat}(R:Nat)(h:D<B^m):gK B j R D<B^(j+m):=by have hp:0<B^j:=cP hB;unfold gK;have h1:=cM R hp;have h2:(D+1)*B^j<=B^m*B^j:=eV _ h;rw[fQ,pv]at h2;rw[eR,cX (B^j)];omega
theorem aAY(hB:0<B)(j R D E:Nat):gK B j (gK B j R D) E=gK B j R E:=by unfold gK;rw[DH,Nat.mod_mod]
theorem aJ3(j R:Nat):gK B j R (R/B^j)=R:=by unfold gK;rw[cX,nG];exact jz R (B^j)
theorem Ib(j R i:Nat):R/B^(j+i)%B=R/B^j/B^i%B:=by rw[eR,ll]
theorem OH(hB:0<B)(L j R D:Nat):dc B L j (gK B j R D) R=ae B L R:=by
 unfold dc ae;refine vm λt _=>?_;by_cases h:t<j
 ·rw[aB h,TM hB h]
 ·rw[av h]
theorem FO(hB:0<B){L m R S:Nat}(hR:R<B^m)(hS:S<B^m):dc B L m S R=ae B L S:=by
 unfold dc ae;refine vm λt _=>?_;by_cases h:t<m
 ·rw[aB h]
 ·rw[av h,rH hR o_ hB,rH hS o_ hB]
def gz(B m U V q:Nat):Nat:=(U+B^(m+1)-q*V)%B^(m+1)
section
variable{m U V q:Nat}
theorem TN(hB:0<B):gz B m U V q<B^(m+1):=cM _ (cP hB)
theorem aAZ(hB:0<B){a i k:Nat}(h:i<k):a%B^k/B^i%B=a/B^i%B:=by have:=TM hB h a 0;unfold gK at this;rw[lP,jf]at this;exact this
theorem aJ4(hB:0<B){a i k:Nat}(h:i<k):(a+B^k)/B^i%B=a/B^i%B:=by
 have e:B^k=B^(k-i-1)*B*B^i:=by rw[<-dG,<-eR];congr 1;omega
 rw[e,pW _ _ (cP hB),DH]
theorem aJ5{a i k:Nat}(h:i<=k):(a+B^k)%B^i=a%B^i:=by
 have e:B^k=B^i*B^(k-i):=by rw[<-eR];congr 1;omega
 rw[e,Fz]
def pB(B U V q i:Nat):Nat:=lp B U (q*V) i
theorem aJ6{a b i k:Nat}(h:i<=k):lp B (a+B^k) b i=lp B a b i:=by unfold lp;rw[aJ5 h]
theorem aJ7(hB:0<B)(hq:q*V<=U+B^(m+1)){i:Nat}(hi:i<=m):
  (U/B^i%B+2*B-(oW B q V i+q*(V/B^i%B))%B-pB B U V q i)%B=gz B m U V q/B^i%B:=by
 unfold gz pB;rw[aAZ hB o_,aAW hB,<-aJ4 hB (show i<m+1 by omega),<-aJ6 (show i<=m+1 by omega)];exact Tj hB hq i
theorem aJ8(hB:0<B)(i:Nat):(if U/B^i%B<(oW B q V i+q*(V/B^i%B))%B+pB B U V q i then 1 else 0)=pB B U V q (i+1):=by unfold pB;rw[aAW hB];exact Ti hB _ _ _
theorem aJ9(hB:0<B)(hq:q<B)(hV:V<B^m):q*V<B^(m+1):=by rw[dG,cX (B^m)];exact fq (eV _ (jl hq)) (Z9 hV hB)
theorem aKa(hB:0<B)(hq:q<B)(hV:V<B^m)(hU:U<V*B):pB B U V q (m+1)=if U<q*V then 1 else 0:=by
 have DN:U<B^(m+1):=by rw[dG];exact cG hU (eV _ (jl hV))
 unfold pB lp;rw[dW DN,dW (aJ9 hB hq hV)]
theorem aA0(hB:0<B)(hV:V<B^m)(hU:U<V*B)(hle:U/V<=q)(h:¬U<q*V):q=U/V/\gz B m U V q=U%V:=by
 have DN:U<B^(m+1):=by rw[dG];exact cG hU (eV _ (jl hV))
 have rK:0<V:=by
  rcases oV V with e|e
  ·rw[e]at hU;omega
  ·exact e
 have e:q=U/V:=by have:=(DL rK).2 (KQ.1 h);omega
 refine⟨e,?_⟩;unfold gz;have h1:=jz U V;rw[cX]at h1;rw[<-e]at h1;have h2:U+B^(m+1)-q*V=U%V+B^(m+1):=by omega
 rw[h2,KR,dW (fq (Ky _ _) DN)]
theorem aA1(hB:0<B)(hV:V<B^m)(hU:U<V*B)(hb:q*V<U+V)(h:U<q*V):q=U/V+1/\(gz B m U V q+V)%B^(m+1)=U%V:=by
 have DN:U<B^(m+1):=by rw[dG];exact cG hU (eV _ (jl hV))
 have rK:0<V:=by
  rcases oV V with e|e
  ·rw[e]at hU;omega
  ·exact e
 have nJ:0<q:=by
  rcases oV q with e|e
  ·rw[e,lP]at h;omega
  ·exact e
 obtain⟨p,rfl⟩:∃ p,q=p+1:=⟨q-1,by omega⟩;rw[fQ,pv]at h hb;have e:p=U/V:=by have h1:p<=U/V:=(DL rK).2 o_;have h2:U/V<p+1:=(iP rK).2 (by rw[fQ,pv];exact h);omega
 refine⟨by rw[e],?_⟩;unfold gz;have h1:=jz U V;rw[cX,<-e]at h1;rw[Nat.mod_add_mod,fQ,pv];have hpV:p*V<=U:=by omega
 have TO:V<=B^(m+1):=dq (jl hV) (df hB o_);have h2:U+B^(m+1)-(p*V+V)+V=U%V+B^(m+1):=by omega
 rw[h2,KR,dW (fq (Ky _ _) DN)]
theorem TP(hB:0<B){i:Nat}(hi:i<=m):(D/B^i%B+V/B^i%B+e9 B D V i)%B=(D+V)%B^(m+1)/B^i%B:=by rw[aAZ hB o_];exact HQ hB D V i
end
theorem aA2(hB:0<B)(A V j:Nat):gK B j (A%(V*B^(j+1))) (A%(V*B^(j+1))/B^j%V)=A%(V*B^j):=by
 have hp:0<B^j:=cP hB;have h1:A%(V*B^j)=A%(V*B^(j+1))%(B^j*V):=by rw[cX (B^j),dG,<-gi,KG]
 rw[h1];generalize A%(V*B^(j+1))=R;rw[Oa];unfold gK;rw[cX (B^j) (_%V)]
theorem aA3(A V j:Nat):A%(V*B^(j+1))/B^j/V=A/V/B^j%B:=by rw[ll,dG,<-gi,cX (B^j) V,BO,ll]
theorem aA4{V:Nat}(hB:0<B)(hV:0<V)(A j:Nat):A%(V*B^(j+1))/B^j<V*B:=by have hp:0<B^j:=cP hB;rw[iP hp,gi,cX B,<-dG];exact cM _ (rL hV (cP hB))
theorem aA5{B k X i:Nat}(hB:0<B)(hk:∃ c,B=2^k*c):((X/B^(i+1)%B*B+X/B^i%B)/2^k)%B=X/2^k/B^i%B:=by
 obtain⟨c,hc⟩:=hk;have h2:0<2^k:=cP d_;have e1:X/B^i=X/B^(i+1)*B+X/B^i%B:=xN X i;have e2:X/B^(i+1)=X/B^(i+1)/B*B+X/B^(i+1)%B:=by rw[cX];exact(jz _ _).symm
 have e3:X/2^k/B^i=X/B^i/2^k:=by rw[ll,ll,cX]
 rw[e3];generalize X/B^i%B=x0 at *;generalize X/B^i=Y at *;generalize X/B^(i+1)%B=x1 at *;generalize X/B^(i+1)/B=H at *;generalize X/B^(i+1)=Z at *;subst e1;subst e2;have e4:(H*B+x1)*B+x0=(x1*B+x0)+H*B*c*2^k:=by
  rw[fQ];have:H*B*c*2^k=H*B*B:=by rw[gi (H*B),cX c,<-hc]
  omega
 have e5:H*B*c=H*c*B:=by rw[gi,cX B c,<-gi]
 rw[e4,pW _ _ h2,e5,DH]
end
section
variable{Bs:aa}{N:Nat}
def qI(x:Obj)(a:Nat):Prop:=x.reads=true/\∃ M,nd base a<=M/\x.cells=ao (ae base M a)
theorem B6{c:g_}(hm:aO Bs ι c w){k a:Nat}{x:Obj}{v:i_}(hk:c k=some x)(hx:qI x a)(hv:aK ι (sl k (nd base a)) v):iQ w v a:=by
 obtain⟨h1,M,h2,h3⟩:=hx;have:=po (len:=nd base a) hm hk h1 (by rw[h3];exact fT _) (λh=>h) hv;rw[h3,mT]at this;have e:(ao (ae base M a)).take (nd base a)=ao (ae base (nd base a) a):=by unfold ao;rw[<-Dk,Kv h2]
 rw[e]at this;exact this
def pC(a:Nat):Obj:=.row (ao (ae base (nd base a) a)) 181 1
theorem oy(a:Nat):qI (pC a) a:=⟨rfl,_,bC _,rfl⟩
theorem xY(a:Nat):qI (.view (ao (ae base (nd base a) a))) a:=⟨rfl,_,bC _,rfl⟩
theorem OI{o:Oper}{y:m_}{c:Nat}(ho:dD o.op=some y)(e8:gO prog f=true)(du:∀ v∈args,flat v=true)
  (h:∀ w,Calls prog f args.toArray w λe w'=>∃ v,e=.returned v/\jX w w' v c/\Below w.heap.size w w') (k:Nat) :
  cI prog Bs o (.func (.func f) #[] #[]::args) [(k,none)] (sl k (nd base c)) [(k,pC c)]:=by
 refine jV (fi:=[]) (ca:=[]) ho e8 λι cc w hm hn args' bh=>?_;rw[jg,jL]at bh;rw[oc bh du];refine(h w).mono ?_
 rintro e w' ⟨v,rfl,h1,h2⟩
 obtain⟨az,q1,q2,q3⟩:=Fw hm h2 (k:=k) (hn _ (aT ..)) h1 (fT _);exact⟨az,v,rfl,q1,q3,q2⟩
theorem TQ{o:Oper}{y:m_}{a b c:Nat}(ho:dD o.op=some y)(e8:gO prog f=true)(hx:qI x1 a)(iv:qI x2 b)
  (h:∀ w va vb,iQ w va a->iQ w vb b->Calls prog f #[va,vb] w λe w'=>∃ v,e=.returned v/\jX w w' v c/\Below w.heap.size w w') (k:Nat) :
  cI prog Bs o [.func (.func f) #[] #[],sl k1 (nd base a),sl k2 (nd base b)] [(k1,some x1),(k2,some x2),(k,none)] (sl k (nd base c)) [(k,pC c)]:=by
 refine jV (fi:=[]) (ca:=[]) ho e8 λι cc w hm hn args' bh=>?_;rw[jg,jL]at bh;obtain⟨va,vb,rfl,hv,iz⟩:=jv bh;refine(h w va vb (B6 hm (hn (k1,some x1) s_) hx hv) (B6 hm (hn (k2,some x2) s_) iv iz)).mono ?_
 rintro e w' ⟨v,rfl,h1,h2⟩
 obtain⟨az,q1,q2,q3⟩:=Fw hm h2 (k:=k) (hn (k,none) s_) h1 (fT _);exact⟨az,v,rfl,q1,q3,q2⟩
theorem Ic{o:Oper}{y:m_}{a:Nat}(ho:dD o.op=some y)(e8:gO prog f=true)(hx:qI x1 a)(To:∀ v∈post,flat v=true)(Bz:flat res=true)
  (h:∀ w va,iQ w va a->Calls prog f (va::post).toArray w λe w'=>e=.returned res/\Below w.heap.size w w') :
  cI prog Bs o (.func (.func f) #[] #[]::sl k1 (nd base a)::post) [(k1,some x1)] res []:=by
 refine jV (fi:=[]) (ca:=[]) ho e8 λι cc w hm hn args' bh=>?_;rw[jg,jL]at bh;cases bh with
 |cons hv hp=>
 rw[oc hp To];refine(h w _ (B6 hm (hn _ (aT ..)) hx hv)).mono ?_
 rintro e w' ⟨rfl,h2⟩
 exact⟨ι,res,rfl,Map.le.refl _,.same Bz,hm.call h2⟩
theorem OJ{o:Oper}{y:m_}{a b:Nat}(ho:dD o.op=some y)(e8:gO prog f=true)(hx:qI x1 a)(iv:qI x2 b)(Bz:flat res=true)
  (h:∀ w va vb,iQ w va a->iQ w vb b->Calls prog f #[va,vb] w λe w'=>e=.returned res/\Below w.heap.size w w') :
  cI prog Bs o [.func (.func f) #[] #[],sl k1 (nd base a),sl k2 (nd base b)] [(k1,some x1),(k2,some x2)] res []:=by
 refine jV (fi:=[]) (ca:=[]) ho e8 λι cc w hm hn args' bh=>?_;rw[jg,jL]at bh;obtain⟨va,vb,rfl,hv,iz⟩:=jv bh;refine(h w va vb (B6 hm (hn (k1,some x1) s_) hx hv) (B6 hm (hn (k2,some x2) s_) iv iz)).mono ?_
 rintro e w' ⟨rfl,h2⟩
 exact⟨ι,res,rfl,Map.le.refl _,.same Bz,hm.call h2⟩
end
def oX(a:Nat):Value:=.string (BA (ct a))
def FP(neg:Bool)(a:Nat):Value:=.agg #[.bool (neg&&decide (a≠0)),oX a]
theorem qJ(a:Nat):((BA (ct a)).toList==(ByteArray.mk #[]).toList)=decide (a=0):=by rw[FD,sQ];exact aJH
theorem aA6{a:Nat}{neg:Bool}(gJ:iQ w va a)(h1:nd base a<35184372088832):
  Calls prog 161 #[va,.bool neg] w λe w'=>e=.returned (FP neg a)/\Below w.heap.size w w':=by
 have hl:∀ s∈[cH.row va (nd base a) (ao (ae base (nd base a) a)),.plain (.bool neg)],s.OK w:=by
  intro s hs;simp at hs;rcases hs with rfl|rfl
  ·exact⟨gJ,fT _⟩
  ·exact rfl
 cases neg with
 |false=>
  exact mh (Q:=λe w'=>e=.returned (FP false a)/\Below w.heap.size w w') mixed func161 [cH.row va (nd base a) (ao (ae base (nd base a) a)),.plain a_] hl 100 (N:=15) k_
   (rs:=[(.step 7 (aw f161 7) _ _ _ _ (Ic (y:=.func 197) (k1:=0) (post:=[]) k_ k_ (xY a) n_ rfl λw va h=>aAS h h1):bd prog (aa.at w) 15)])
   (v:=.agg #[.bool false,oX a]) (ms:=[]) k_ λaz cr v' w' hc bE _ _=>⟨by rw[hc.eZ rfl];rfl,bE.base⟩
 |true=>
  have e:(!((BA (ct a)).toList==(ByteArray.mk #[]).toList))=decide (a≠0):=by rw[qJ];simp
  exact mh (Q:=λe w'=>e=.returned (FP true a)/\Below w.heap.size w w') mixed func161 [cH.row va (nd base a) (ao (ae base (nd base a) a)),.plain b_] hl 100 (N:=15) k_
   (rs:=[(.step 7 (aw f161 7) _ _ _ _ (Ic (y:=.func 197) (k1:=0) (post:=[]) k_ k_ (xY a) n_ rfl λw va h=>aAS h h1):bd prog (aa.at w) 15),.rw 11 (.bool (!((BA (ct a)).toList==(ByteArray.mk #[]).toList))) (.bool (decide (a≠0))) (by rw[e])])
   (v:=.agg #[.bool (decide (a≠0)),oX a]) (ms:=[]) k_ λaz cr v' w' hc bE _ _=>⟨by rw[hc.eZ rfl];simp[FP],bE.base⟩
section
variable{Bs:aa}{n a k:Nat}
theorem aKb{B L X i d e:Nat}(h:i+1<L)(h0:d=n2/B^i%B)(h1:e=n2/B^(i+1)%B)(ho:∀ t,t≠i->t≠i+1->X/B^t%B=n2/B^t%B):((ae B L X).set i d).set (i+1) e=ae B L n2:=by
 refine TR λt=>?_;rw[List.getElem?_set,List.getElem?_set];by_cases ht:t<L
 ·rw[eP ht,eP ht];by_cases h2:i+1=t
  ·subst h2;rw[aB rfl,aB (by simp[pq];omega),h1]
  ·rw[av h2];by_cases h3:i=t
   ·subst h3;rw[aB rfl,aB (by rw[pq];omega),h0]
   ·rw[av h3,ho t (λe=>h3 e.symm) (λe=>h2 e.symm)]
 ·have e1:(ae B L X)[t]?=none:=Br (by rw[pq];omega);have e2:(ae B L n2)[t]?=none:=Br (by rw[pq];omega);rw[e1,e2,av o_,av o_]
theorem aKc{x c k:Nat}(hk:k<=31)(hx:x<base)(hc:c<2^k):(c||| (x*2^k%base))=(c+x*2^k)%base/\(c+x*2^k)/base=x*2^k/base/\x*2^k/base<2^k:=by
 obtain⟨m,hm⟩:∃ m,base=m*2^k:=⟨2^(32-k),by rw[<-eR,show 32-k+k=32 by omega]⟩;have hp:0<2^k:=cP d_;have rM:0<m:=by
  rcases oV m with e|e
  ·rw[e,lP]at hm;exact absurd hm d_
  ·exact e
 have e1:x*2^k%base=x%m*2^k:=by rw[hm,aA7]
 have e2:x*2^k/base=x/m:=by rw[hm,aA8 _ _ hp]
 have e3:(c+x*2^k)/base=x/m:=by rw[hm,cX m,<-ll,pW _ _ hp,mS hc,kA]
 have e4:(c+x*2^k)%base=c+x%m*2^k:=by
  have h1:=jz (c+x*2^k) base;rw[e3]at h1;have h2:=jz x m;have h3:x*2^k=base*(x/m)+x%m*2^k:=by
   rw[hm]
   conv=>lhs;rw[<-h2]
   rw[fQ,B7]
  generalize base*(x/m)=z at h1 h3;omega
 refine⟨?_,e3.trans e2.symm,?_⟩
 ·have:=Ot (i:=k) hc (x%m);rw[e1,e4,Nat.or_comm,cX,<-this];omega
 ·rw[e2,iP rM,cX,<-hm];exact hx
theorem aKd{i:Nat}(hk:k<=31):(a%base^i*2^k)/base^i%base=(a%base^i*2^k)/base^i/\(a%base^i*2^k)/base^i<2^k:=by
 have hp:0<base^i:=cP d_;have h1:(a%base^i*2^k)/base^i<2^k:=by rw[iP hp,cX];exact Z9 (cM _ hp) (cP d_)
 refine⟨dW (cG h1 ?_),h1⟩;exact dq (df d_ hk) d_
theorem aKe{i:Nat}:(a%base^(i+1)*2^k)/base^i=(a%base^i*2^k)/base^i+a/base^i%base*2^k:=by have hp:0<base^i:=cP d_;rw[pV,fQ,B7,pW _ _ hp]
def s7(n a k i:Nat):aX:=[(14,vI i),(13,vI n),(12,sl 0 n),(5,sl 1 (n+1)),(1,vI k)]
def pD(n a k i:Nat):aL:=[(0,.view (ao (ae base n a))),(1,.row (ao (ae base (n+1) (a%base^i*2^k))) 181 1)]
theorem TS{i:Nat}(hi:i<n)(hk:k<=31)(h63:n<35184372088832):
  ai prog Bs 40 (aJ (ah f220 0)) (s7 n a k i) (pD n a k i) 2 ⟨.normal,s7 n a k (i+1),pD n a k (i+1),2⟩:=by
 have hx:=iB (B:=base) d_ a i;obtain⟨s1,s2⟩:=aKd (a:=a) (k:=k) (i:=i) hk;have s3:=aKe (a:=a) (k:=k) (i:=i);have jm:(ao (ae base (n+1) (a%base^i*2^k)))[i]?=some (aY ((a%base^i*2^k)/base^i)):=by rw[<-s1];exact lq (eP o_)
 have jI:∀ d e,d=(a%base^(i+1)*2^k)/base^i%base->e=(a%base^(i+1)*2^k)/base^(i+1)%base->((ae base (n+1) (a%base^i*2^k)).set i d).set (i+1) e=ae base (n+1) (a%base^(i+1)*2^k):=by
  intro d e hd he;refine aKb o_ hd he λt h1 h2=>?_;rcases e7 t i with h|h
  ·have e1:a%base^(i+1)*2^k=gK base i (a%base^i*2^k) ((a%base^i*2^k)/base^i+a/base^i%base*2^k):=by unfold gK;rw[pV,fQ,fQ,<-u9,Nat.mod_add_div',B7]
   rw[e1,TM d_ h]
  ·have hp:0<base^i:=cP d_;have b1:a%base^i*2^k<base^(i+1):=by rw[dG];exact aA9 (cM _ hp) (dq (df d_ hk) d_) d_
   have b2:a%base^(i+1)*2^k<base^(i+2):=by rw[dG _ (i+1)];exact aA9 (cM _ (cP d_)) (dq (df d_ hk) d_) d_
   rw[rH b1 o_ d_,rH b2 o_ d_]
 generalize hc:(a%base^i*2^k)/base^i=c at *;generalize Ie:a/base^i%base=x at *;obtain⟨t1,t2,t3⟩:=aKc hk hx s2;have hd:(c||| x*2^k%base)=(a%base^(i+1)*2^k)/base^i%base:=by rw[s3,t1]
 have he:x*2^k/base=(a%base^(i+1)*2^k)/base^(i+1)%base:=by
  have e5:∀ Z:Nat,Z/base^(i+1)=Z/base^i/base:=λZ=>by rw[dG,ll]
  rw[e5,s3,t2];exact(dW (cG t3 (dq (df d_ hk) d_))).symm
 have jI:=jI _ _ hd he;have h64:x*2^k<18446744073709551616:=by have h1:x*2^k<=(base-1)*2^31:=qG o_ (df d_ hk);exact fq h1 d_
 have w25:IntKind.u32.wrap ((x:Int)*2^(min k IntKind.u32.bits))=((x*2^k%base:Nat):Int):=by
  have e:(x:Int)*2^k=((x*2^k:Nat):Int):=by simp
  rw[show min k IntKind.u32.bits=k from oP (by show k<=32;omega),ow,e];unfold base;omega
 have w34:IntKind.u64.wrap ((x:Int)*2^(min k IntKind.u64.bits))=((x*2^k:Nat):Int):=by
  have e:(x:Int)*2^k=((x*2^k:Nat):Int):=by simp
  rw[show min k IntKind.u64.bits=k from oP (by show k<=64;omega),kp,e];omega
 have q1:x*2^k%base<base:=cM _ d_;have q2:c<base:=cG s2 (dq (df d_ hk) d_);have q3:x*2^k/base<base:=cG t3 (dq (df d_ hk) d_);have KS:fo prog 181 (ao (ae base (n+1) (a%base^i*2^k))) i (aY (c||| x*2^k%base))=some (ao ((ae base (n+1) (a%base^i*2^k)).set i (c||| x*2^k%base))):=by rw[zG _ _ _ (by simp[ao,pq];omega),zH]
 have TT:fo prog 181 (ao ((ae base (n+1) (a%base^i*2^k)).set i (c||| x*2^k%base))) (i+1) (aY (x*2^k/base))=some (ao (ae base (n+1) (a%base^(i+1)*2^k))):=by rw[zG _ _ _ (by simp[ao,pq];omega),zH,jI]
 generalize x*2^k=y at *;generalize lO:(c||| y%base)=d at *;exact aE [.lt 15 i n true (by simp[hi]),.ix f220 17 0 n i hi k_,.ld f220 18 181 0 i (.view (ao (ae base n a))) (aY x) rfl (by rw[gj,<-Ie];exact lq (eP hi)) k_,.ix f220 21 1 (n+1) i o_ k_,.ld f220 22 181 1 i (.row (ao (ae base (n+1) (a%base^i*2^k))) 181 1) (aY c) rfl (by rw[gj];exact jm) k_,.shl f220 25 .u32 (x:Int) ((y%base:Nat):Int) k w25 k_,.quo 26 .u32 _ ((d:Nat):Int) ((Tl q2 q1).trans (by rw[lO])),.ix f220 27 1 (n+1) i o_ k_,.st f220 100027 181 1 i (.row (ao (ae base (n+1) (a%base^i*2^k))) 181 1) (aY d) (.row (ao ((ae base (n+1) (a%base^i*2^k)).set i d)) 181 1) rfl KS rfl k_,.sum 30 i 1 (i+1) rfl o_,.wr 32 .u64 (x:Int) (x:Int) (by rw[kp];unfold base at hx;omega),.shl f220 34 .u64 (x:Int) (y:Int) k w34 k_,.quo 35 .u64 ((y:Int).fdiv ((2:Int)^32)) ((y/base:Nat):Int) (by rw[sT _ d_];unfold base;omega),.wr 36 .u32 ((y/base:Nat):Int) ((y/base:Nat):Int) (by rw[ow];unfold base at q3 ⊢;omega),.ix f220 37 1 (n+1) (i+1) o_ k_,.st f220 100037 181 1 (i+1) (.row (ao ((ae base (n+1) (a%base^i*2^k)).set i d)) 181 1) (aY (y/base)) (.row (ao (ae base (n+1) (a%base^(i+1)*2^k))) 181 1) rfl TT rfl k_,.sum 38 i 1 (i+1) rfl o_]
theorem TU(hk:k<=31)(h63:n<35184372088832):
  ai prog Bs 40 (.block 0 (ah f220 0)) (s7 n a k 0) (pD n a k 0) 2 ⟨.normal,s7 n a k n,pD n a k n,2⟩:=
 cd (cA (b:=aJ (ah f220 0)) (r:=⟨.exit 0,s7 n a k n,pD n a k n,2⟩) n (s7 n a k) (pD n a k) (λi t _=>km (l:=pD n a k i) (m:=pD n a k 0) rfl t) (λi hi=>TS hi hk h63)
  (aE [.lt 15 n n false s_]) n_)
end
def aBa(w w':h_)(v:i_)(n a:Nat):Prop:=w'.ownsRow w.heap.size 181 1 v n (ao (ae base n a))
theorem aKf{a k:Nat}(gJ:iQ w va a)(hk:k<=31)(h1:nd base a<35184372088832):
  Calls prog 220 #[va,vI k] w λe w'=>∃ v,e=.returned v/\aBa w w' v (nd base a+1) (a*2^k)/\Below w.heap.size w w':=by
 have al:=ew (B:=base) d_ a;have hl:∀ s∈[cH.row va (nd base a) (ao (ae base (nd base a) a)),.plain (vI k)],s.OK w:=by
  intro s hs;simp at hs;rcases hs with rfl|rfl
  ·exact⟨gJ,fT _⟩
  ·exact rfl
 unfold iQ at gJ;generalize nd base a=n at *;have bh:a%base^n=a:=dW al
 refine mh (Q:=λe w'=>∃ v,e=.returned v/\aBa w w' v (n+1) (a*2^k)/\Below w.heap.size w w') mixed func220 [cH.row va n (ao (ae base n a)),.plain (vI k)] hl 100 (N:=40) k_
  (rs:=[(bd.sum 10 n 1 (n+1) rfl o_:bd prog (aa.at w) 40),.qD f220 11 1 (n+1) 181 4 (aY 0) (ao (ae base (n+1) (a%base^0*2^k))) (by rw[sU,uf,lP,Tr,FA]) rfl rfl o_ (by simp[maxLen];omega) k_,.code 0 _ _ _ _ _ (TU (n:=n) (a:=a) hk h1)])
  (v:=sl 1 (n+1)) (ms:=[(1,.row (ao (ae base (n+1) (a%base^n*2^k))) 181 1)]) k_ λaz cr v' w' hc bE dQ _=>⟨v',rfl,?_,bE.base⟩
 have:=xI bE (dQ _ (aT ..)) hc (by simp[ao,pq]) (fT _);rw[kT (by simp[ao,pq]),bh]at this;exact this
def bl(x:Nat):Nat:=if x=0 then 0 else x.log2+1
theorem TV{x k:Nat}(h:2^k<=x):bl x=bl (x/2^k)+k:=by
 have hp:0<2^k:=cP d_;have hx:x≠0:=by omega
 have hq:0<x/2^k:=OL h hp;unfold bl;rw[av hx,av o_];have h1:=aBb (n:=x/2^k) o_;have h2:=Nat.lt_log2_self (n:=x/2^k);have e:x.log2=(x/2^k).log2+k:=by
  rw[Nat.log2_eq_iff hx];constructor
  ·rw[eR];exact(DL hp).1 h1
  ·rw[show(x/2^k).log2+k+1=((x/2^k).log2+1)+k by omega,eR];exact(iP hp).1 h2
 omega
theorem aBc{x n:Nat}(h:x<2^n):bl x<=n:=by
 unfold bl;split
 ·omega
 ·rename_i hx;have:=aBb hx;rcases e7 x.log2 n with h1|h1
  ·omega
  ·have:=df (show 0<2 by decide) h1;omega
theorem aKg{x:Nat}(h:x≠0):∃ k,bl x=k+1/\2^k<=x/\x<2^(k+1):=by refine⟨x.log2,by unfold bl;rw[av h],aBb h,Nat.lt_log2_self⟩
section
variable{P:j_}{B:aa}{N:Nat}
theorem aKh{o:Oper}(ho:HX P o=true){kd:IntKind}{s:ByteArray}{i:Nat}{c:UInt8}(hc:s[i]?=some c):cI P B o [.string s,.int kd i] [] (.int .u8 (c.toNat:Int)) []:=by
 unfold HX at ho;split at ho
 ·rename_i t p q cg;split at ho
  ·rename_i ht;refine(C7 (λu hu=>by simp at hu;rcases hu with rfl|rfl<;>rfl) rfl λρ gp w _=>?_).step;rw[cg]at gp;simp[Op.operands]at gp;have h0:(0:Int)<=(i:Int):=by omega
   simp[execOp,cg,gp.1,gp.2,Instr.index,asIntOf,jJ ht,h0,hc]
  ·cases ho
 ·cases ho
def bd.OM(fn:Func)(key:Nat)(kd:IntKind)(s:ByteArray)(i:Nat)(c:UInt8)(hc:s[i]?=some c)(ho:HX P (aw fn key)=true):bd P B N:=
 .step key (aw fn key) [.string s,.int kd i] [] (.int .u8 (c.toNat:Int)) [] (aKh ho hc)
end
noncomputable def Ig:ByteArray:=match (aw f233 16).op with|.index _ (.const (.string s)) _=>s|_=>default
theorem aKi:∀ i,i<256->Ig[i]?=some (UInt8.ofNat (bl i)):=by decide +kernel
theorem aKj{x:Nat}(hx:x<base):aF prog 233 [aY x] (vI (bl x)):=by
 have fin:∀ z,z<256->∃ c:UInt8,Ig[z]?=some c/\c.toNat=bl z:=λz hz=>⟨_,aKi z hz,by have:=aBc (x:=z) (n:=8) hz;rw[OB];exact dW o_⟩
 have w8:∀ z,z<256->IntKind.u8.wrap ((z:Nat):Int)=(z:Int):=λz h=>by rw[aAR];omega
 have shr:∀(z k:Nat),(z:Int).fdiv ((2:Int)^k)=((z/2^k:Nat):Int):=λz k=>by rw[sT _ (H8 d_),ug,H9];rfl
 by_cases h1:65536<=x
 ·have e1:=TV (k:=16) h1;obtain⟨y,hy⟩:∃ y,y=x/2^16:=⟨_,rfl⟩;have HB:y<65536:=by rw[hy];unfold base at hx;omega
  by_cases h2:256<=y
  ·have e2:=TV (x:=y) (k:=8) h2;obtain⟨z,hz⟩:∃ z,z=y/2^8:=⟨_,rfl⟩;have B8:z<256:=by rw[hz];omega
   obtain⟨c,c1,c2⟩:=fin z B8;have e:bl x=24+c.toNat:=by rw[e1,<-hy,e2,<-hz,c2];omega
   rw[e];exact aN func233 (λ_=>[.ge 4 x 65536 true (by simp[h1]),.quo 6 .u32 ((x:Int).fdiv ((2:Int)^16)) (y:Int) (by rw[shr,hy]),.ge 8 y 256 true (by simp[h2]),.quo 10 .u32 ((y:Int).fdiv ((2:Int)^8)) (z:Int) (by rw[shr,hz]),.wr 15 .u8 (z:Int) (z:Int) (w8 z B8),.OM f233 16 .u8 Ig z c c1 k_,.wr 17 .i64 (c.toNat:Int) (c.toNat:Int) (by rw[dh];have:=c.toNat_lt;omega),.sum 18 24 c.toNat (24+c.toNat) rfl (by have:=c.toNat_lt;omega)])
  ·obtain⟨c,c1,c2⟩:=fin y o_;have e:bl x=16+c.toNat:=by rw[e1,<-hy,c2];omega
   rw[e];exact aN func233 (λ_=>[.ge 4 x 65536 true (by simp[h1]),.quo 6 .u32 ((x:Int).fdiv ((2:Int)^16)) (y:Int) (by rw[shr,hy]),.ge 8 y 256 false (by simp;omega),.wr 15 .u8 (y:Int) (y:Int) (w8 y o_),.OM f233 16 .u8 Ig y c c1 k_,.wr 17 .i64 (c.toNat:Int) (c.toNat:Int) (by rw[dh];have:=c.toNat_lt;omega),.sum 18 16 c.toNat (16+c.toNat) rfl (by have:=c.toNat_lt;omega)])
 ·by_cases h2:256<=x
  ·have e2:=TV (x:=x) (k:=8) h2;obtain⟨z,hz⟩:∃ z,z=x/2^8:=⟨_,rfl⟩;have B8:z<256:=by rw[hz];omega
   obtain⟨c,c1,c2⟩:=fin z B8;have e:bl x=8+c.toNat:=by rw[e2,<-hz,c2];omega
   rw[e];exact aN func233 (λ_=>[.ge 4 x 65536 false (by simp;omega),.ge 8 x 256 true (by simp[h2]),.quo 10 .u32 ((x:Int).fdiv ((2:Int)^8)) (z:Int) (by rw[shr,hz]),.wr 15 .u8 (z:Int) (z:Int) (w8 z B8),.OM f233 16 .u8 Ig z c c1 k_,.wr 17 .i64 (c.toNat:Int) (c.toNat:Int) (by rw[dh];have:=c.toNat_lt;omega),.sum 18 8 c.toNat (8+c.toNat) rfl (by have:=c.toNat_lt;omega)])
  ·obtain⟨c,c1,c2⟩:=fin x o_;have e:bl x=0+c.toNat:=by rw[c2];omega
   rw[e];exact aN func233 (λ_=>[.ge 4 x 65536 false (by simp;omega),.ge 8 x 256 false (by simp;omega),.wr 15 .u8 (x:Int) (x:Int) (w8 x o_),.OM f233 16 .u8 Ig x c c1 k_,.wr 17 .i64 (c.toNat:Int) (c.toNat:Int) (by rw[dh];have:=c.toNat_lt;omega),.sum 18 0 c.toNat (0+c.toNat) rfl (by have:=c.toNat_lt;omega)])
theorem aKk{x:Nat}(hx:x<base):aF prog 219 [aY x] (vI (32-bl x)):=
 aN func219 (λ_=>[(aKj hx).at 4,.fp 5 32 (bl x) (32-bl x) (by have:=aBc (x:=x) (n:=32) hx;omega) o_])
def qK(x:Nat):Value:=.int .u64 (x:Int)
theorem rN{x:Nat}(h:x<18446744073709551616):IntKind.u64.wrap (x:Int)=(x:Int):=by rw[kp];omega
theorem TW{x:Nat}(h:x<base):IntKind.u64.wrap ((x:Int)*2^32)=((x*base:Nat):Int):=by
 have e:(x:Int)*2^32=((x*base:Nat):Int):=by rw[oO];rfl
 rw[e];exact rN (by have:=B4 (k:=base) h d_;exact cG this d_)
theorem TX{x y:Nat}(hx:x<base)(hy:y<base):IntKind.u64.wrap (((BitVec.ofInt IntKind.u64.bits ((x*base:Nat):Int))||| (BitVec.ofInt IntKind.u64.bits (y:Int))).toNat:Int)=((x*base+y:Nat):Int):=by
 have h1:x*base<18446744073709551616:=by have:=B4 (k:=base) hx d_;exact cG this d_
 have h2:=Ot (i:=32) hy x;rw[Tw h1 (mU hy d_),cX x base];exact cO _ h2.symm
section
variable{Bs:aa}{j m L R V T v1 v2 u2:Nat}
def us(j m:Nat):Value:=.slice (some ⟨0,j,some 7⟩) (m+1) j
def lA(j m q r:Nat):aX:=[(7,qK q),(8,qK r),(5,vI m),(0,us j m),(1,sl 1 m)]
def iD(L R m V:Nat):aL:=[(0,.row (ao (ae base L R)) 181 1),(1,.view (ao (ae base m V)))]
structure DG(j e L R V T v1 v2 u2:Nat):Prop where
 ds:mV base e (R/base^j) V T u2 v1 v2
 hL:j+(e+2)+1<=L
 hV:V<base^(e+2)
 h63:L<35184372088832
section
variable{e:Nat}(h:DG j e L R V T v1 v2 u2)
include h
theorem DG.hR:R/base^j<base^(e+3):=by have h1:=h.ds.hU;have h2:V*base<=base^(e+2)*base:=eV _ (jl h.hV);rw[<-dG]at h2;exact cG h1 h2
theorem DG.ud{i:Nat}(hi:i<=e+2):(ao (ae base L R))[j+i]?=some (aY (R/base^j/base^i%base)):=by rw[<-Ib];exact lq (eP (by have:=h.hL;omega))
omit h in
theorem DG.vd{i:Nat}(hi:i<e+2):(ao (ae base (e+2) V))[i]?=some (aY (V/base^i%base)):=lq (eP hi)
theorem DG.TY:V/base^(e+1)%base=v1:=by rw[h.ds.kB];exact Fx h.hV
theorem DG.aBd:R/base^j/base^(e+2)%base*base+R/base^j/base^(e+1)%base=T:=by rw[Fx (h.hR),h.ds.hT,<-xN]
theorem DG.u2d:R/base^j/base^e%base=u2:=h.ds.hu.symm
theorem DG.v2d:V/base^e%base=v2:=h.ds.iz.symm
end
noncomputable def TZ{e:Nat}(h:DG j e L R V T v1 v2 u2)(q r:Nat)(Ih:q<base)(hr:r<base)(tr:Bool)(hq:tr=decide (r*base+u2<q*v2))(more:bM prog Bs 159):bM prog Bs 159:=
 have iz:v2<base:=by rw[h.ds.iz];exact cM _ d_
 have e6:u2<base:=by rw[h.ds.hu];exact cM _ d_
 have hp:q*v2<18446744073709551616:=cG (qE Ih iz) d_;
  .ge 48 q 4294967296 false (by simp;exact Ih)::.fp 53 (e+2) 2 e rfl (by have:=h.hL;have:=h.h63;omega)::.ix f221 54 1 (e+2) e o_ k_::
  .ld f221 55 181 1 e (.view (ao (ae base (e+2) V))) (aY v2) rfl (by rw[gj,<-h.v2d];exact DG.vd o_) k_::.wr 56 .u64 (v2:Int) (v2:Int) (rN (mU iz d_))::
  .wr 57 .u64 ((q:Int)*(v2:Int)) ((q*v2:Nat):Int) (by rw[<-oO];exact rN hp)::.wr 59 .u64 ((r:Int)*2^32) ((r*base:Nat):Int) (TW hr)::
  .fp 62 (e+2) 2 e rfl (by have:=h.hL;have:=h.h63;omega)::.xK f221 63 0 j (e+3) j e o_ k_::
  .ld f221 64 181 0 (j+e) (.row (ao (ae base L R)) 181 1) (aY u2) rfl (by rw[gj,<-h.u2d];exact h.ud o_) k_::.wr 65 .u64 (u2:Int) (u2:Int) (rN (mU e6 d_))::
  .quo 66 .u64 _ ((r*base+u2:Nat):Int) (TX hr e6)::.gt 67 (q*v2) (r*base+u2) tr hq.symm::more
noncomputable def ON{e:Nat}(h:DG j e L R V T v1 v2 u2)(q r:Nat)(hq:0<q/\q<18446744073709551616)(hr:r<base)(tr:Bool)(ht:tr=decide (base<=r+v1)):bM prog Bs 159:=
 have kB:v1<base:=h.ds.DK;
 [.wr 70 .u64 ((q:Int)-1) ((q-1:Nat):Int) (by rw[kp];omega),.fp 74 (e+2) 1 (e+1) rfl (by have:=h.hL;have:=h.h63;omega),.ix f221 75 1 (e+2) (e+1) o_ k_,.ld f221 76 181 1 (e+1) (.view (ao (ae base (e+2) V))) (aY v1) rfl (by rw[gj,<-h.TY];exact DG.vd o_) k_,.wr 77 .u64 (v1:Int) (v1:Int) (rN (mU kB d_)),.wr 78 .u64 ((r:Int)+(v1:Int)) ((r+v1:Nat):Int) (by rw[<-wK];exact rN (by unfold base at hr kB;omega)),.ge 80 (r+v1) 4294967296 tr ht.symm]
section
variable{e:Nat}(h:DG j e L R V T v1 v2 u2)
include h
theorem aBe(Ih:q<base)(hr:r<base)(hq:q*v2<=r*base+u2):
  ai prog Bs 159 (aJ (ah f221 0)) (lA j (e+2) q r) (iD L R (e+2) V) 2 ⟨.exit 0,lA j (e+2) q r,iD L R (e+2) V,2⟩:=
 aE (TZ h q r Ih hr false (by simp;omega) [])
theorem aKl(hq:0<q/\q<18446744073709551616)(hr:r<base)(hc:base<=q\/r*base+u2<q*v2)(ht:r+v1<base):
  ai prog Bs 159 (aJ (ah f221 0)) (lA j (e+2) q r) (iD L R (e+2) V) 2 ⟨.normal,lA j (e+2) (q-1) (r+v1),iD L R (e+2) V,2⟩:=by
 by_cases hb:base<=q
 ·exact aE (.ge 48 q 4294967296 true (by simp;exact hb)::ON h q r hq hr false (by simp;omega))
 ·exact aE (TZ h q r o_ hr true (by simp[hc.resolve_left hb]) (ON h q r hq hr false (by simp;omega)))
theorem aBf(hq:0<q/\q<18446744073709551616)(hr:r<base)(hc:base<=q\/r*base+u2<q*v2)(ht:base<=r+v1):
  ai prog Bs 159 (aJ (ah f221 0)) (lA j (e+2) q r) (iD L R (e+2) V) 2 ⟨.exit 0,lA j (e+2) (q-1) (r+v1),iD L R (e+2) V,2⟩:=by
 by_cases hb:base<=q
 ·exact aE (.ge 48 q 4294967296 true (by simp;exact hb)::ON h q r hq hr true (by simp;omega))
 ·exact aE (TZ h q r o_ hr true (by simp[hc.resolve_left hb]) (ON h q r hq hr true (by simp;omega)))
theorem aKm:∃ q r,ai prog Bs 159 (.block 0 (ah f221 0)) (lA j (e+2) (T/v1) (T%v1)) (iD L R (e+2) V) 2 ⟨.normal,lA j (e+2) q r,iD L R (e+2) V,2⟩/\q<base/\q*V<R/base^j+V/\R/base^j/V<=q:=by
 have kB:v1<base:=h.ds.DK;have xZ:=h.ds.top;have FQ:0<v1:=by unfold base at xZ;omega
 have nK:T%v1<v1:=cM _ FQ;have g0:=h.ds.start;have sm:∀{q r},B3 (R/base^j) V T v1 q r->q<18446744073709551616:=λg=>fq (h.ds.aJ0 g) d_;have one:∀{q r q' r':Nat},ai prog Bs 159 (.loop (aJ (ah f221 0))) (lA j (e+2) q r) (iD L R (e+2) V) 2 ⟨.exit 0,lA j (e+2) q' r',iD L R (e+2) V,2⟩->
   ai prog Bs 159 (.block 0 (ah f221 0)) (lA j (e+2) q r) (iD L R (e+2) V) 2 ⟨.normal,lA j (e+2) q' r',iD L R (e+2) V,2⟩:=λg=>cd (id:=0) g
 have zero:∀{q r:Nat} {o:mQ},o.ex≠.normal->ai prog Bs 159 (aJ (ah f221 0)) (lA j (e+2) q r) (iD L R (e+2) V) 2 o->ai prog Bs 159 (.loop (aJ (ah f221 0))) (lA j (e+2) q r) (iD L R (e+2) V) 2 o:=λ{q r o} ho g=>
  cA (P:=prog) (B:=Bs) (N:=159) (b:=aJ (ah f221 0)) (next:=2) 0 (λ_=>lA j (e+2) q r) (λ_=>iD L R (e+2) V) (λ_ _ _=>Iff.rfl) (λi hi=>by omega) g ho
 generalize T/v1=q0 at *;generalize T%v1=r0 at *;by_cases c1:base<=q0\/r0*base+u2<q0*v2
 ·obtain⟨p1,g1⟩:=h.ds.less g0 c1;by_cases t1:base<=r0+v1
  ·obtain⟨a1,a2⟩:=h.ds.fin g1 (.inr t1);exact⟨_,_,one (zero n_ (aBf h ⟨p1,sm g0⟩ o_ c1 t1)),a1,a2,g1.le⟩
  ·have t1:=Nat.not_le.1 t1;have two:∀{o:mQ},o.ex≠.normal->ai prog Bs 159 (aJ (ah f221 0)) (lA j (e+2) (q0-1) (r0+v1)) (iD L R (e+2) V) 2 o->ai prog Bs 159 (.loop (aJ (ah f221 0))) (lA j (e+2) q0 r0) (iD L R (e+2) V) 2 o:=λ{o} ho g=>
    cA (P:=prog) (B:=Bs) (N:=159) (b:=aJ (ah f221 0)) (next:=2) 1 (λi=>if i=0 then lA j (e+2) q0 r0 else lA j (e+2) (q0-1) (r0+v1)) (λ_=>iD L R (e+2) V) (λ_ _ _=>Iff.rfl) (λi hi=>by
     have:i=0:=by omega
     subst this;exact aKl h ⟨p1,sm g0⟩ o_ c1 t1) g ho
   by_cases c2:base<=q0-1\/(r0+v1)*base+u2<(q0-1)*v2
   ·obtain⟨p2,g2⟩:=h.ds.less g1 c2;have t2:=h.ds.aJZ r0;obtain⟨a1,a2⟩:=h.ds.fin g2 (.inr t2);exact⟨_,_,one (two n_ (aBf h ⟨p2,sm g1⟩ t1 c2 t2)),a1,a2,g2.le⟩
   ·have B9:q0-1<base/\(q0-1)*v2<=(r0+v1)*base+u2:=by
     constructor
     ·exact Nat.not_le.1 λhh=>c2 (.inl hh)
     ·exact KQ.1 λhh=>c2 (.inr hh)
    obtain⟨a1,a2⟩:=h.ds.fin g1 (.inl B9);exact⟨_,_,one (two n_ (aBe h B9.1 t1 B9.2)),a1,a2,g1.le⟩
 ·have Ca:q0<base/\q0*v2<=r0*base+u2:=by
   constructor
   ·exact Nat.not_le.1 λhh=>c1 (.inl hh)
   ·exact KQ.1 λhh=>c1 (.inr hh)
  obtain⟨a1,a2⟩:=h.ds.fin g0 (.inl Ca);exact⟨_,_,one (zero n_ (aBe h Ca.1 o_ Ca.2)),a1,a2,g0.le⟩
end
end
section
variable{Bs:aa}{j L R V T v1 v2 u2:Nat}
theorem Ii{L i R S t:Nat}(ht:t<L)(h:i<=t):(ao (dc base L i S R))[t]?=some (aY (R/base^t%base)):=lq (Dn ht h)
theorem KT{L i R S:Nat}(hi:i<L){d:Nat}(hd:d=S/base^i%base):fo prog 181 (ao (dc base L i S R)) i (aY d)=some (ao (dc base L (i+1) S R)):=by rw[zG _ i _ (by simp[ao,xM];omega),zH,zF hi hd]
def gA(j m R V q:Nat):Nat:=gK base j R (gz base m (R/base^j) V q)
def DO(j m R V q i:Nat):aX:=
 [(83,vI i),(82,vI m),(81,sl 1 m),(7,qK q),(9,qK (oW base q V i)),(10,aY (pB base (R/base^j) V q i)),(5,vI m),(0,us j m),(1,sl 1 m)]
def Cb(j m L R V q i:Nat):aL:=[(0,.row (ao (dc base L (j+i) (gA j m R V q) R)) 181 1),(1,.view (ao (ae base m V)))]
section
variable{e q:Nat}(h:DG j e L R V T v1 v2 u2)(hq:q<base)(oh:q*V<R/base^j+V)
include h hq oh
omit hq in
theorem DG.qle:q*V<=R/base^j+base^(e+3):=by have h1:V<=base^(e+3):=dq (jl h.hV) (df d_ o_);omega
omit hq in
theorem DG.sub{i:Nat}(hi:i<=e+2):aF prog 206 [aY (R/base^j/base^i%base),aY ((oW base q V i+q*(V/base^i%base))%base),aY (pB base (R/base^j) V q i)]
  (.tuple #[aY (gA j (e+2) R V q/base^(j+i)%base),aY (pB base (R/base^j) V q (i+1))]):=by
 have hb:pB base (R/base^j) V q i<=1:=Oc _ _ _;have:=aAn (x:=R/base^j/base^i%base) (y:=(oW base q V i+q*(V/base^i%base))%base) (b:=pB base (R/base^j) V q i) (cM _ d_) (cM _ d_) hb;rw[aJ7 d_ (h.qle oh) hi,aJ8 d_]at this;unfold gA;rw[xX d_];exact this
theorem aKn{i:Nat}(hi:i<e+2):
  ai prog Bs 159 (aJ (ah f221 2)) (DO j (e+2) R V q i) (Cb j (e+2) L R V q i) 2 ⟨.normal,DO j (e+2) R V q (i+1),Cb j (e+2) L R V q (i+1),2⟩:=by
 have hL:=h.hL;have h63:=h.h63;have xQ:=h.sub oh (show i<=e+2 by omega);have hc:=aAX (B:=base) d_ hq V i;have wD:=aJ2 (B:=base) d_ q V i;have hv:V/base^i%base<base:=cM _ d_;have bP:fo prog 181 (ao (dc base L (j+i) (gA j (e+2) R V q) R)) (j+i) (aY (gA j (e+2) R V q/base^(j+i)%base))=some (ao (dc base L (j+(i+1)) (gA j (e+2) R V q) R)):=KT o_ rfl;have T0:=DG.vd (V:=V) hi;have T1:(ao (dc base L (j+i) (gA j (e+2) R V q) R))[j+i]?=some (aY (R/base^j/base^i%base)):=by rw[<-Ib];exact Ii o_ (bC _)
 generalize R/base^j/base^i%base=x at *;generalize V/base^i%base=y at *;generalize hC:oW base q V i=C at *;have hp:q*y<18446744069414584321:=by have h1:q*y<=(base-1)*(base-1):=qG o_ o_;exact fq h1 d_
 have hs:C+q*y<18446744073709551616:=by unfold base at hc;omega
 have e1:DO j (e+2) R V q i=[(83,vI i),(82,vI (e+2)),(81,sl 1 (e+2)),(7,qK q),(9,qK C),(10,aY (pB base (R/base^j) V q i)),(5,vI (e+2)),(0,us j (e+2)),(1,sl 1 (e+2))]:=by unfold DO;rw[hC]
 rw[e1];generalize hP:q*y=W at *;exact aE [.lt 84 i (e+2) true (by simp[hi]),.ix f221 86 1 (e+2) i hi k_,.ld f221 87 181 1 i (.view (ao (ae base (e+2) V))) (aY y) rfl (by rw[gj];exact T0) k_,.wr 91 .u64 (y:Int) (y:Int) (rN (mU hv d_)),.wr 92 .u64 ((q:Int)*(y:Int)) (W:Int) (by rw[<-oO,hP];exact rN o_),.wr 93 .u64 ((C:Int)+(W:Int)) ((C+W:Nat):Int) (by rw[<-wK];exact rN hs),.xK f221 99 0 j (e+3) j i o_ k_,.ld f221 100 181 0 (j+i) (.row (ao (dc base L (j+i) (gA j (e+2) R V q) R)) 181 1) (aY x) rfl (by rw[gj];exact T1) k_,.wr 102 .u32 ((C+W:Nat):Int) (((C+W)%base:Nat):Int) (by rw[ow];unfold base;omega),xQ.at 104,.xK f221 107 0 j (e+3) j i o_ k_,.st f221 100107 181 0 (j+i) (.row (ao (dc base L (j+i) (gA j (e+2) R V q) R)) 181 1) (aY (gA j (e+2) R V q/base^(j+i)%base)) (.row (ao (dc base L (j+(i+1)) (gA j (e+2) R V q) R)) 181 1) rfl bP rfl k_,.quo 109 .u64 (((C+W:Nat):Int).fdiv ((2:Int)^32)) ((oW base q V (i+1):Nat):Int) (by rw[sT _ d_,<-wD];unfold base;omega),.sum 110 i 1 (i+1) rfl o_]
omit h hq oh in
theorem aKo:Cb j (e+2) L R V q 0=iD L R (e+2) V:=by unfold Cb iD gA;rw[jf,OH d_]
theorem aKp:ai prog Bs 159 (.block 2 (ah f221 2)) (DO j (e+2) R V q 0) (iD L R (e+2) V) 2 ⟨.normal,DO j (e+2) R V q (e+2),Cb j (e+2) L R V q (e+2),2⟩:=by
 rw[<-aKo (q:=q)];exact cd (id:=2) (cA (b:=aJ (ah f221 2)) (r:=⟨.exit 2,DO j (e+2) R V q (e+2),Cb j (e+2) L R V q (e+2),2⟩) (e+2) (DO j (e+2) R V q) (Cb j (e+2) L R V q) (λi t _=>km (l:=Cb j (e+2) L R V q i) (m:=Cb j (e+2) L R V q 0) rfl t)
  (λi hi=>aKn h hq oh hi) (aE [.lt 84 (e+2) (e+2) false s_]) n_)
end
def oz(j m R V q:Nat):Nat:=gK base j R ((gz base m (R/base^j) V q+V)%base^(m+1))
def Ij(j m R V q i:Nat):aX:=
 [(131,vI i),(130,vI m),(129,sl 1 m),(13,aY (e9 base (gz base m (R/base^j) V q) V i)),(7,qK (q-1)),(5,vI m),(0,us j m),(1,sl 1 m)]
def Cc(j m L R V q i:Nat):aL:=[(0,.row (ao (dc base L (j+i) (oz j m R V q) (gA j m R V q))) 181 1),(1,.view (ao (ae base m V)))]
section
variable{e q:Nat}(h:DG j e L R V T v1 v2 u2)
include h
theorem aKq{i:Nat}(hi:i<e+2):
  ai prog Bs 159 (aJ (ah f221 4)) (Ij j (e+2) R V q i) (Cc j (e+2) L R V q i) 2 ⟨.normal,Ij j (e+2) R V q (i+1),Cc j (e+2) L R V q (i+1),2⟩:=by
 have hL:=h.hL;have h63:=h.h63;have hc:=BJ (B:=base) d_ (gz base (e+2) (R/base^j) V q) V i;have zK:=KA (x:=gz base (e+2) (R/base^j) V q/base^i%base) (y:=V/base^i%base) (c:=e9 base (gz base (e+2) (R/base^j) V q) V i) (cM _ d_) (cM _ d_) (fq hc d_);rw[TP d_ (show i<=e+2 by omega),Fy d_]at zK;have bP:fo prog 181 (ao (dc base L (j+i) (oz j (e+2) R V q) (gA j (e+2) R V q))) (j+i) (aY ((gz base (e+2) (R/base^j) V q+V)%base^(e+2+1)/base^i%base))=some (ao (dc base L (j+(i+1)) (oz j (e+2) R V q) (gA j (e+2) R V q))):=
  KT o_ (by unfold oz;rw[xX d_])
 have T0:=DG.vd (V:=V) hi;have T1:(ao (dc base L (j+i) (oz j (e+2) R V q) (gA j (e+2) R V q)))[j+i]?=some (aY (gz base (e+2) (R/base^j) V q/base^i%base)):=by have:=Ii (L:=L) (i:=j+i) (R:=gA j (e+2) R V q) (S:=oz j (e+2) R V q) (t:=j+i) o_ (bC _);rw[this];unfold gA;rw[xX d_]
 exact aE [.lt 132 i (e+2) true (by simp[hi]),.ix f221 134 1 (e+2) i hi k_,.ld f221 135 181 1 i (.view (ao (ae base (e+2) V))) (aY (V/base^i%base)) rfl (by rw[gj];exact T0) k_,.xK f221 141 0 j (e+3) j i o_ k_,.ld f221 142 181 0 (j+i) (.row (ao (dc base L (j+i) (oz j (e+2) R V q) (gA j (e+2) R V q))) 181 1) (aY (gz base (e+2) (R/base^j) V q/base^i%base)) rfl (by rw[gj];exact T1) k_,zK.at 145,.xK f221 148 0 j (e+3) j i o_ k_,.st f221 100148 181 0 (j+i) (.row (ao (dc base L (j+i) (oz j (e+2) R V q) (gA j (e+2) R V q))) 181 1) (aY ((gz base (e+2) (R/base^j) V q+V)%base^(e+2+1)/base^i%base)) (.row (ao (dc base L (j+(i+1)) (oz j (e+2) R V q) (gA j (e+2) R V q))) 181 1) rfl bP rfl k_,.sum 149 i 1 (i+1) rfl o_]
omit h in
theorem aKr:Cc j (e+2) L R V q 0=iD L (gA j (e+2) R V q) (e+2) V:=by unfold Cc iD oz;rw[jf,<-aAY (B:=base) d_ j R (gz base (e+2) (R/base^j) V q)];unfold gA;rw[OH d_]
theorem aKs:ai prog Bs 159 (.block 4 (ah f221 4)) (Ij j (e+2) R V q 0) (iD L (gA j (e+2) R V q) (e+2) V) 2 ⟨.normal,Ij j (e+2) R V q (e+2),Cc j (e+2) L R V q (e+2),2⟩:=by
 rw[<-aKr (q:=q)];exact cd (id:=4) (cA (b:=aJ (ah f221 4)) (r:=⟨.exit 4,Ij j (e+2) R V q (e+2),Cc j (e+2) L R V q (e+2),2⟩) (e+2) (Ij j (e+2) R V q) (Cc j (e+2) L R V q) (λi t _=>km (l:=Cc j (e+2) L R V q i) (m:=Cc j (e+2) L R V q 0) rfl t)
  (λi hi=>aKq h hi) (aE [.lt 132 (e+2) (e+2) false s_]) n_)
end
noncomputable def aBg{e:Nat}(h:DG j e L R V T v1 v2 u2)(hq:q<base)(oh:q*V<R/base^j+V)
  (hg:ai prog Bs 159 (.block 0 (ah f221 0)) (lA j (e+2) (T/v1) (T%v1)) (iD L R (e+2) V) 2 ⟨.normal,lA j (e+2) q r,iD L R (e+2) V,2⟩) (more:bM prog Bs 159):bM prog Bs 159:=
 have hL:=h.hL;have h63:=h.h63;have hx:R/base^j/base^(e+2)%base<base:=cM _ d_;have hy:R/base^j/base^(e+1)%base<base:=cM _ d_;have kB:v1<base:=h.ds.DK;have FQ:(v1:Int)≠0:=by have:=h.ds.top;unfold base at this;omega
 have hT:T<18446744073709551616:=by
  rw[<-h.aBd];have:R/base^j/base^(e+2)%base*base<=(base-1)*base:=eV _ o_;have e3:(base-1)*base=18446744069414584320:=by decide
  rw[e3]at this;clear e3;unfold base at *;omega
 have hc:=aAX (B:=base) d_ hq V (e+2);have h0:V/base^(e+2)%base=0:=rH h.hV (bC _) d_;have xQ:=h.sub oh (bC (e+2))
 have aKt:aF prog 206 [aY (R/base^j/base^(e+2)%base),aY (oW base q V (e+2)),aY (pB base (R/base^j) V q (e+2))]
   (.tuple #[aY (gA j (e+2) R V q/base^(j+(e+2))%base),aY (pB base (R/base^j) V q (e+3))]):=by
  rw[h0,Nat.mul_zero,jf (oW base q V (e+2)),dW hc]at xQ;exact xQ
 have jm:(ao (dc base L (j+(e+2)) (gA j (e+2) R V q) R))[j+(e+2)]?=some (aY (R/base^j/base^(e+2)%base)):=by rw[<-Ib];exact Ii o_ (bC _)
 have bP:fo prog 181 (ao (dc base L (j+(e+2)) (gA j (e+2) R V q) R)) (j+(e+2)) (aY (gA j (e+2) R V q/base^(j+(e+2))%base))=some (ao (ae base L (gA j (e+2) R V q))):=by
  rw[KT o_ rfl,show j+(e+2)+1=j+(e+3)by omega,FO d_]
  ·have:=h.hR;have h2:=Ia (B:=base) d_ (j:=j) R this;rw[aJ3]at h2;exact h2
  ·exact Ia d_ R (TN d_);
 .xK f221 20 0 j (e+3) j (e+2) o_ k_::.ld f221 21 181 0 (j+(e+2)) (.row (ao (ae base L R)) 181 1) (aY (R/base^j/base^(e+2)%base)) rfl (by rw[gj];exact h.ud (bC _)) k_::
 .wr 22 .u64 ((R/base^j/base^(e+2)%base:Nat):Int) ((R/base^j/base^(e+2)%base:Nat):Int) (rN (mU hx d_))::
 .wr 23 .u64 (((R/base^j/base^(e+2)%base:Nat):Int)*2^32) ((R/base^j/base^(e+2)%base*base:Nat):Int) (TW hx)::.fp 26 (e+2) 1 (e+1) rfl o_::
 .xK f221 27 0 j (e+3) j (e+1) o_ k_::.ld f221 28 181 0 (j+(e+1)) (.row (ao (ae base L R)) 181 1) (aY (R/base^j/base^(e+1)%base)) rfl (by rw[gj];exact h.ud o_) k_::
 .wr 29 .u64 ((R/base^j/base^(e+1)%base:Nat):Int) ((R/base^j/base^(e+1)%base:Nat):Int) (rN (mU hy d_))::.quo 30 .u64 _ ((T:Nat):Int) ((TX hx hy).trans (by rw[h.aBd]))::
 .fp 34 (e+2) 1 (e+1) rfl o_::.ix f221 35 1 (e+2) (e+1) o_ k_::.ld f221 36 181 1 (e+1) (.view (ao (ae base (e+2) V))) (aY v1) rfl (by rw[gj,<-h.TY];exact DG.vd o_) k_::
 .wr 37 .u64 (v1:Int) (v1:Int) (rN (mU kB d_))::.rI f221 38 .u64 (T:Int) v1 ((T/v1:Nat):Int) FQ (by rw[BP o_,<-ug];exact rN (fq (uh _ _) hT)) k_::
 .fp 42 (e+2) 1 (e+1) rfl o_::.ix f221 43 1 (e+2) (e+1) o_ k_::.ld f221 44 181 1 (e+1) (.view (ao (ae base (e+2) V))) (aY v1) rfl (by rw[gj,<-h.TY];exact DG.vd o_) k_::
 .wr 45 .u64 (v1:Int) (v1:Int) (rN (mU kB d_))::.vu f221 46 .u64 (T:Int) v1 ((T%v1:Nat):Int) FQ (by rw[wH o_];rfl) k_::
 .code 0 _ _ _ _ _ hg::.rw 9 (.int .u64 0) (qK (oW base q V 0)) (by rw[aJ1];rfl)::.rw 10 (.int .u32 0) (aY (pB base (R/base^j) V q 0)) (by unfold pB;rw[Th];rfl)::
 .code 2 _ _ _ _ _ (aKp h hq oh)::.xK f221 116 0 j (e+3) j (e+2) o_ k_::.ld f221 117 181 0 (j+(e+2)) (.row (ao (dc base L (j+(e+2)) (gA j (e+2) R V q) R)) 181 1) (aY (R/base^j/base^(e+2)%base)) rfl (by rw[gj];exact jm) k_::
 .wr 119 .u32 ((oW base q V (e+2):Nat):Int) ((oW base q V (e+2):Nat):Int) (by rw[ow];unfold base at hc ⊢;omega)::aKt.at 121::.xK f221 124 0 j (e+3) j (e+2) o_ k_::
 .st f221 100124 181 0 (j+(e+2)) (.row (ao (dc base L (j+(e+2)) (gA j (e+2) R V q) R)) 181 1) (aY (gA j (e+2) R V q/base^(j+(e+2))%base)) (.row (ao (ae base L (gA j (e+2) R V q))) 181 1) rfl bP rfl k_::more
theorem aKu{g cap c' e:Nat}(h:DG j e L R V T v1 v2 u2)(hg:w.heap[g]?=some (.cells cur 181 (0,0)))(hn:e+3<=c')(nA:j+c'=cap)(jS:cap<=maxLen)(bH:cur.size=cap*1)
  (hc:cur.toList.take (ao (ae base L R)).length=ao (ae base L R)) (hv:cW w u' (e+2) (ao (ae base (e+2) V))) (aQ:∀ b o c,u'=.slice (some ⟨b,o,none⟩) (e+2) c->b≠g) :
  Calls prog 221 #[.slice (some ⟨g,j,none⟩) (e+3) c',u'] w λex w'=>ex=.returned (aY (R/base^j/V))/\BL g w w'/\∃ gn,w'.heap[g]?=some (.cells gn 181 (0,0))/\gn.size=cap*1/\
   gn.toList.take (ao (ae base L (gK base j R (R/base^j%V)))).length=ao (ae base L (gK base j R (R/base^j%V))):=by
 obtain⟨q,r,vA,hq,oh,hle⟩:=aKm (Bs:=aa.wG w g) h;have hU:=h.ds.hU;have lR:=aKa (B:=base) d_ hq h.hV hU;have hL:=h.hL;have h63:=h.h63;have aWx:q<18446744073709551616:=mU hq d_;have key:∀(qq:Nat) (S:Nat) (rs:bM prog (aa.wG w g) 159),qq=R/base^j/V->S=gK base j R (R/base^j%V)->
   oq (gv (P:=prog) f221 100 (us j (e+2)::sP 1 [cH.row u' (e+2) (ao (ae base (e+2) V))]) ((0,.row (ao (ae base L R)) 181 1)::vo 1 [cH.row u' (e+2) (ao (ae base (e+2) V))]) (uc 1 [cH.row u' (e+2) (ao (ae base (e+2) V))]) rs) [(0,.row (ao (ae base L S)) 181 1)] =
    ou (gv f221 100 (us j (e+2)::sP 1 [cH.row u' (e+2) (ao (ae base (e+2) V))]) ((0,.row (ao (ae base L R)) 181 1)::vo 1 [cH.row u' (e+2) (ao (ae base (e+2) V))]) (uc 1 [cH.row u' (e+2) (ao (ae base (e+2) V))]) rs) (aY qq) [(0,.row (ao (ae base L S)) 181 1)]->
   Calls prog 221 #[.slice (some ⟨g,j,none⟩) (e+3) c',u'] w λex w'=>ex=.returned (aY (R/base^j/V))/\BL g w w'/\∃ gn,w'.heap[g]?=some (.cells gn 181 (0,0))/\gn.size=cap*1/\
    gn.toList.take (ao (ae base L (gK base j R (R/base^j%V)))).length=ao (ae base L (gK base j R (R/base^j%V))):=by
  rintro qq S rs rfl rfl Fl
  exact aJR (ms:=[]) (cells':=ao (ae base L (gK base j R (R/base^j%V)))) (v:=aY (R/base^j/V)) mixed func221 hg jS bH hc (fT _) (fT _) hn nA [cH.row u' (e+2) (ao (ae base (e+2) V))]
   (λs hs=>by simp at hs;subst hs;exact⟨hv,fT _⟩) (λs hs=>by simp at hs;subst hs;exact aQ) 100 (N:=159) k_ Fl λaz TK v' w' _ kz h1 h2 _ _=>⟨by rw[kz.eZ rfl],h1,h2⟩
 by_cases hb:R/base^j<q*V
 ·rw[aB hb]at lR;obtain⟨e1,e2⟩:=aA1 (B:=base) (m:=e+2) d_ h.hV hU oh hb;have e3:oz j (e+2) R V q=gK base j R (R/base^j%V):=by unfold oz;rw[e2]
  have h0:V/base^(e+2)%base=0:=rH h.hV (bC _) d_;have KU:=TP (B:=base) (m:=e+2) (V:=V) (D:=gz base (e+2) (R/base^j) V q) d_ (bC (e+2));rw[h0,jf (gz base (e+2) (R/base^j) V q/base^(e+2)%base)]at KU;have jm:(ao (dc base L (j+(e+2)) (oz j (e+2) R V q) (gA j (e+2) R V q)))[j+(e+2)]?=some (aY (gz base (e+2) (R/base^j) V q/base^(e+2)%base)):=by have:=Ii (L:=L) (i:=j+(e+2)) (R:=gA j (e+2) R V q) (S:=oz j (e+2) R V q) (t:=j+(e+2)) o_ (bC _);rw[this];unfold gA;rw[xX d_]
  have bP:fo prog 181 (ao (dc base L (j+(e+2)) (oz j (e+2) R V q) (gA j (e+2) R V q))) (j+(e+2)) (aY ((gz base (e+2) (R/base^j) V q+V)%base^(e+2+1)/base^(e+2)%base))=some (ao (ae base L (oz j (e+2) R V q))):=by
   rw[KT o_ (by unfold oz;rw[xX d_]),show j+(e+2)+1=j+(e+3)by omega,FO d_]
   ·exact Ia d_ R (TN d_)
   ·exact Ia d_ R (cM _ (cP d_))
  have hd:gz base (e+2) (R/base^j) V q/base^(e+2)%base<base:=cM _ d_;have gP:=BJ (B:=base) d_ (gz base (e+2) (R/base^j) V q) V (e+2);have hbk:=aKs (Bs:=aa.wG w g) (q:=q) h;have vB:q-1=R/base^j/V:=by rw[e1,OG]
  have nJ:0<q:=by rw[e1];exact T2 _
  refine key (q-1) (oz j (e+2) R V q) (aBg h hq oh vA [.rw 126 (.bool (((pB base (R/base^j) V q (e+3):Nat):Int)!=0)) b_ (by rw[show e+3=e+2+1 from rfl,lR];rfl),.wr 128 .u64 ((q:Int)-1) ((q-1:Nat):Int) (by rw[kp];omega),.rw 13 (.int .u32 0) (aY (e9 base (gz base (e+2) (R/base^j) V q) V 0)) (by rw[Ob];rfl),.code 4 _ _ _ _ _ hbk,.xK f221 152 0 j (e+3) j (e+2) o_ k_,.ld f221 153 181 0 (j+(e+2)) (.row (ao (dc base L (j+(e+2)) (oz j (e+2) R V q) (gA j (e+2) R V q))) 181 1) (aY (gz base (e+2) (R/base^j) V q/base^(e+2)%base)) rfl (by rw[gj];exact jm) k_,.wr 155 .u32 (((gz base (e+2) (R/base^j) V q/base^(e+2)%base:Nat):Int)+((e9 base (gz base (e+2) (R/base^j) V q) V (e+2):Nat):Int)) (((gz base (e+2) (R/base^j) V q+V)%base^(e+2+1)/base^(e+2)%base:Nat):Int)
    (by rw[<-KU,<-wK,ow];unfold base;omega),.xK f221 156 0 j (e+3) j (e+2) o_ k_,
   .st f221 100156 181 0 (j+(e+2)) (.row (ao (dc base L (j+(e+2)) (oz j (e+2) R V q) (gA j (e+2) R V q))) 181 1) (aY ((gz base (e+2) (R/base^j) V q+V)%base^(e+2+1)/base^(e+2)%base)) (.row (ao (ae base L (oz j (e+2) R V q))) 181 1) rfl bP rfl k_,
   .wr 158 .u32 ((q-1:Nat):Int) ((q-1:Nat):Int) (by rw[ow];unfold base at hq;omega)]) vB e3 k_
 ·rw[av hb]at lR;obtain⟨e1,e2⟩:=aA0 (B:=base) (m:=e+2) d_ h.hV hU hle hb;have e3:gA j (e+2) R V q=gK base j R (R/base^j%V):=by unfold gA;rw[e2]
  exact key q (gA j (e+2) R V q) (aBg h hq oh vA [.rw 126 (.bool (((pB base (R/base^j) V q (e+3):Nat):Int)!=0)) a_ (by rw[show e+3=e+2+1 from rfl,lR];rfl),.wr 158 .u32 (q:Int) (q:Int) (by rw[ow];unfold base at hq;omega)]) e1 e3 k_
end
section
variable{Bs:aa}{N:Nat}
theorem OO{o:Oper}{y:m_}(ho:dD o.op=some y){k n M a:Nat}{x:Obj}(hx:x.reads=true)(hc:x.cells=ao (ae base M a))(hnM:n<=M)(ha:a<base^n)(h63:n<=9223372036854775807){d:Nat}(hd:nd base a=d):
  cI prog Bs o [.func (.func 196) #[] #[],sl k n] [(k,some x)] (sl k d) []:=by
 subst hd;refine jV (fi:=[]) (ca:=[]) ho k_ λι c w hm hn args' du=>?_;obtain⟨v,rfl,h1⟩:=ob du;have hk:c k=some x:=hn _ (aT ..);have hr:=po (len:=n) hm hk hx (by rw[hc];exact fT _) (λh=>h) h1;have e:(ao (ae base M a)).take n=ao (ae base n a):=by unfold ao;rw[<-Dk,Kv hnM]
 rw[hc,mT,e]at hr;refine(aAg hr ha h63).mono ?_
 rintro e w' ⟨rfl,hb⟩
 refine⟨ι,_,rfl,Map.le.refl _,?_,hm.call hb⟩;have fv:=jy (B:=base) d_ ha;rcases h1.iF rfl with ⟨q1,q2,_,_,q5⟩|⟨b,oo,cap,c',q1,q2,q3,q5⟩
 ·rw[q5];have:nd base a=0:=by omega
  rw[this];exact .slcN q1
 ·rw[q5];exact .slc q1 o_ q3
theorem aBh{o:Oper}{y:m_}(ho:dD o.op=some y){a k n:Nat}(hx:qI x1 a)(hk:k<=31)(h1:nd base a<35184372088832)(mP:nd base a=n)(kn:Nat):
  cI prog Bs o [.func (.func 220) #[] #[],sl k1 n,vI k] [(k1,some x1),(kn,none)] (sl kn (n+1)) [(kn,.row (ao (ae base (n+1) (a*2^k))) 181 1)]:=by
 subst mP;refine jV (fi:=[]) (ca:=[]) ho k_ λι cc w hm hn args' bh=>?_;rw[jg,jL]at bh;obtain⟨va,vb,rfl,hv,iz⟩:=jv bh;rw[iz.eZ rfl];refine(aKf (B6 hm (hn _ (aT ..)) hx hv) hk h1).mono ?_
 rintro e w' ⟨v,rfl,h1,h2⟩
 obtain⟨az,q1,q2,q3⟩:=Fw hm h2 (k:=kn) (hn _ (bF _ (aT ..))) h1 (fT _);exact⟨az,v,rfl,q1,q3,q2⟩
def bd.part{P:j_}{B:aa}(fn:Func)(key k n l h s m off:Nat)(zo:l*s=off)(hh:h<=n)(hm:l+m=h)(h0:0<m)(ho:sR P (aw fn key)=some (true,true,s)):bd P B N:=
 .step key (aw fn key) [sl k n,vI l,vI h] [] (.slice (some ⟨k,off,some 7⟩) m l) [] (by
  subst zo;have:=HM (B:=B) ho (k:=k) (off:=0) (n:=n) (cc:=0) (l:=l) (h:=h) n_ n_ o_ hh (.inl o_);have e1:h-l=m:=by omega
  rw[e1,kA,kA]at this;exact this)
end
structure DV(e L A V:Nat):Prop where
 hV:V<base^(e+2)
 top:base<=2*(V/base^(e+1))
 hL:e+2+1<=L
 hA:A<V*base^(L-(e+2))
 h63:L<35184372088832
theorem DV.pos{e L A V:Nat}(h:DV e L A V):0<V:=by
 rcases oV V with e1|e1
 ·have:=h.hA;rw[e1,lP]at this;omega
 ·exact e1
variable{L A:Nat}
theorem DV.dg{e V j:Nat}(h:DV e L A V)(hj:j+(e+2)+1<=L):
  DG j e L (A%(V*base^(j+1))) V (A%(V*base^(j+1))/base^j/base^(e+1)) (V/base^(e+1)) (V/base^e%base) (A%(V*base^(j+1))/base^j/base^e%base) where
 ds:={ hB:=by decide,hU:=aA4 d_ h.pos A j,hT:=rfl,hu:=rfl,kB:=rfl,iz:=rfl,top:=h.top,DK:=by have:=h.hV;rw[iP (cP d_),cX,<-dG];exact this }
 hL:=hj
 hV:=h.hV
 h63:=h.h63
section
variable{Bs:aa}{e L A V M:Nat}
def Ik(e L p j:Nat):aX:=[(13,dw j),(12,sl 4 p),(10,sl 3 L),(9,sl 2 (e+2)),(11,vI (e+2))]
def Cd(L A V M p j:Nat):aL:=[(3,.row (ao (ae base L (A%(V*base^j)))) 181 1),(4,.row (ao (gY base p j (A/V))) 181 1),(2,.row (ao (ae base M V)) 181 1)]
theorem aKv(h:DV e L A V)(hM:e+2<=M){p j:Nat}(hp:p+(e+2)=L)(hj:j<p):
  ai prog Bs 110 (aJ (ah f194 0)) (Ik e L p (j+1)) (Cd L A V M p (j+1)) 5 ⟨.normal,Ik e L p j,Cd L A V M p j,5⟩:=by
 have h63:=h.h63;have hdg:=h.dg (j:=j) o_;have hr:=aA2 (B:=base) d_ A V j;have hq:=aA3 (B:=base) A V j;have bP:fo prog 181 (ao (gY base p (j+1) (A/V))) j (aY (A/V/base^j%base))=some (ao (gY base p j (A/V))):=by rw[zG _ _ _ (by simp[ao,Of];exact hj),zH,Oh hj rfl]
 have DP:(ao (ae base M V)).take (e+2)=ao (ae base (e+2) V):=by unfold ao;rw[<-Dk,Kv hM]
 have hw:cI prog Bs (aw f194 76) [.func (.func 221) #[] #[],.slice (some ⟨3,j,some 7⟩) (e+3) j,sl 2 (e+2)] [(3,some (.row (ao (ae base L (A%(V*base^(j+1))))) 181 1)),(2,some (.row (ao (ae base M V)) 181 1))]
   (aY (A/V/base^j%base)) [(3,.row (ao (ae base L (A%(V*base^j)))) 181 1)]:=by
  refine aJT (x:=.func 221) (TL:=e+2) k_ k_ d_ o_ (fT _) (fT _) rfl rfl (fT _) o_ λw g cap cur c' v2 hg lg nA jS bH hc hv aQ=>?_;have hv:cW w v2 (e+2) ((ao (ae base M V)).take (e+2)):=hv;rw[DP]at hv;have:=aKu hdg hg lg nA jS bH hc hv aQ;rw[hq,hr]at this;exact this
 exact aE [.rw 62 (dw (j+1)) (vI j) (eB j),.ge 63 j 0 true s_,.rw 67 (dw (j+1)) (vI j) (eB j),.rw 69 (dw (j+1)) (vI j) (eB j),.rw 70 (dw (j+1)) (vI j) (eB j),.sum 72 j (e+2) (j+(e+2)) rfl o_,.sum 73 (j+(e+2)) 1 (j+(e+3)) rfl o_,.part f194 74 3 L j (j+(e+3)) 1 (e+3) j (gS j) o_ rfl o_ k_,.step 76 _ _ _ _ _ hw,.ix f194 77 4 p j hj k_,.st f194 100077 181 4 j (.row (ao (gY base p (j+1) (A/V))) 181 1) (aY (A/V/base^j%base)) (.row (ao (gY base p j (A/V))) 181 1) rfl bP rfl k_,.rw 64 (dw (j+1)) (vI j) (eB j),.wr 65 .i64 ((j:Int)-1) ((j:Int)-1) (pA o_)]
theorem aKw(h:DV e L A V)(hM:e+2<=M){p:Nat}(hp:p+(e+2)=L):
  ai prog Bs 110 (.block 0 (ah f194 0)) (Ik e L p p) (Cd L A V M p p) 5 ⟨.normal,Ik e L p 0,Cd L A V M p 0,5⟩:=by
 have:=cA (P:=prog) (B:=Bs) (N:=110) (b:=aJ (ah f194 0)) (next:=5) (r:=⟨.exit 0,Ik e L p 0,Cd L A V M p 0,5⟩) p (λi=>Ik e L p (p-i)) (λi=>Cd L A V M p (p-i)) (λi t _=>km (l:=Cd L A V M p (p-i)) (m:=Cd L A V M p (p-0)) rfl t)
  (λi hi=>by
   have e1:p-i=(p-(i+1))+1:=by omega
   simp only[e1];exact aKv h hM hp o_)
  (by simp only[wI];exact aE [.rw 63 (.bool (decide (((0:Nat):Int)-1>=0))) a_ rfl]) n_
 exact cd (id:=0) this
section
variable{m X k p:Nat}
def Il(m L k i:Nat):aX:=[(83,vI i),(82,vI m),(14,sl 3 m),(10,sl 3 L),(8,vI k)]
def zU(L X k i:Nat):aL:=[(3,.row (ao (dc base L i (X/2^k) X)) 181 1)]
theorem aKx{i:Nat}(hi:i<m)(hmL:m+1<=L)(hk:k<=31)(h63:L<35184372088832):
  ai prog Bs 110 (aJ (ah f194 2)) (Il m L k i) (zU L X k i) 5 ⟨.normal,Il m L k (i+1),zU L X k (i+1),5⟩:=by
 have wo:(ao (dc base L i (X/2^k) X))[i+1]?=some (aY (X/base^(i+1)%base)):=Ii o_ o_;have ry:(ao (dc base L i (X/2^k) X))[i]?=some (aY (X/base^i%base)):=Ii o_ o_;have hd:=aA5 (B:=base) (k:=k) (X:=X) (i:=i) d_ ⟨2^(32-k),by rw[<-eR,show k+(32-k)=32 by omega]⟩;have bP:fo prog 181 (ao (dc base L i (X/2^k) X)) i (aY (X/2^k/base^i%base))=some (ao (dc base L (i+1) (X/2^k) X)):=KT o_ rfl;have hx:X/base^(i+1)%base<base:=cM _ d_;have hy:X/base^i%base<base:=cM _ d_;generalize X/base^(i+1)%base=x at *;generalize X/base^i%base=y at *;have hb:(x*base+y)/2^k<18446744073709551616:=fq (uh _ _) (by unfold base at *;omega);have lO:=TX hx hy;have hs:((x*base+y:Nat):Int).fdiv (2^(min k IntKind.u64.bits))=(((x*base+y)/2^k:Nat):Int):=by rw[show min k IntKind.u64.bits=k from oP (by show k<=64;omega),sT _ (H8 d_),ug,H9];rfl
 generalize (x*base+y)/2^k=z at *;exact aE [.lt 84 i m true (by simp[hi]),.sum 90 i 1 (i+1) rfl o_,.ix f194 91 3 L (i+1) o_ k_,.ld f194 92 181 3 (i+1) (.row (ao (dc base L i (X/2^k) X)) 181 1) (aY x) rfl (by rw[gj];exact wo) k_,.wr 93 .u64 (x:Int) (x:Int) (rN (mU hx d_)),.wr 94 .u64 ((x:Int)*2^32) ((x*base:Nat):Int) (TW hx),.ix f194 97 3 L i o_ k_,.ld f194 98 181 3 i (.row (ao (dc base L i (X/2^k) X)) 181 1) (aY y) rfl (by rw[gj];exact ry) k_,.wr 99 .u64 (y:Int) (y:Int) (rN (mU hy d_)),.quo 100 .u64 _ ((x*base+y:Nat):Int) lO,.shr f194 102 .u64 ((x*base+y:Nat):Int) (z:Int) k hs k_,.wr 103 .u32 (z:Int) ((X/2^k/base^i%base:Nat):Int) (by rw[ow,<-hd];unfold base;omega),.ix f194 104 3 m i hi k_,.st f194 100104 181 3 i (.row (ao (dc base L i (X/2^k) X)) 181 1) (aY (X/2^k/base^i%base)) (.row (ao (dc base L (i+1) (X/2^k) X)) 181 1) rfl bP rfl k_,.sum 105 i 1 (i+1) rfl o_]
theorem aKy(hX:X<base^m)(hmL:m+1<=L)(hk:k<=31)(h63:L<35184372088832):
  ai prog Bs 110 (.block 2 (ah f194 2)) (Il m L k 0) [(3,.row (ao (ae base L X)) 181 1)] 5 ⟨.normal,Il m L k m,[(3,.row (ao (ae base L (X/2^k))) 181 1)],5⟩:=by
 have e0:zU L X k 0=[(3,.row (ao (ae base L X)) 181 1)]:=by unfold zU dc ae;simp
 have e1:zU L X k m=[(3,.row (ao (ae base L (X/2^k))) 181 1)]:=by unfold zU;rw[FO d_ hX (fq (uh _ _) hX)]
 rw[<-e0,<-e1];exact cd (id:=2) (cA (b:=aJ (ah f194 2)) (r:=⟨.exit 2,Il m L k m,zU L X k m,5⟩) m (Il m L k) (zU L X k) (λi t _=>km (l:=zU L X k i) (m:=zU L X k 0) rfl t)
  (λi hi=>aKx hi hmL hk h63) (aE [.lt 84 m m false s_]) n_)
end
end
section
variable{Bs:aa}{N:Nat}
theorem aKz{o:Oper}{y:m_}(ho:dD o.op=some y){a d n:Nat}(hx:qI x1 a)(hd:0<d)(nI:d<base)(h1:nd base a<35184372088832)(mP:nd base a=n)(kn:Nat):
  cI prog Bs o [.func (.func 218) #[] #[],sl k1 n,aY d] [(k1,some x1),(kn,none)] (.tuple #[sl kn (nd base (a/d)),aY (a%d)]) [(kn,pC (a/d))]:=by
 subst mP;refine jV (fi:=[]) (ca:=[]) ho k_ λι cc w hm hn args' bh=>?_;rw[jg,jL]at bh;obtain⟨va,vb,rfl,hv,iz⟩:=jv bh;rw[iz.eZ rfl];refine(aJq (B6 hm (hn _ (aT ..)) hx hv) hd nI h1).mono ?_
 rintro e w' ⟨v,rfl,h1,h2⟩
 obtain⟨az,q1,q2,q3⟩:=Fw hm h2 (k:=kn) (hn _ (bF _ (aT ..))) h1 (fT _);exact⟨az,_,rfl,q1,.tup (.cons q3 (.cons (.same rfl) .nil)),q2⟩
end
theorem aBi{a:Nat}(h:a<base):ae base 1 a=[a]:=by simp[ae,dW h]
theorem T3{vb:i_}{a b:Nat}(gJ:iQ w va a)(lQ:iQ w vb b)(ch:a<b)(h1:nd base a<35184372088832)(h2:nd base b<35184372088832):
  Calls prog 194 #[va,vb] w λe w'=>e=.returned (.tuple #[.slice none 0 0,va])/\Below w.heap.size w w':=by
 have hl:∀ s∈[cH.row va (nd base a) (ao (ae base (nd base a) a)),cH.row vb (nd base b) (ao (ae base (nd base b) b))],s.OK w:=by
  intro s hs;simp at hs;rcases hs with rfl|rfl
  ·exact⟨gJ,fT _⟩
  ·exact⟨lQ,fT _⟩
 have hc:ox a b<0:=by have:=@KK a b;omega
 refine mh (Q:=λe w'=>e=.returned (.tuple #[.slice none 0 0,va])/\Below w.heap.size w w') mixed func194 [cH.row va (nd base a) (ao (ae base (nd base a) a)),cH.row vb (nd base b) (ao (ae base (nd base b) b))] hl 100 (N:=110) k_
  (rs:=[(.step 18 (aw f194 18) _ _ _ _ (OJ (y:=.func 178) (k1:=0) (k2:=1) k_ k_ (xY a) (xY b) rfl λw va vb ha hb=>Ox ha hb h1 h2):bd prog (aa.at w) 110),.rw 19 (.bool (decide (ox a b<0))) b_ (by rw[aH hc])])
  (v:=.tuple #[.slice none 0 0,sl 0 (nd base a)]) (ms:=[]) k_ λaz cr v' w' kz bE _ du=>⟨?_,bE.base⟩
 obtain⟨cT,rfl,bh⟩:=kz.uY;obtain⟨p,q,hp,h3,h4⟩:=jv bh;cases du with
 |cons h5 _=>
 have:q=va:=Ko h4 h5;have e:cT=#[p,q]:=wz.1 (by rw[hp]);rw[e,h3.eZ rfl,this]
theorem T4{vb:i_}{a b:Nat}(gJ:iQ w va a)(lQ:iQ w vb b)(ch:b<=a)(lB:b≠0)(hb:b<base)(h1:nd base a<35184372088832):
  Calls prog 194 #[va,vb] w λe w'=>∃ vq vr,e=.returned (.tuple #[vq,vr])/\jX w w' vq (a/b)/\jX w w' vr (a%b)/\Below w.heap.size w w':=by
 have c8:nd base b=1:=by have h3:=jy (B:=base) (n:=1) d_ (by rw[BS];exact hb);have h4:=vp (B:=base) d_ lB;omega
 have FR:cW w vb 1 (ao (ae base 1 b)):=by have:=lQ;unfold iQ at this;rw[c8]at this;exact this
 have hl:∀ s∈[cH.row va (nd base a) (ao (ae base (nd base a) a)),cH.row vb 1 (ao (ae base 1 b))],s.OK w:=by
  intro s hs;simp at hs;rcases hs with rfl|rfl
  ·exact⟨gJ,fT _⟩
  ·exact⟨FR,fT _⟩
 have hc:¬ox a b<0:=by have:=@KK a b;omega
 have vC:qI (.view (ao (ae base 1 b))) b:=by have:=xY b;rw[c8]at this;exact this
 have hr:a%b<base:=mU (cM _ (ue lB)) hb;have T5:cI prog (aa.at w) (aw f194 18) [.func (.func 178) #[] #[],sl 0 (nd base a),sl 1 1] [(0,some (.view (ao (ae base (nd base a) a)))),(1,some (.view (ao (ae base 1 b))))] (.int .i64 (ox a b)) []:=by have:=OJ (Bs:=aa.at w) (o:=aw f194 18) (f:=178) (y:=.func 178) (k1:=0) (k2:=1) (res:=.int .i64 (ox a b)) k_ k_ (xY a) vC rfl λw va vb ha hb=>Ox ha hb h1 o_;rw[c8]at this;exact this
 refine mh (Q:=λe w'=>∃ vq vr,e=.returned (.tuple #[vq,vr])/\jX w w' vq (a/b)/\jX w w' vr (a%b)/\Below w.heap.size w w') mixed func194 [cH.row va (nd base a) (ao (ae base (nd base a) a)),cH.row vb 1 (ao (ae base 1 b))] hl 100 (N:=110) k_
  (rs:=[(.step 18 (aw f194 18) _ _ _ _ T5:bd prog (aa.at w) 110),.rw 19 (.bool (decide (ox a b<0))) a_ (by rw[aP hc]),.ld f194 28 181 1 0 (.view (ao (ae base 1 b))) (aY b) rfl (by rw[gj,aBi hb];rfl) k_,.step 29 (aw f194 29) _ _ _ _ (aKz (y:=.func 218) (k1:=0) k_ (xY a) (ue lB) hb h1 rfl 2),.bs f194 34 3 1 181 1 [0] (aY 0) [aY (a%b)] #[aY (a%b)] (.row (ao (ae base 1 (a%b))) 181 1) (by rw[aBi hr];rfl) (λv hv=>by simp at hv;subst hv;rfl) (λv hv=>by simp at hv;subst hv;rfl) k_ rfl o_ o_ k_,.step 35 (aw f194 35) _ _ _ _ (OO (y:=.func 196) (k:=3) (n:=1) (M:=1) (a:=a%b) (x:=.row (ao (ae base 1 (a%b))) 181 1) k_ rfl rfl (bC 1) (by rw[BS];exact hr) o_ rfl)])
  (v:=.tuple #[sl 2 (nd base (a/b)),sl 3 (nd base (a%b))]) (ms:=[(2,pC (a/b)),(3,.row (ao (ae base 1 (a%b))) 181 1)]) k_ λaz cr v' w' kz bE dQ _=>?_
 obtain⟨cT,rfl,bh⟩:=kz.uY;obtain⟨p,q,hp,h3,h4⟩:=jv bh;have e:cT=#[p,q]:=wz.1 (by rw[hp]);subst e;exact⟨p,q,rfl,xP bE (dQ _ (aT ..)) (ew d_ _) h3,xP bE (dQ _ (bF _ (aT ..))) (by rw[BS];exact hr) h4,bE.base⟩
theorem norm{a b e:Nat}(ch:b<=a)(hb:nd base b=e+2)(h1:nd base a<35184372088831):
  ∃ k,k<=31/\32-bl (b/base^(e+1)%base)=k/\DV e (nd base a+1) (a*2^k) (b*2^k)/\nd base (b*2^k)=e+2/\b*2^k<base^(e+3):=by
 have al:=ew (B:=base) d_ b;rw[hb]at al;have ep:base^(e+1)<=b:=Z6 d_ o_;have hp:0<base^(e+1):=cP d_;have hd:b/base^(e+1)%base=b/base^(e+1):=Fx al;obtain⟨d,mA⟩:∃ d,d=b/base^(e+1):=⟨_,rfl⟩;have nI:d<base:=by rw[mA,<-hd];exact cM _ d_
 have DQ:d≠0:=by have:=OL ep hp;omega
 obtain⟨t,t1,t2,t3⟩:=aKg DQ;have ht:t<=31:=by
  rcases e7 t 32 with h|h
  ·omega
  ·have:=df (show 0<2 by decide) h;have e32:(2:Nat)^32=base:=by decide
   omega
 have fP:0<2^(31-t):=cP d_;have hV1:d*2^(31-t)<=b*2^(31-t)/base^(e+1):=by rw[DL hp,B7];refine eV _ ?_;rw[mA];exact DM _ _
 have xZ:base<=2*(b*2^(31-t)/base^(e+1)):=by
  have h3:2^t*2^(31-t)<=d*2^(31-t):=eV _ t2;rw[<-eR,show t+(31-t)=31 by omega]at h3;have e31:base=2*2^31:=by decide
  omega
 have xW:b*2^(31-t)<base^(e+2):=by
  have h3:b<(d+1)*base^(e+1):=by rw[mA];exact(iP hp).1 (B5 _)
  have h4:(d+1)*2^(31-t)<=base:=by have:(d+1)*2^(31-t)<=2^(t+1)*2^(31-t):=eV _ t3;rw[<-eR,show t+1+(31-t)=32 by omega]at this;exact this
  have h5:b*2^(31-t)<(d+1)*base^(e+1)*2^(31-t):=B4 h3 fP;rw[B7]at h5;have h6:(d+1)*2^(31-t)*base^(e+1)<=base*base^(e+1):=eV _ h4;rw[cX base,<-dG]at h6;exact cG h5 h6
 have Ce:e+2<=nd base a:=by rw[<-hb];exact iX d_ ch
 refine⟨31-t,by omega,by rw[hd,<-mA,t1];omega,{ hV:=xW,top:=xZ,hL:=by omega,hA:=?_,h63:=by omega },?_,cG xW (df d_ o_)⟩
 ·have ha:=ew (B:=base) d_ a;have h3:a*2^(31-t)<base^nd base a*2^(31-t):=B4 ha fP;have h4:2^(31-t)*base^(e+1)<=b*2^(31-t):=by rw[cX];exact eV _ ep
  have h5:2^(31-t)*base^(e+1)*base^(nd base a+1-(e+2))<=b*2^(31-t)*base^(nd base a+1-(e+2)):=eV _ h4;rw[gi,<-eR,show e+1+(nd base a+1-(e+2))=nd base a by omega,cX]at h5;exact cG h3 h5
 ·refine aAK (jy d_ xW) ?_;rw[<-hb];exact iX d_ (FG _ fP)
theorem T6{vb:i_}{a b e:Nat}(gJ:iQ w va a)(lQ:iQ w vb b)(ch:b<=a)(hb:nd base b=e+2)(h1:nd base a<35184372088831):
  Calls prog 194 #[va,vb] w λe w'=>∃ vq vr,e=.returned (.tuple #[vq,vr])/\jX w w' vq (a/b)/\jX w w' vr (a%b)/\Below w.heap.size w w':=by
 obtain⟨k,hk,hlz,qL,OP,hV3⟩:=norm ch hb h1;have nB:nd base b<35184372088831:=fq (iX d_ ch) h1;have al:=ew (B:=base) d_ b;have aWy:=ew (B:=base) d_ a;rw[hb]at al;have xB:0<2^k:=cP d_;have KV:0<b:=by
  rcases oV b with h|h
  ·rw[h,nF]at hb;omega
  ·exact h
 have FR:cW w vb (e+2) (ao (ae base (e+2) b)):=by have:=lQ;unfold iQ at this;rw[hb]at this;exact this
 have hl:∀ s∈[cH.row va (nd base a) (ao (ae base (nd base a) a)),cH.row vb (e+2) (ao (ae base (e+2) b))],s.OK w:=by
  intro s hs;simp at hs;rcases hs with rfl|rfl
  ·exact⟨gJ,fT _⟩
  ·exact⟨FR,fT _⟩
 have hc:¬ox a b<0:=by have:=@KK a b;omega
 have vC:qI (.view (ao (ae base (e+2) b))) b:=by have:=xY b;rw[hb]at this;exact this
 have T5:cI prog (aa.at w) (aw f194 18) [.func (.func 178) #[] #[],sl 0 (nd base a),sl 1 (e+2)] [(0,some (.view (ao (ae base (nd base a) a)))),(1,some (.view (ao (ae base (e+2) b))))] (.int .i64 (ox a b)) []:=by have:=OJ (Bs:=aa.at w) (o:=aw f194 18) (f:=178) (y:=.func 178) (k1:=0) (k2:=1) (res:=.int .i64 (ox a b)) k_ k_ (xY a) vC rfl λw va vb ha hb=>Ox ha hb o_ o_;rw[hb]at this;exact this
 have Ce:e+2<=nd base a:=by rw[<-hb];exact iX d_ ch
 have aWz:nd base a=nd base a:=rfl;have lz:=aKk (x:=b/base^(e+1)%base) (cM _ d_);rw[hlz]at lz;have gF:2<=e+2:=by omega
 obtain⟨p,hp⟩:∃ p,p+(e+2)=nd base a+1:=⟨nd base a+1-(e+2),by omega⟩;have OQ:=aKw (Bs:=aa.at w) (M:=e+3) qL o_ hp;have hA:=qL.hA;rw[show nd base a+1-(e+2)=p by omega]at hA;have T7:a*2^k%(b*2^k*base^p)=a*2^k:=dW hA;have T8:a*2^k%(b*2^k*base^0)=a%b*2^k:=by rw[sU,gS,aA7]
 have hQ:a*2^k/(b*2^k)=a/b:=aA8 _ _ xB;have aKA:a%b*2^k<base^(e+2):=by refine cG (B4 (cM _ KV) xB) (jl qL.hV)
 have zv:=aKy (Bs:=aa.at w) (L:=nd base a+1) (k:=k) aKA o_ hk o_;rw[Tk _ xB]at zv;have KW:a/b<base^p:=by rw[<-hQ,iP qL.pos,cX (base^p)];exact hA
 have Im:a%b<base^(e+2):=mU (cM _ KV) al;unfold Cd at OQ;rw[T7,T8,hQ,Og,Kz]at OQ;generalize hn:nd base a=n at *
 refine mh (Q:=λe w'=>∃ vq vr,e=.returned (.tuple #[vq,vr])/\jX w w' vq (a/b)/\jX w w' vr (a%b)/\Below w.heap.size w w') mixed func194 [cH.row va n (ao (ae base n a)),cH.row vb (e+2) (ao (ae base (e+2) b))] hl 100 (N:=110) k_
  (rs:=[(.step 18 (aw f194 18) _ _ _ _ T5:bd prog (aa.at w) 110),.rw 19 (.bool (decide (ox a b<0))) a_ (by rw[aP hc]),.fN 23 (e+2) 1 false s_,.fp 39 (e+2) 1 (e+1) rfl o_,.ix f194 40 1 (e+2) (e+1) o_ k_,.ld f194 41 181 1 (e+1) (.view (ao (ae base (e+2) b))) (aY (b/base^(e+1)%base)) rfl (by rw[gj];exact DG.vd o_) k_,lz.at 42,.step 45 (aw f194 45) _ _ _ _ (aBh (y:=.func 220) (k1:=1) k_ vC hk o_ hb 2),.step 46 (aw f194 46) _ _ _ _ (OO (y:=.func 196) (k:=2) (n:=e+3) (M:=e+3) (a:=b*2^k) (x:=.row (ao (ae base (e+3) (b*2^k))) 181 1) k_ rfl rfl (bC _) hV3 o_ OP),.step 49 (aw f194 49) _ _ _ _ (aBh (y:=.func 220) (k1:=0) (x1:=.view (ao (ae base n a))) k_ (by have:=xY a;rw[hn]at this;exact this) hk o_ hn 3),.fp 55 (n+1) (e+2) p o_ o_,.qD f194 56 4 p 181 4 (aY 0) (ao (List.replicate p 0)) (FA _) rfl rfl o_ (by simp[maxLen];omega) k_,.fp 60 (n+1) (e+2) p o_ o_,.wr 61 .i64 ((p:Int)-1) ((p:Int)-1) (pA o_),.code 0 _ _ _ _ _ OQ,.upto f194 80 3 (n+1) (e+2) 1 o_ k_,.code 2 _ _ _ _ _ zv,.step 107 (aw f194 107) _ _ _ _ (OO (y:=.func 196) (k:=4) (n:=p) (M:=p) (a:=a/b) (x:=.row (ao (ae base p (a/b))) 181 1) k_ rfl rfl (bC _) KW o_ rfl),.step 109 (aw f194 109) _ _ _ _ (OO (y:=.func 196) (k:=3) (n:=e+2) (M:=n+1) (a:=a%b) (x:=.row (ao (ae base (n+1) (a%b))) 181 1) k_ rfl rfl o_ Im o_ rfl)])
  (v:=.tuple #[sl 4 (nd base (a/b)),sl 3 (nd base (a%b))]) (ms:=[(4,.row (ao (ae base p (a/b))) 181 1),(3,.row (ao (ae base (n+1) (a%b))) 181 1)]) k_ λaz cr v' w' kz bE dQ _=>?_
 obtain⟨cT,rfl,bh⟩:=kz.uY;obtain⟨p,q,hp,h3,h4⟩:=jv bh;have e:cT=#[p,q]:=wz.1 (by rw[hp]);subst e;exact⟨p,q,rfl,xP bE (dQ _ (aT ..)) KW h3,xP bE (dQ _ (bF _ (aT ..))) (cG Im (df d_ o_)) h4,bE.base⟩
def sv(neg:Bool)(m:Nat):Value:=.agg #[.bool neg,oX m]
def sg(neg:Bool)(m:Nat):Int:=if neg then -(m:Int)else m
def bf(z:Int):Value:=sv (decide (z<0)) z.natAbs
theorem vD(neg:Bool)(m:Nat):FP neg m=bf (sg neg m):=by
 cases neg
 ·have e:decide ((m:Int)<0)=false:=by simp
  show Value.agg #[.bool false,oX m]=Value.agg #[.bool (decide ((m:Int)<0)),oX (m:Int).natAbs];rw[e];rfl
 ·have e:(decide (-(m:Int)<0))=decide (m≠0):=by rw[sQ];omega
  show Value.agg #[.bool (decide (m≠0)),oX m]=Value.agg #[.bool (decide (-(m:Int)<0)),oX (-(m:Int)).natAbs];rw[e,KX];rfl
theorem s8{C:Int->Value->Prop}(h0:∀ m:Nat,C m (sv false m))(h1:∀ m:Nat,m≠0->C (-(m:Int)) (sv true m))(z:Int):C z (bf z):=by
 by_cases hz:z<0
 ·obtain⟨m,rfl⟩:∃ m:Nat,z=-(m:Int):=⟨z.natAbs,by omega⟩;have:=h1 m o_;have e:bf (-(m:Int))=sv true m:=by unfold bf;rw[aH hz,KX];rfl
  rw[e];exact this
 ·obtain⟨m,rfl⟩:∃ m:Nat,z=(m:Int):=⟨z.natAbs,by omega⟩;have e:bf (m:Int)=sv false m:=by unfold bf;rw[aP hz];rfl
  rw[e];exact h0 m
theorem x6{m n:Nat}(h:m<2^n):nd base m<=n:=jy d_ (cG h (aBj d_ n))
theorem wL{m n:Nat}(h:m<2^n):nd 256 m<=n:=jy d_ (cG h (aBj d_ n))
theorem aBk{m n:Nat}(h:m<2^n)(hn:n<=1099511627776):Calls prog 176 #[oX m] w λe w'=>∃ v,e=.returned v/\jX w w' v m/\Below w.heap.size w w':=by have e:kW (BA (ct m))=m:=FK m;have:=aJi (w:=w) (s:=BA (ct m)) (by rw[pw,uk];have:=wL h;omega);rw[e]at this;exact this
section
variable{Bs:aa}{N:Nat}
def bd.of(fn:Func)(key k m n:Nat)(h:m<2^n)(hn:n<=1099511627776){y:m_}(ho:dD (aw fn key).op=some y):bd prog Bs N:=
 .step key (aw fn key) [.func (.func 176) #[] #[],oX m] [(k,none)] (sl k (nd base m)) [(k,pC m)] (OI ho k_ (λv hv=>by simp at hv;subst hv;rfl) (λ_=>aBk h hn) k)
def bd.add(fn:Func)(key k k1 k2 a b:Nat)(h1:nd base a<35184372088832)(h2:nd base b<35184372088832){y:m_}(ho:dD (aw fn key).op=some y):bd prog Bs N:=
 .step key (aw fn key) _ _ _ _ (TQ (f:=177) (k1:=k1) (k2:=k2) ho k_ (oy a) (oy b) (λ_ _ _ ha hb=>aIQ ha hb h1 h2) k)
def bd.less(fn:Func)(key k k1 k2 a b:Nat)(ch:b<=a)(h1:nd base a<35184372088832){y:m_}(ho:dD (aw fn key).op=some y):bd prog Bs N:=
 .step key (aw fn key) _ _ _ _ (TQ (f:=179) (k1:=k1) (k2:=k2) ho k_ (oy a) (oy b) (λ_ _ _ ha hb=>aIV ha hb ch h1) k)
def bd.mul(fn:Func)(key k k1 k2 a b:Nat)(h1:nd base a<1099511627777)(h2:nd base b<1099511627777){y:m_}(ho:dD (aw fn key).op=some y):bd prog Bs N:=
 .step key (aw fn key) _ _ _ _ (TQ (f:=180) (k1:=k1) (k2:=k2) ho k_ (oy a) (oy b) (λ_ _ _ ha hb=>aI8 ha hb o_) k)
def bd.cmp(fn:Func)(key k1 k2 a b:Nat)(h1:nd base a<35184372088832)(h2:nd base b<35184372088832){y:m_}(ho:dD (aw fn key).op=some y):bd prog Bs N:=
 .step key (aw fn key) _ _ _ _ (OJ (f:=178) (k1:=k1) (k2:=k2) (res:=.int .i64 (ox a b)) ho k_ (oy a) (oy b) rfl λ_ _ _ ha hb=>Ox ha hb h1 h2)
def bd.um(fn:Func)(key k a:Nat)(x:Obj)(hx:qI x a)(neg:Bool)(h1:nd base a<35184372088832){y:m_}(ho:dD (aw fn key).op=some y):bd prog Bs N:=
 .step key (aw fn key) _ _ _ _ (Ic (f:=161) (k1:=k) (post:=[.bool neg]) (res:=FP neg a) ho k_ hx (λv hv=>by simp at hv;subst hv;rfl) rfl λ_ _ h=>aA6 h h1)
end
def x7(neg:Bool):List UInt8->Bool
 |[]=>!neg
 |c::_=>decide (c≠0)
theorem zW(neg:Bool)(l:List UInt8):aF prog 118 [.agg #[.bool neg,.string (BA l)]] (.bool (x7 neg l)):=by
 cases l with
 |nil=>exact aN func118 (λ_=>[.rw 5 (.bool ((BA []).toList==(ByteArray.mk #[]).toList)) b_ (by rw[FD];rfl)])
 |cons c l=>
  have e:(((c.toNat:Nat):Int)!=0)=decide (c≠0):=by
   by_cases h:c=0
   ·subst h;rfl
   ·rw[aH h,vt];intro h2;exact h (Ov.1 (by simpa using h2))
  exact aN func118 (λ_=>[.rw 5 (.bool ((BA (c::l)).toList==(ByteArray.mk #[]).toList)) a_ (by rw[FD];rfl),.sx f118 11 (BA (c::l)) 0 c (by rw[KH];rfl) k_,.rw 12 (.bool (((c.toNat:Nat):Int)!=0)) (.bool (decide (c≠0))) (by rw[e])])
theorem c7(neg:Bool){m:Nat}(h:neg=true->m≠0):aF prog 118 [sv neg m] b_:=by
 have:=zW neg (ct m);have e:x7 neg (ct m)=true:=by
  by_cases hm:m=0
  ·subst hm;rw[DF];cases neg
   ·rfl
   ·exact absurd rfl (h rfl)
  ·obtain⟨c,l,h1,h2⟩:=OC hm;rw[h1];exact aH h2
 rw[e]at this;exact this
theorem kG{z:Int}(h:z.natAbs<9223372036854775808):aF prog 121 [.int .i64 z] (bf z):=by
 have fv:nd base z.natAbs<35184372088832:=by have:=x6 (m:=z.natAbs) (n:=63) o_;omega
 by_cases hz:z<0
 ·have e:=vD true z.natAbs;have e2:sg true z.natAbs=z:=by show -((z.natAbs:Nat):Int)=z;omega
  rw[e2]at e;rw[<-e];exact aN func121 (λ_=>[.rw 4 (.bool (decide (z<0))) b_ (by rw[aH hz]),.wr 6 .u64 z (z+18446744073709551616) (by rw[kp];omega),.wr 7 .u64 (0-(z+18446744073709551616)) (z.natAbs:Int) (by rw[kp];omega),.step 8 (aw f121 8) _ _ _ _ (OI (y:=.func 160) (args:=[.int .u64 (z.natAbs:Int)]) k_ k_ (λv hv=>by simp at hv;subst hv;rfl) (λ_=>Tz (n:=z.natAbs) o_) 1),.um f121 9 1 z.natAbs (pC z.natAbs) (oy _) true fv (y:=.func 161) k_])
 ·have e:=vD false z.natAbs;have e2:sg false z.natAbs=z:=by show((z.natAbs:Nat):Int)=z;omega
  rw[e2]at e;rw[<-e];exact aN func121 (λ_=>[.rw 4 (.bool (decide (z<0))) a_ (by rw[aP hz]),.wr 11 .u64 z (z.natAbs:Int) (by rw[kp];omega),.step 12 (aw f121 12) _ _ _ _ (OI (y:=.func 160) (args:=[.int .u64 (z.natAbs:Int)]) k_ k_ (λv hv=>by simp at hv;subst hv;rfl) (λ_=>Tz (n:=z.natAbs) o_) 1),.um f121 13 1 z.natAbs (pC z.natAbs) (oy _) false fv (y:=.func 161) k_])
theorem pX(z:Int):aF prog 119 [bf z] (.int .i64 z.sign):=by
 refine s8 (C:=λz v=>aF prog 119 [v] (.int .i64 z.sign)) (λm=>?_) (λm hm=>?_) z
 ·by_cases h:m=0
  ·subst h;exact aN func119 (λ_=>[(c7 false (m:=0) n_).at 5,.rw 10 (.bool ((BA (ct 0)).toList==(ByteArray.mk #[]).toList)) b_ (by rw[qJ];rfl)])
  ·have e:((m:Nat):Int).sign=1:=Cf o_;rw[e];exact aN func119 (λ_=>[(c7 false (m:=m) n_).at 5,.rw 10 (.bool ((BA (ct m)).toList==(ByteArray.mk #[]).toList)) a_ (by rw[qJ,aP h])])
 ·have e:(-(m:Int)).sign=-1:=FT o_;rw[e];exact aN func119 (λ_=>[(c7 true (m:=m) (λ_=>hm)).at 5,.rw 10 (.bool ((BA (ct m)).toList==(ByteArray.mk #[]).toList)) a_ (by rw[qJ,aP hm])])
theorem oY(z:Int):aF prog 156 [bf z] (bf (-z)):=by
 refine s8 (C:=λz v=>aF prog 156 [v] (bf (-z))) (λm=>?_) (λm hm=>?_) z
 ·have e:=vD true m;rw[<-show sg true m=-(m:Int)from rfl,<-e];have e:(!((BA (ct m)).toList==(ByteArray.mk #[]).toList))=decide (m≠0):=by rw[qJ];simp
  exact aN func156 (λ_=>[(c7 false (m:=m) n_).at 4,.rw 13 (.bool (!((BA (ct m)).toList==(ByteArray.mk #[]).toList))) (.bool (decide (m≠0))) (by rw[e])])
 ·have e:=vD false m;rw[KY,<-show sg false m=(m:Int)from rfl,<-e];exact aN func156 (λ_=>[(c7 true (m:=m) (λ_=>hm)).at 4])
theorem T9{n1 n2:Bool}{p:Nat}(v1:n1=true->m1≠0)(v2:n2=true->m2≠0)(h1:m1<2^p)(h2:m2<2^q)(hp:p<=1099511627776)(hq:q<=1099511627776):
  aF prog 140 [sv n1 m1,sv n2 m2] (bf (sg n1 m1+sg n2 m2)):=by
 have b1:=x6 h1;have b2:=x6 h2;have same:∀ n:Bool,n1=n->n2=n->aF prog 140 [sv n1 m1,sv n2 m2] (bf (sg n1 m1+sg n2 m2)):=by
  rintro n rfl rfl
  have bs:nd base (m1+m2)<35184372088832:=by
   have:=x6 (m:=m1+m2) (n:=p+q+1) (by have e1:=df (show 0<2 by decide) (show p<=p+q by omega);have e2:=df (show 0<2 by decide) (show q<=p+q by omega);rw[dG];omega)
   omega
  have e:sg n2 m1+sg n2 m2=sg n2 (m1+m2):=by cases n2<;>simp[sg]<;>omega
  rw[e,<-vD];cases n2
  ·exact aN func140 (λ_=>[(c7 _ v1).at 8,(c7 _ v2).at 12,.of f140 18 3 m1 p h1 hp (y:=.func 176) k_,.of f140 21 4 m2 q h2 hq (y:=.func 176) k_,.add f140 30 5 3 4 m1 m2 o_ o_ (y:=.func 177) k_,.um f140 33 5 (m1+m2) (pC (m1+m2)) (oy _) false bs (y:=.func 161) k_])
  ·exact aN func140 (λ_=>[(c7 _ v1).at 8,(c7 _ v2).at 12,.of f140 18 3 m1 p h1 hp (y:=.func 176) k_,.of f140 21 4 m2 q h2 hq (y:=.func 176) k_,.add f140 30 5 3 4 m1 m2 o_ o_ (y:=.func 177) k_,.um f140 33 5 (m1+m2) (pC (m1+m2)) (oy _) true bs (y:=.func 161) k_])
 have diff:n1≠n2->aF prog 140 [sv n1 m1,sv n2 m2] (bf (sg n1 m1+sg n2 m2)):=by
  intro aQ;by_cases ep:m2<=m1
  ·have bs:nd base (m1-m2)<35184372088832:=by have:=iX (B:=base) d_ (Cg m1 m2);omega
   have e:sg n1 m1+sg n2 m2=sg n1 (m1-m2):=by cases n1<;>cases n2<;>simp[sg]at aQ ⊢<;>omega
   have hc:decide (ox m1 m2>=0)=true:=aH (KK.2 ep);rw[e,<-vD];cases n1<;>cases n2<;>first|exact absurd rfl aQ|skip
   ·exact aN func140 (λ_=>[(c7 _ v1).at 8,(c7 _ v2).at 12,.of f140 18 3 m1 p h1 hp (y:=.func 176) k_,.of f140 21 4 m2 q h2 hq (y:=.func 176) k_,.cmp f140 37 3 4 m1 m2 o_ o_ (y:=.func 178) k_,.rw 38 (.bool (decide (ox m1 m2>=0))) b_ (by rw[hc]),.less f140 41 5 3 4 m1 m2 ep o_ (y:=.func 179) k_,.um f140 44 5 (m1-m2) (pC (m1-m2)) (oy _) false bs (y:=.func 161) k_])
   ·exact aN func140 (λ_=>[(c7 _ v1).at 8,(c7 _ v2).at 12,.of f140 18 3 m1 p h1 hp (y:=.func 176) k_,.of f140 21 4 m2 q h2 hq (y:=.func 176) k_,.cmp f140 37 3 4 m1 m2 o_ o_ (y:=.func 178) k_,.rw 38 (.bool (decide (ox m1 m2>=0))) b_ (by rw[hc]),.less f140 41 5 3 4 m1 m2 ep o_ (y:=.func 179) k_,.um f140 44 5 (m1-m2) (pC (m1-m2)) (oy _) true bs (y:=.func 161) k_])
  ·have bs:nd base (m2-m1)<35184372088832:=by have:=iX (B:=base) d_ (Cg m2 m1);omega
   have e:sg n1 m1+sg n2 m2=sg n2 (m2-m1):=by cases n1<;>cases n2<;>simp[sg]at aQ ⊢<;>omega
   have hc:decide (ox m1 m2>=0)=false:=aP (λh=>ep (KK.1 h));rw[e,<-vD];cases n1<;>cases n2<;>first|exact absurd rfl aQ|skip
   ·exact aN func140 (λ_=>[(c7 _ v1).at 8,(c7 _ v2).at 12,.of f140 18 3 m1 p h1 hp (y:=.func 176) k_,.of f140 21 4 m2 q h2 hq (y:=.func 176) k_,.cmp f140 37 3 4 m1 m2 o_ o_ (y:=.func 178) k_,.rw 38 (.bool (decide (ox m1 m2>=0))) a_ (by rw[hc]),.less f140 47 5 4 3 m2 m1 o_ o_ (y:=.func 179) k_,.um f140 50 5 (m2-m1) (pC (m2-m1)) (oy _) true bs (y:=.func 161) k_])
   ·exact aN func140 (λ_=>[(c7 _ v1).at 8,(c7 _ v2).at 12,.of f140 18 3 m1 p h1 hp (y:=.func 176) k_,.of f140 21 4 m2 q h2 hq (y:=.func 176) k_,.cmp f140 37 3 4 m1 m2 o_ o_ (y:=.func 178) k_,.rw 38 (.bool (decide (ox m1 m2>=0))) a_ (by rw[hc]),.less f140 47 5 4 3 m2 m1 o_ o_ (y:=.func 179) k_,.um f140 50 5 (m2-m1) (pC (m2-m1)) (oy _) false bs (y:=.func 161) k_])
 by_cases h:n1=n2
 ·exact same n2 h rfl
 ·exact diff h
theorem FU{C:Int->Int->Value->Value->Prop}(h:∀(n1 n2:Bool) (m1 m2:Nat),(n1=true->m1≠0)->(n2=true->m2≠0)->C (sg n1 m1) (sg n2 m2) (sv n1 m1) (sv n2 m2))(x y:Int):C x y (bf x) (bf y):=
 s8 (C:=λx v=>C x y v (bf y)) (λm=>s8 (C:=λy u=>C m y (sv false m) u) (λk=>h false false m k n_ n_) (λk hk=>h false true m k n_ (λ_=>hk)) y)
  (λm hm=>s8 (C:=λy u=>C (-(m:Int)) y (sv true m) u) (λk=>h true false m k (λ_=>hm) n_) (λk hk=>h true true m k (λ_=>hm) (λ_=>hk)) y) x
theorem qM(n:Bool)(m:Nat):(sg n m).natAbs=m:=by cases n<;>simp[sg]
theorem zX{x y:Int}{p:Nat}(h1:x.natAbs<2^p)(h2:y.natAbs<2^q)(hp:p<=1099511627776)(hq:q<=1099511627776):aF prog 140 [bf x,bf y] (bf (x+y)):=by revert h1 h2;refine FU (C:=λx y v u=>x.natAbs<2^p->y.natAbs<2^q->aF prog 140 [v,u] (bf (x+y))) (λn1 n2 m1 m2 v1 v2 h1 h2=>?_) x y;rw[qM]at h1 h2;exact T9 v1 v2 h1 h2 hp hq
theorem pE(z:Int):aF prog 118 [bf z] b_:=
 s8 (C:=λ_ v=>aF prog 118 [v] b_) (λ_=>c7 false n_) (λ_ hm=>c7 true λ_=>hm) z
theorem FV{x y:Int}{p:Nat}(h1:x.natAbs<2^p)(h2:y.natAbs<2^q)(hp:p<=1099511627776)(hq:q<=1099511627776):aF prog 167 [bf x,bf y] (bf (x-y)):=
 aN func167 (λ_=>[(pE x).at 6,(pE y).at 10,(oY y).at 16,(zX h1 (by rw[KX];exact h2) hp hq).at 17])
theorem Ua{x y:Int}{p:Nat}(h1:x.natAbs<2^p)(h2:y.natAbs<2^q)(hp:p<=1099511627776)(hq:q<=1099511627776):aF prog 199 [bf x,bf y] (.int .i64 (x-y).sign):=
 aN func199 (λ_=>[(FV h1 h2 hp hq).at 7,(pX (x-y)).at 8])
theorem nL{x y:Int}{p:Nat}(h1:x.natAbs<2^p)(h2:y.natAbs<2^q)(hp:p<=1099511627776)(hq:q<=1099511627776):aF prog 141 [bf x,bf y] (bf (x*y)):=by
 revert h1 h2;refine FU (C:=λx y v u=>x.natAbs<2^p->y.natAbs<2^q->aF prog 141 [v,u] (bf (x*y))) (λn1 n2 m1 m2 v1 v2 h1 h2=>?_) x y;rw[qM]at h1 h2;have b1:=x6 h1;have b2:=x6 h2;have bs:nd base (m1*m2)<35184372088832:=by have:=x6 (m:=m1*m2) (n:=p+q) (by rw[eR];exact qE h1 h2);omega
 have e:sg n1 m1*sg n2 m2=sg (n1 !=n2) (m1*m2):=by cases n1<;>cases n2<;>simp[sg,Io,Ip]
 rw[e,<-vD];cases n1<;>cases n2
 ·exact aN func141 (λ_=>[(c7 _ v1).at 6,(c7 _ v2).at 10,.of f141 16 3 m1 p h1 hp (y:=.func 176) k_,.of f141 19 4 m2 q h2 hq (y:=.func 176) k_,.mul f141 20 5 3 4 m1 m2 o_ o_ (y:=.func 180) k_,.um f141 26 5 (m1*m2) (pC (m1*m2)) (oy _) false bs (y:=.func 161) k_])
 ·exact aN func141 (λ_=>[(c7 _ v1).at 6,(c7 _ v2).at 10,.of f141 16 3 m1 p h1 hp (y:=.func 176) k_,.of f141 19 4 m2 q h2 hq (y:=.func 176) k_,.mul f141 20 5 3 4 m1 m2 o_ o_ (y:=.func 180) k_,.um f141 26 5 (m1*m2) (pC (m1*m2)) (oy _) true bs (y:=.func 161) k_])
 ·exact aN func141 (λ_=>[(c7 _ v1).at 6,(c7 _ v2).at 10,.of f141 16 3 m1 p h1 hp (y:=.func 176) k_,.of f141 19 4 m2 q h2 hq (y:=.func 176) k_,.mul f141 20 5 3 4 m1 m2 o_ o_ (y:=.func 180) k_,.um f141 26 5 (m1*m2) (pC (m1*m2)) (oy _) true bs (y:=.func 161) k_])
 ·exact aN func141 (λ_=>[(c7 _ v1).at 6,(c7 _ v2).at 10,.of f141 16 3 m1 p h1 hp (y:=.func 176) k_,.of f141 19 4 m2 q h2 hq (y:=.func 176) k_,.mul f141 20 5 3 4 m1 m2 o_ o_ (y:=.func 180) k_,.um f141 26 5 (m1*m2) (pC (m1*m2)) (oy _) false bs (y:=.func 161) k_])
section
variable{Bs:aa}{N:Nat}
theorem OR{c:g_}(hm:aO Bs ι c w){k n size:Nat}{v:i_}(hk:c k=none)(h:w.ownsRow n2 ty size v n xs)(cR:∀ u∈xs,flat u=true)
  (dJ:∀ j y b o cap,c j=some y->y.owns=true->ι j=some (.at b o cap)->b<n2) :
  ∃ az,Map.le ι az/\aO Bs az (bA c k (.view xs)) w/\aK az (.slice (some ⟨k,0,some 7⟩) n 0) v:=by
 refine zy hm hk (.Z2 h) cR λb o c' e j y o' aU hj hy he=>?_;have h1:=dJ j y b o' aU hj hy he;rcases h.2 with ⟨h2,_⟩|⟨g,cap,cur,h2,h3,_⟩
 ·rw[h2]at e;cases e
 ·rw[h2]at e;injection e with e1 e2;injection e1 with e1;injection e1 with e1;omega
def kH(a:Nat):Obj:=.view (ao (ae base (nd base a) a))
theorem OS{c:g_}(hm:aO Bs ι c w):∀ j y b o cap,c j=some y->y.owns=true->ι j=some (.at b o cap)->b<w.heap.size:=λj y b o cap h1 h2 h3=>(hm.own j y b o cap h1 h2 h3).1
theorem aBl{c:g_}{k:Nat}(hm:aO Bs ι c w)(hle:Map.le ι az)(h:∀ j y b o cap,c j=some y->y.owns=true->ι j=some (.at b o cap)->b<n2):
  ∀ j y b o cap,bA c k (.view xs) j=some y->y.owns=true->az j=some (.at b o cap)->b<n2:=by
 intro j y b o cap hj hy hb;unfold bA at hj;by_cases b9:j=k
 ·rw[aB b9]at hj;injection hj with hj;subst hj;cases hy
 ·rw[av b9]at hj;obtain⟨l,e1,_⟩:=hm.born j y hj;have:=hle j l e1;rw[hb]at this;injection this with this;subst this;exact h j y b o cap hj hy e1
theorem aKB{o:Oper}{y:m_}{c:Nat}(ho:dD o.op=some y)(e8:gO prog f=true)(du:∀ v∈args,flat v=true)
  (h:∀ w,Calls prog f args.toArray w λe w'=>∃ v,e=.returned v/\jX w w' v c/\Below w.heap.size w w') (k:Nat) :
  cI prog Bs o (.func (.func f) #[] #[]::args) [(k,none)] (sl k (nd base c)) [(k,kH c)]:=by
 refine jV (fi:=[]) (ca:=[]) ho e8 λι cc w hm hn args' bh=>?_;rw[jg,jL]at bh;rw[oc bh du];refine(h w).mono ?_
 rintro e w' ⟨v,rfl,h1,h2⟩
 obtain⟨az,q1,q2,q3⟩:=Z3 hm h2 (k:=k) (hn _ (aT ..)) h1 (fT _);exact⟨az,v,rfl,q1,q3,q2⟩
def bd.zY(fn:Func)(key k m n:Nat)(h:m<2^n)(hn:n<=1099511627776){y:m_}(ho:dD (aw fn key).op=some y):bd prog Bs N:=
 .step key (aw fn key) [.func (.func 176) #[] #[],oX m] [(k,none)] (sl k (nd base m)) [(k,kH m)] (aKB ho k_ (λv hv=>by simp at hv;subst hv;rfl) (λ_=>aBk h hn) k)
theorem vE(a:Nat):qI (kH a) a:=xY a
theorem OT{o:Oper}{y:m_}(ho:dD o.op=some y){kq kr a b:Nat}(hk:kr≠kq)(vC:qI x1 a)(kB:x1.kh=true)(iv:qI x2 b)(lB:b≠0)(h1:nd base a<35184372088831)(h2:nd base b<35184372088831):
  cI prog Bs o [.func (.func 194) #[] #[],sl k1 (nd base a),sl k2 (nd base b)] [(k1,some x1),(k2,some x2),(kq,none),(kr,none)] (.tuple #[sl kq (nd base (a/b)),sl kr (nd base (a%b))]) [(kr,kH (a%b)),(kq,kH (a/b))]:=by
 refine jV (fi:=[]) (ca:=[]) ho k_ λι c w hm hn args' bh=>?_;rw[jg,jL]at bh;obtain⟨va,vb,rfl,hv,iz⟩:=jv bh;have iA:c k1=some x1:=hn (k1,some x1) s_;have fP:c k2=some x2:=hn (k2,some x2) s_;have KZ:c kq=none:=hn (kq,none) s_;have Ub:c kr=none:=hn (kr,none) s_;have ha:=B6 hm iA vC hv;have hb:=B6 hm fP iv iz;have fin:∀(w':h_) (vq vr:i_),Below w.heap.size w w'->(∃ bX,Map.le ι bX/\aO Bs bX (bA c kq (kH (a/b))) w'/\aK bX (sl kq (nd base (a/b))) vq/\∃ dP,Map.le bX dP/\aO Bs dP (bA (bA c kq (kH (a/b))) kr (kH (a%b))) w'/\aK dP (sl kr (nd base (a%b))) vr)->
   ∃ az v',Ending.returned (.tuple #[vq,vr])=.returned v'/\Map.le ι az/\aK az (.tuple #[sl kq (nd base (a/b)),sl kr (nd base (a%b))]) v'/\aO Bs az (l9 c [(kr,kH (a%b)),(kq,kH (a/b))]) w':=by
  rintro w' vq vr gm ⟨bX,q1,q2,q3,dP,s1,s2,s3⟩
  exact⟨dP,_,rfl,q1.trans s1,.tup (.cons (q3.mono s1) (.cons s3 .nil)),s2⟩
 have K0:∀ x,bA c kq x kr=none:=λx=>by unfold bA;rw[av hk];exact Ub
 have new:∀(w':h_) (vq vr:i_),Below w.heap.size w w'->jX w w' vq (a/b)->jX w w' vr (a%b)->(∃ bX,Map.le ι bX/\aO Bs bX (bA c kq (kH (a/b))) w'/\aK bX (sl kq (nd base (a/b))) vq/\∃ dP,Map.le bX dP/\aO Bs dP (bA (bA c kq (kH (a/b))) kr (kH (a%b))) w'/\aK dP (sl kr (nd base (a%b))) vr):=by intro w' vq vr gm h3 h4;have bE:=hm.call gm;obtain⟨bX,q1,q2,q3⟩:=OR bE KZ h3 (fT _) (OS hm);obtain⟨dP,s1,s2,s3⟩:=OR q2 (K0 _) h4 (fT _) (aBl bE q1 (OS hm));exact⟨bX,q1,q2,q3,dP,s1,s2,s3⟩
 by_cases ch:a<b
 ·have e1:a/b=0:=mS ch;have e2:a%b=a:=dW ch;refine(T3 ha hb ch o_ o_).mono ?_
  rintro e w' ⟨rfl,gm⟩
  refine fin w' _ _ gm ?_;have bE:=hm.call gm;obtain⟨bX,q1,q2,q3⟩:=zy (xs:=[]) (n:=0) (v:=.slice none 0 0) bE KZ (.inl ⟨rfl,rfl,rfl⟩) n_ n_;have ez:kH (a/b)=.view []:=by unfold kH;rw[e1,nF];rfl
  have en:nd base (a/b)=0:=by rw[e1,nF]
  rw[ez,en,e2];have Uc:cW w' va (nd base a) (ao (ae base (nd base a) a)):=cW.iu ha gm;obtain⟨dP,s1,s2,s3⟩:=zy q2 (K0 _) Uc (fT _) (λb o c' e j y o' aU hj hy he=>by
   have B0:c j=some y:=by
    unfold bA at hj;by_cases b9:j=kq
    ·rw[aB b9]at hj;injection hj with hj;subst hj;cases hy
    ·rw[av b9]at hj;exact hj
   obtain⟨l,e1,_⟩:=hm.born j y B0;have e2:=q1 j l e1;rw[he]at e2;injection e2 with e2;subst e2;subst e;rcases hv.iF rfl with ⟨_,_,_,_,e⟩|⟨b',o2,qx,c2,gF,_,_,e⟩
   ·cases e
   ·injection e with e _ _;injection e with e;injection e with e _ _;subst e;exact(hm.seen k1 x1 _ _ _ iA kB gF).2 j y _ _ B0 hy e1)
  exact⟨bX,q1,q2,q3,dP,s1,s2,s3⟩
 ·have K1:b<=a:=KQ.1 ch;have go:Calls prog 194 #[va,vb] w λe w'=>∃ vq vr,e=.returned (.tuple #[vq,vr])/\jX w w' vq (a/b)/\jX w w' vr (a%b)/\Below w.heap.size w w':=by
   by_cases al:b<base
   ·exact T4 ha hb K1 lB al o_
   ·have h3:2<=nd base b:=by
     rcases e7 (nd base b) 2 with h|h
     ·have h4:=ew (B:=base) d_ b;have h5:base^nd base b<=base^1:=df d_ o_;rw[BS]at h5;omega
     ·exact h
    exact T6 (e:=nd base b-2) ha hb K1 o_ h1
  refine go.mono ?_
  rintro e w' ⟨vq,vr,rfl,h3,h4,gm⟩
  exact fin w' _ _ gm (new w' vq vr gm h3 h4)
end
def eu(x y:Nat):Nat->Nat×Nat
 |0=>(x,y)
 |i+1=>((eu x y i).2,(eu x y i).1%(eu x y i).2)
theorem K3(x y:Nat):∀ i,Nat.gcd (eu x y i).1 (eu x y i).2=Nat.gcd x y
 |0=>rfl
 |i+1=>by rw[<-K3 x y i];show Nat.gcd (eu x y i).2 ((eu x y i).1%(eu x y i).2)=_;rw[Iq,<-Nat.gcd_rec,Iq]
theorem Ud(x y:Nat):∀ i,(eu x y i).1<=max x y/\(eu x y i).2<=max x y
 |0=>⟨Nat.le_max_left ..,Nat.le_max_right ..⟩
 |i+1=>by obtain⟨h1,h2⟩:=Ud x y i;exact⟨h2,dq (Ky _ _) h1⟩
theorem OU(x y:Nat)(p:Nat->Nat->Bool)(hp:∀ u v,p u v=true->v≠0):∃ n,p (eu x y n).1 (eu x y n).2=false/\∀ i,i<n->p (eu x y i).1 (eu x y i).2=true:=by
 have key:∃ n,p (eu x y n).1 (eu x y n).2=false:=by
  apply gR;intro fX;have all:∀ i,p (eu x y i).1 (eu x y i).2=true:=λi=>by
   cases h:p (eu x y i).1 (eu x y i).2 with
   |true=>rfl
   |false=>exact absurd ⟨i,h⟩ fX
  have dec:∀ i,(eu x y i).2+i<=y:=by
   intro i;induction i with
   |zero=>exact bC _
   |succ i ih=>
    have h0:=hp _ _ (all i);have h1:(eu x y (i+1)).2<(eu x y i).2:=cM _ (ue h0);omega
  have h1:=dec (y+1);omega
 obtain⟨n,hn⟩:=key;obtain⟨e,h1,h2,h3⟩:=zE (λi=>p (eu x y i).1 (eu x y i).2=false) n hn;exact⟨e,h2,λi hi=>by
  cases h:p (eu x y i).1 (eu x y i).2 with
  |true=>rfl
  |false=>exact absurd h (h3 i hi)⟩
def zZ(u v:Nat):Bool:=decide (2<nd base v)||(decide (2<nd base u)&&decide (0<nd base v))
section
variable{Bs:aa}
def DR(u v:Nat):aX:=[(5,sl 5 (nd base u)),(6,sl 6 (nd base v))]
def Ch(u v:Nat):List Obj:=[kH u,kH v]
theorem aKC{u v:Nat}(h:zZ u v=true)(h0:v≠0)(h1:nd base u<35184372088831)(h2:nd base v<35184372088831):
  ai prog Bs 65 (aJ (ah f159 0)) (DR u v) ([]++marks 5 (Ch u v)) 7 ⟨.normal,gZ 5 [some 6,some 8] (DR v (u%v)),[]++dY [some 6,some 8] (Ch v (u%v)),9⟩:=by
 have hd:=OT (Bs:=Bs) (o:=aw f159 42) (y:=.func 194) k_ (k1:=5) (k2:=6) (kq:=7) (kr:=8) d_ (vE u) rfl (vE v) h0 h1 h2;unfold zZ at h;by_cases c1:2<nd base v
 ·exact aE [.gt 28 (nd base v) 2 true (by simp[c1]),.step 42 _ _ _ _ _ hd]
 ·simp[c1]at h;exact aE [.gt 28 (nd base v) 2 false (by simp;omega),.gt 32 (nd base u) 2 true (by simp[h.1]),.gt 36 (nd base v) 0 true (by simp[h.2]),.step 42 _ _ _ _ _ hd]
theorem aKD{u v:Nat}(h:zZ u v=false):
  ai prog Bs 65 (aJ (ah f159 0)) (DR u v) ([]++marks 5 (Ch u v)) 7 ⟨.exit 0,DR u v,marks 5 (Ch u v),7⟩:=by
 unfold zZ at h;by_cases c1:2<nd base v
 ·simp[c1]at h
 ·by_cases c2:2<nd base u
  ·by_cases c3:0<nd base v
   ·simp[c2,c3]at h
   ·exact aE [.gt 28 (nd base v) 2 false (by simp;omega),.gt 32 (nd base u) 2 true (by simp[c2]),.gt 36 (nd base v) 0 false (by simp;omega)]
  ·exact aE [.gt 28 (nd base v) 2 false (by simp;omega),.gt 32 (nd base u) 2 false (by simp;omega)]
theorem aKE{x y n:Nat}(hn:zZ (eu x y n).1 (eu x y n).2=false)(hi:∀ i,i<n->zZ (eu x y i).1 (eu x y i).2=true)(h1:nd base (max x y)<35184372088831):
  ai prog Bs 65 (.block 0 (ah f159 0)) (gZ 5 [some 3,some 4] (DR x y)) ([]++dY [some 3,some 4] (Ch x y)) 5 ⟨.normal,DR (eu x y n).1 (eu x y n).2,marks 5 (Ch (eu x y n).1 (eu x y n).2),7⟩:=by
 have:=rJ (P:=prog) (B:=Bs) (N:=65) (b:=aJ (ah f159 0)) (next:=5) (p:=2) (r:=⟨.exit 0,DR (eu x y n).1 (eu x y n).2,marks 5 (Ch (eu x y n).1 (eu x y n).2),7⟩) n (λi=>DR (eu x y i).1 (eu x y i).2) (λ_=>[]) (λi=>Ch (eu x y i).1 (eu x y i).2) [some 3,some 4] (λ_ _=>rfl)
  (λi _=>⟨λq hq=>(by cases hq),λz hz=>by simp[Ch]at hz;rcases hz with rfl|rfl<;>exact H4 (fT _)⟩) k_ k_
  (λi al=>⟨[some 6,some 8],9,k_,by have hg:=hi i al;have hle:=Ud x y i;refine aKC hg (λe=>?_) (fq (iX d_ hle.1) h1) (fq (iX d_ hle.2) h1);rw[e]at hg;unfold zZ at hg;rw[nF]at hg;simp at hg⟩) (aKD hn) n_
 exact cd (id:=0) this
def x8(u v:Nat):aX:=[(9,qK u),(10,qK v)]
theorem Ue{x y:Nat}:∃ g,g=Nat.gcd x y/\ai prog Bs 65 (.block 2 (ah f159 2)) (x8 x y) [] 7 ⟨.normal,[(9,qK g)],[],7⟩:=by
 obtain⟨n,hn,hi⟩:=OU x y (λ_ v=>decide (v≠0)) (λu v h=>kX h);have hz:(eu x y n).2=0:=by have:=Ir hn;omega
 have hg:=K3 x y n;rw[hz,Uf]at hg;refine⟨_,hg,cd (id:=2) (cA (P:=prog) (B:=Bs) (N:=65) (b:=aJ (ah f159 2)) (next:=7) (r:=⟨.exit 2,[(9,qK (eu x y n).1)],[],7⟩) n (λi=>x8 (eu x y i).1 (eu x y i).2) (λ_=>[]) (λ_ _ _=>Iff.rfl) (λi al=>?_) ?_ n_)⟩
 ·have h0:(eu x y i).2≠0:=kX (hi i al);show ai _ _ _ _ (x8 (eu x y i).1 (eu x y i).2) [] 7 ⟨.normal,x8 (eu x y i).2 ((eu x y i).1%(eu x y i).2),[],7⟩;generalize (eu x y i).1=u at *;generalize (eu x y i).2=v at *;exact aE [.rw 57 (.bool ((v:Int)!=0)) b_ (by congr 1;rw[vt];omega),.vu f159 61 .u64 (u:Int) v ((u%v:Nat):Int) o_ (by rw[wH o_];rfl) k_]
 ·rw[hz];exact aE [.rw 57 (.bool (((0:Nat):Int)!=0)) a_ rfl]
end
theorem Ug{n1 n2:Bool}{p:Nat}(v1:n1=true->m1≠0)(v2:n2=true->m2≠0)(h1:m1<2^p)(h2:m2<2^q)(hp:p<=1099511627776)(hq:q<=1099511627776):
  aF prog 159 [sv n1 m1,sv n2 m2] (bf (Nat.gcd m1 m2:Nat)):=by
 have b1:=x6 h1;have b2:=x6 h2;have bm:nd base (max m1 m2)<35184372088831:=by rcases OV m1 m2 with h|h<;>simp[h]<;>omega
 obtain⟨n,hn,hi⟩:=OU m1 m2 zZ (λu v h e=>by rw[e]at h;unfold zZ at h;rw[nF]at h;simp at h)
 have hg:=K3 m1 m2 n;have hle:=Ud m1 m2 n;have hl:=λw=>aKE (Bs:=aa.at w) hn hi bm;have bU:nd base (eu m1 m2 n).1<35184372088831:=fq (iX d_ hle.1) bm;have bV:nd base (eu m1 m2 n).2<35184372088831:=fq (iX d_ hle.2) bm;rw[<-hg];generalize (eu m1 m2 n).1=U at *;generalize (eu m1 m2 n).2=V at *;have e:=vD false (Nat.gcd U V);rw[show sg false (Nat.gcd U V)=((Nat.gcd U V:Nat):Int)from rfl]at e;rw[<-e];by_cases hV:V=0
 ·subst hV;rw[Uf];exact aN func159 (λw=>[(c7 n1 v1).at 12,(c7 n2 v2).at 16,.zY f159 22 3 m1 p h1 hp (y:=.func 176) k_,.zY f159 25 4 m2 q h2 hq (y:=.func 176) k_,.code 0 _ _ _ _ _ (hl w),.rw 49 (.bool (((nd base 0:Nat):Int)==0)) b_ (by rw[nF];rfl),.um f159 51 5 U (kH U) (vE U) false o_ (y:=.func 161) k_])
 ·have rK:=vp (B:=base) d_ hV;unfold zZ at hn;have c1:nd base V<=2/\nd base U<=2:=by simp at hn;exact⟨hn.1,KQ.1 λh=>by have:=hn.2 h;omega⟩
  have aBm:∀ t,nd base t<=2->t<18446744073709551616:=λt ht=>by have h1:=ew (B:=base) d_ t;have h2:base^nd base t<=base^2:=df d_ ht;exact cG h1 (dq h2 d_)
  have aKF:=aBm U c1.2;have aBn:=aBm V c1.1;have OW:∀ w,∃ g,g=Nat.gcd U V/\ai prog (aa.at w) 65 (.block 2 (ah f159 2)) (x8 U V) [] 7 ⟨.normal,[(9,qK g)],[],7⟩:=λw=>Ue;have OW:∀ w,ai prog (aa.at w) 65 (.block 2 (ah f159 2)) (x8 U V) [] 7 ⟨.normal,[(9,qK (Nat.gcd U V))],[],7⟩:=λw=>by obtain⟨g,rfl,h⟩:=OW w;exact h
  have aKG:Nat.gcd U V<18446744073709551616:=fq (Nat.gcd_le_right U (ue hV)) aBn;have bG:nd base (Nat.gcd U V)<35184372088832:=by have:=iX (B:=base) d_ (Nat.gcd_le_right U (ue hV));omega
  exact aN func159 (λw=>[(c7 n1 v1).at 12,(c7 n2 v2).at 16,.zY f159 22 3 m1 p h1 hp (y:=.func 176) k_,.zY f159 25 4 m2 q h2 hq (y:=.func 176) k_,.code 0 _ _ _ _ _ (hl w),.fN 49 (nd base V) 0 false (by simp;omega),.step 53 (aw f159 53) _ _ _ _ (Ic (f:=195) (y:=.func 195) (k1:=5) (post:=[]) (res:=qK U) k_ k_ (vE U) n_ rfl λ_ _ h=>aAB h aKF o_),.step 55 (aw f159 55) _ _ _ _ (Ic (f:=195) (y:=.func 195) (k1:=6) (post:=[]) (res:=qK V) k_ k_ (vE V) n_ rfl λ_ _ h=>aAB h aBn o_),.code 2 _ _ _ _ _ (OW w),.step 63 (aw f159 63) _ _ _ _ (OI (y:=.func 160) (args:=[qK (Nat.gcd U V)]) k_ k_ (λv hv=>by simp at hv;subst hv;rfl) (λ_=>Tz aKG) 7),.um f159 64 7 (Nat.gcd U V) (pC (Nat.gcd U V)) (oy _) false bG (y:=.func 161) k_])
theorem FX{x y:Int}{p:Nat}(h1:x.natAbs<2^p)(h2:y.natAbs<2^q)(hp:p<=1099511627776)(hq:q<=1099511627776):aF prog 159 [bf x,bf y] (bf (Nat.gcd x.natAbs y.natAbs:Nat)):=by revert h1 h2;refine FU (C:=λx y v u=>x.natAbs<2^p->y.natAbs<2^q->aF prog 159 [v,u] (bf (Nat.gcd x.natAbs y.natAbs:Nat))) (λn1 n2 m1 m2 v1 v2 h1 h2=>?_) x y;rw[qM]at h1 h2;rw[qM,qM];exact Ug v1 v2 h1 h2 hp hq
theorem OX{a b q r:Int}(h:a=q*b+r)(hr:(0<b/\0<=r/\r<b)\/(b<0/\b<r/\r<=0)):a.fdiv b=q/\a.fmod b=r:=by
 have key:a.fdiv b=q:=by
  rcases hr with ⟨h1,h2,h3⟩|⟨h1,h2,h3⟩
  ·rw[sT _ o_,h,Int.add_comm,aBo _ _ o_,Int.ediv_eq_zero_of_lt h2 h3];omega
  ·have e:a.fdiv b=(-a).fdiv (-b):=(Int.neg_fdiv_neg a b).symm;have e2:-a=-r+q*-b:=by rw[h,Ip];omega
   rw[e,sT _ o_,e2,aBo _ _ o_,Int.ediv_eq_zero_of_lt o_ o_];omega
 refine⟨key,?_⟩;have:=Int.mul_fdiv_add_fmod a b;rw[key,Uh]at this;omega
section
variable{Bs:aa}{N:Nat}
def bd.Is(fn:Func)(key k a:Nat)(x:Obj)(hx:qI x a)(neg:Bool)(h1:nd base a<35184372088832){y:m_}(ho:dD (aw fn key).op=some y):bd prog Bs N:=
 .step key (aw fn key) _ _ _ _ (Ic (f:=161) (k1:=k) (post:=[.bool neg]) (res:=bf (sg neg a)) ho k_ hx (λv hv=>by simp at hv;subst hv;rfl) rfl λ_ _ h=>by rw[<-vD];exact aA6 h h1)
end
theorem Ui{x y:Int}{p:Nat}(hy:y≠0)(h1:x.natAbs<2^p)(h2:y.natAbs<2^q)(hp:p<=1099511627774)(hq:q<=1099511627774):
  aF prog 193 [bf x,bf y] (.tuple #[bf (x.fdiv y),bf (x.fmod y),.int .i64 0]):=by
 obtain⟨m1,c8⟩:∃ m,m=x.natAbs:=⟨_,rfl⟩;obtain⟨m2,dH⟩:∃ m,m=y.natAbs:=⟨_,rfl⟩;rw[<-c8]at h1;rw[<-dH]at h2;have It:m2≠0:=by omega
 have b1:=x6 h1;have b2:=x6 h2;obtain⟨s,hs⟩:∃ s,s=(decide (x<0)!=decide (y<0)):=⟨_,rfl⟩;obtain⟨n1,Dg⟩:∃ n,n=decide (x<0):=⟨_,rfl⟩;obtain⟨Q,hQ⟩:∃ Q,Q=m1/m2:=⟨_,rfl⟩;obtain⟨R,hR⟩:∃ R,R=m1%m2:=⟨_,rfl⟩;have K4:m1=Q*m2+R:=by rw[hQ,hR,cX];exact(jz _ _).symm
 have z7:R<m2:=by rw[hR];exact cM _ (ue It)
 have Uj:Q<=m1:=by rw[hQ];exact uh _ _
 have bQ:nd base (m1/m2)<35184372088832:=by have:=iX (B:=base) d_ Uj;rw[<-hQ];omega
 have bR:nd base (m1%m2)<35184372088832:=by have:=iX (B:=base) d_ (jl z7);rw[<-hR];omega
 have ex:x=sg n1 m1:=by rw[Dg,c8];unfold sg;by_cases h:x<0<;>simp[h]<;>omega
 have ey:y=sg (n1 !=s) m2:=by rw[Dg,hs,dH];unfold sg;by_cases h:x<0<;>by_cases h':y<0<;>simp[h,h']<;>omega
 have K5:(decide (x<0)!=decide (y<0))=s:=hs.symm;have v1:=pE x;have v2:=pE y;have Uk:((BA (ct y.natAbs)).toList==(ByteArray.mk #[]).toList)=false:=by rw[qJ,<-dH,aP It]
 have Ul:(!((BA (ct (sg n1 R).natAbs)).toList==(ByteArray.mk #[]).toList))=decide (R≠0):=by rw[qJ,qM];simp
 have pj:x.natAbs<2^p:=by rw[<-c8];exact h1
 have wM:y.natAbs<2^q:=by rw[<-dH];exact h2
 rw[show m1/m2=Q from hQ.symm]at bQ;rw[show m1%m2=R from hR.symm]at bR;have hd:∀ w,cI prog (aa.at w) (aw f193 33) [.func (.func 194) #[] #[],sl 4 (nd base x.natAbs),sl 5 (nd base y.natAbs)] [(4,some (kH x.natAbs)),(5,some (kH y.natAbs)),(6,none),(7,none)] (.tuple #[sl 6 (nd base Q),sl 7 (nd base R)]) [(7,kH R),(6,kH Q)]:=λw=>by have:=OT (Bs:=aa.at w) (o:=aw f193 33) (y:=.func 194) k_ (k1:=4) (k2:=5) (kq:=6) (kr:=7) d_ (vE x.natAbs) rfl (vE y.natAbs) o_ (by rw[<-c8];omega) (by rw[<-dH];omega);rw[<-c8,<-dH,<-hQ,<-hR]at this;rw[<-c8,<-dH];exact this
 have Um:(Value.bool (decide (x<0)))=.bool n1:=by rw[Dg]
 by_cases OY:R≠0/\s=true
 ·obtain⟨jM,bP⟩:=OY;have fin:=OX (a:=x) (b:=y) (q:=sg s Q-1) (r:=sg n1 R+y) (by
    rw[ex,ey,bP,K4];have e:sg true Q=-(Q:Int):=rfl;rw[e];have fE:((Q*m2:Nat):Int)=(Q:Int)*m2:=oO ..;cases n1<;>simp only[sg,OZ,O0,KD,rm,vz,vy,wK,fE,Int.sub_mul,Io,Ip,KY,O1]<;>omega)
   (by
    rw[ey,bP];cases n1
    ·right;simp only[sg,OZ,rm,vz,vy];omega
    ·left;simp only[sg,O0,KD,rm,vz,vy];omega)
  rw[fin.1,fin.2];have s1:(sg s Q).natAbs<2^p:=by rw[qM];omega
  have s2:(1:Int).natAbs<2^1:=by decide
  have s3:(sg n1 R).natAbs<2^q:=by rw[qM];omega
  have sb:=FV (x:=sg s Q) (y:=1) s1 s2 o_ o_;have ad:=zX (x:=sg n1 R) (y:=y) s3 wM o_ o_;exact aN func193 (λw=>[v1.at 11,v2.at 15,.rw 23 (.bool ((BA (ct y.natAbs)).toList==(ByteArray.mk #[]).toList)) a_ (by rw[Uk]),.zY f193 29 4 x.natAbs p pj o_ (y:=.func 176) k_,.zY f193 32 5 y.natAbs q wM o_ (y:=.func 176) k_,.step 33 _ _ _ _ _ (hd w),.rw 41 (.bool (decide (x<0)!=decide (y<0))) (.bool s) (by rw[K5]),.Is f193 42 6 Q (kH Q) (vE Q) s bQ (y:=.func 161) k_,.rw 45 (.bool (decide (x<0))) (.bool n1) Um,.Is f193 46 7 R (kH R) (vE R) n1 bR (y:=.func 161) k_,.rw 49 (.bool (!((BA (ct (sg n1 R).natAbs)).toList==(ByteArray.mk #[]).toList))) b_ (by rw[Ul,aH jM]),.rw 55 (.bool (decide (x<0)!=decide (y<0))) b_ (by rw[K5,bP]),(kG (z:=1) d_).at 58,sb.at 59,ad.at 62])
 ·have fin:=OX (a:=x) (b:=y) (q:=sg s Q) (r:=sg n1 R) (by
    rw[ex,ey,K4];have fE:((Q*m2:Nat):Int)=(Q:Int)*m2:=oO ..;cases n1<;>cases s<;>simp only[sg,OZ,O0,KD,Om,rm,vz,vy,wK,fE,Io,Ip,KY]<;>omega)
   (by
    rw[ey];cases n1<;>cases s
    ·left;simp only[sg,OZ,vz,vy];omega
    ·right;have jM:R=0:=gR λh=>OY ⟨h,rfl⟩;simp only[sg,OZ,rm,vz,vy];omega
    ·right;simp only[sg,O0,Om,rm];omega
    ·left;have jM:R=0:=gR λh=>OY ⟨h,rfl⟩;simp only[sg,O0,KD,rm,vz,vy];omega)
  rw[fin.1,fin.2];by_cases jM:R=0
  ·exact aN func193 (λw=>[v1.at 11,v2.at 15,.rw 23 (.bool ((BA (ct y.natAbs)).toList==(ByteArray.mk #[]).toList)) a_ (by rw[Uk]),.zY f193 29 4 x.natAbs p pj o_ (y:=.func 176) k_,.zY f193 32 5 y.natAbs q wM o_ (y:=.func 176) k_,.step 33 _ _ _ _ _ (hd w),.rw 41 (.bool (decide (x<0)!=decide (y<0))) (.bool s) (by rw[K5]),.Is f193 42 6 Q (kH Q) (vE Q) s bQ (y:=.func 161) k_,.rw 45 (.bool (decide (x<0))) (.bool n1) Um,.Is f193 46 7 R (kH R) (vE R) n1 bR (y:=.func 161) k_,.rw 49 (.bool (!((BA (ct (sg n1 R).natAbs)).toList==(ByteArray.mk #[]).toList))) a_ (by rw[Ul,aP (λh=>h jM)])])
  ·have bP:s=false:=by
    cases s
    ·rfl
    ·exact absurd ⟨jM,rfl⟩ OY
   exact aN func193 (λw=>[v1.at 11,v2.at 15,.rw 23 (.bool ((BA (ct y.natAbs)).toList==(ByteArray.mk #[]).toList)) a_ (by rw[Uk]),.zY f193 29 4 x.natAbs p pj o_ (y:=.func 176) k_,.zY f193 32 5 y.natAbs q wM o_ (y:=.func 176) k_,.step 33 _ _ _ _ _ (hd w),.rw 41 (.bool (decide (x<0)!=decide (y<0))) (.bool s) (by rw[K5]),.Is f193 42 6 Q (kH Q) (vE Q) s bQ (y:=.func 161) k_,.rw 45 (.bool (decide (x<0))) (.bool n1) Um,.Is f193 46 7 R (kH R) (vE R) n1 bR (y:=.func 161) k_,.rw 49 (.bool (!((BA (ct (sg n1 R).natAbs)).toList==(ByteArray.mk #[]).toList))) b_ (by rw[Ul,aH jM]),.rw 55 (.bool (decide (x<0)!=decide (y<0))) a_ (by rw[K5,bP])])
section
variable{P:j_}{B:aa}{N:Nat}
def FY(o:Oper):Option (Bool×TypeId):=match o.op with|.binOp .eql t _ _ _=>some (true,t)|.binOp .neq t _ _ _=>some (false,t)|_=>none
theorem aBp{op:BinOp}{t:TypeId}{x y:m_}{xs ys:p_}(hg:P.eqGuardType P.depth t=false)(w:h_):(eqGuard op t x y (.agg xs) (.agg ys)).run P w=.ok () w:=by unfold eqGuard;cases op<;>simp[hg]
theorem O2{o:Oper}{t:TypeId}{neg:Bool}{m:Nat}{xs ys:p_}{lx ly:List Lit}{r:Bool}(ho:FY o=some (neg,t))(hm:m<=10000)(hk:P.keyTypeAt m t=true)(hg:P.eqGuardType P.depth t=false)
  (hfx:(Value.agg xs).formed P t=true) (hfy:(Value.agg ys).formed P t=true) (hx:P.keyLits D t xs.toList=some lx) (hy:P.keyLits D t ys.toList=some ly) (YU:flat (.agg xs)=true) (J6:flat (.agg ys)=true)
  (hr:(if neg then r else !r)=true↔lx=ly):cI P B o [.agg xs,.agg ys] [] (.bool r) []:=by
 refine(C7 (λu hu=>by simp at hu;rcases hu with rfl|rfl<;>assumption) rfl λρ gp w _=>?_).step;obtain⟨r',e1,e2⟩:=run_equalIn_deep (10000-m) m t hk w D D (.agg xs) (.agg ys) lx ly hfx hfy hx hy;rw[show 10000-m+m=10000 by omega]at e1;have e1:(Op.equal t (.agg xs) (.agg ys)).run P w=.ok r' w:=e1;unfold FY at ho;split at ho
 ·rename_i t' p q t2 cg;injection ho with ho;injection ho with h1 h2;subst h1;subst h2;rw[cg]at gp;simp[Op.operands]at gp;have e3:r'=r:=by rw[<-e2]at hr;cases r<;>cases r'<;>simp at hr ⊢
  have oS:=aBp (op:=.eql) (x:=p) (y:=q) (xs:=xs) (ys:=ys) hg w;simp only[execOp,cg,gp.1,gp.2];simp[oS,binOp,e1,e3]
 ·rename_i t' p q t2 cg;injection ho with ho;injection ho with h1 h2;subst h1;subst h2;rw[cg]at gp;simp[Op.operands]at gp;have e3:(!r')=r:=by rw[<-e2]at hr;cases r<;>cases r'<;>simp at hr ⊢
  have oS:=aBp (op:=.neq) (x:=p) (y:=q) (xs:=xs) (ys:=ys) hg w;simp only[execOp,cg,gp.1,gp.2];simp[oS,binOp,e1,e3]
 ·cases ho
theorem aBq{β:Type}(f:TypeId->Nat->Option β):∀(l:List Field) {m:List (TypeId×Nat)},l.map (λg=>(g.type,g.offset))=m->(l.mapM λg=>f g.type g.offset)=m.mapM λp=>f p.1 p.2
 |[],m,h=>by subst h;rfl
 |g::l,m,h=>by subst h;simp only[nE,Kr];rw[aBq f l rfl]
theorem O3{t: TypeId}{fs: Array Field}{l: List (TypeId × Nat)}{cs: ak}(hu : P.underlying t = some (.struct fs))(hf : fs.toList.map (fun g => (g.type, g.offset)) = l)(hn : fs.all (fun g => g.name != "_") = true)(hl : cs.length = P.cellsOf t)(d : Nat) :
  P.keyLits (d+1) t cs=(l.mapM λp=>P.keyLits d p.1 ((cs.drop p.2).take (P.cellsOf p.1))).map List.flatten:=by
 conv=>lhs;unfold Program.keyLits
 rw[hu];dsimp only;rw[aB ⟨hl,hn⟩,aBq (λa b=>P.keyLits d a ((cs.drop b).take (P.cellsOf a))) fs.toList hf]
theorem aKH{t e:TypeId}{n:Nat}{cs:ak}(hu:P.underlying t=some (.array n e))(hl:cs.length=P.cellsOf t)(d:Nat):
  P.keyLits (d+1) t cs=((List.range n).mapM λi=>P.keyLits d e ((cs.drop (i*P.cellsOf e)).take (P.cellsOf e))).map List.flatten:=by
 conv=>lhs;unfold Program.keyLits
 rw[hu];dsimp only;rw[aB hl]
theorem aKI{t:TypeId}(hu:P.underlying t=some .bool)(b:Bool)(d:Nat):P.keyLits (d+1) t [.bool b]=some [.bool b]:=by unfold Program.keyLits;rw[hu]
theorem aKJ{t:TypeId}(hu:P.underlying t=some .string)(s:ByteArray)(hs:s.size<=maxLen)(d:Nat):P.keyLits (d+1) t [.string s]=some [.string s.data.toList]:=by unfold Program.keyLits;rw[hu];dsimp only;rw[aB hs]
end
section
class CR (F:Type) extends Add F,Mul F,Neg F,Sub F,Zero F,One F where
 add_assoc:∀ a b c:F,a+b+c=a+(b+c)
 add_comm:∀ a b:F,a+b=b+a
 zero_add:∀ a:F,0+a=a
 neg_add:∀ a:F,-a+a=0
 mul_assoc:∀ a b c:F,a*b*c=a*(b*c)
 mul_comm:∀ a b:F,a*b=b*a
 one_mul:∀ a:F,1*a=a
 mul_add:∀ a b c:F,a*(b+c)=a*b+a*c
 sub_def:∀ a b:F,a-b=a+-b
namespace CR
variable{F:Type}[CR F]
theorem add_zero(a:F):a+0=a:=by rw[add_comm,zero_add]
theorem add_neg(a:F):a+-a=0:=by rw[add_comm,neg_add]
theorem mul_one(a:F):a*1=a:=by rw[mul_comm,one_mul]
theorem add_mul(a b c:F):(a+b)*c=a*c+b*c:=by rw[mul_comm,mul_add,mul_comm c a,mul_comm c b]
theorem add_left_comm(a b c:F):a+(b+c)=b+(a+c):=by rw[<-add_assoc,add_comm a b,add_assoc]
theorem mul_left_comm(a b c:F):a*(b*c)=b*(a*c):=by rw[<-mul_assoc,mul_comm a b,mul_assoc]
theorem add_left_cancel{a b c:F}(h:a+b=a+c):b=c:=by have:=cO (λx=>-a+x) h;simpa only[<-add_assoc,neg_add,zero_add]using this
theorem mul_zero(a:F):a*0=0:=by apply add_left_cancel (a:=a*0);rw[<-mul_add,zero_add,add_zero]
theorem zero_mul(a:F):0*a=0:=by rw[mul_comm,mul_zero]
theorem Iu{a b:F}(h:a+b=0):b=-a:=add_left_cancel (a:=a) (by rw[h,add_neg])
theorem neg_mul(a b:F):-a*b=-(a*b):=Iu (by rw[<-add_mul,add_neg,zero_mul])
theorem mul_neg(a b:F):a*-b=-(a*b):=by rw[mul_comm,neg_mul,mul_comm]
theorem neg_neg(a:F):- -a=a:=(Iu (neg_add a)).symm
theorem z8(a b:F):-(a+b)=-a+-b:=
 (Iu (by rw[add_assoc,add_left_comm b,<-add_assoc,add_neg,zero_add,add_neg])).symm
theorem neg_zero:-(0:F)=0:=(Iu (zero_add 0)).symm
def ofNat:Nat->F
 |0=>0
 |n+1=>ofNat n+1
def ofInt:Int->F
 |.ofNat n=>ofNat n
 |.negSucc n=>-ofNat (n+1)
theorem ofNat_add(a b:Nat):(ofNat (a+b):F)=ofNat a+ofNat b:=by
 induction b with
 |zero=>simp[ofNat,add_zero]
 |succ b ih=>rw[<-u9];simp only[ofNat];rw[ih,add_assoc]
theorem ofNat_mul(a b:Nat):(ofNat (a*b):F)=ofNat a*ofNat b:=by
 induction b with
 |zero=>simp[ofNat,mul_zero]
 |succ b ih=>rw[Od,ofNat_add,ih];simp only[ofNat];rw[mul_add,mul_one]
theorem ofInt_sub(a b:Nat):(ofInt ((a:Int)-b):F)=ofNat a+-ofNat b:=by
 rcases OV b a with h|h
 ·obtain⟨c,rfl⟩:=Nat.le.dest h;rw[show((b+c:Nat):Int)-b=Int.ofNat c by simp[wK];omega];simp only[ofInt];rw[ofNat_add,add_comm (ofNat b),add_assoc,add_neg,add_zero]
 ·obtain⟨c,rfl⟩:=Nat.le.dest h;cases c with
  |zero=>rw[show(a:Int)-((a+0:Nat):Int)=Int.ofNat 0 by simp];simp[ofInt,ofNat,add_neg]
  |succ c=>
   rw[show(a:Int)-((a+(c+1):Nat):Int)=Int.negSucc c by omega];simp only[ofInt];rw[ofNat_add a (c+1),z8,<-add_assoc,add_neg,zero_add]
theorem ofInt_neg(a:Int):(ofInt (-a):F)=-ofInt a:=by
 cases a with
 |ofNat n=>
  cases n with
  |zero=>simp[ofInt,ofNat,neg_zero]
  |succ n=>rfl
 |negSucc n=>rw[show -(Int.negSucc n)=Int.ofNat (n+1)from rfl];simp only[ofInt];rw[neg_neg]
theorem s8(a:Int):∃ m n:Nat,a=(m:Int)-n:=by
 cases a with
 |ofNat m=>exact⟨m,0,by simp⟩
 |negSucc n=>exact⟨0,n+1,by omega⟩
theorem ofInt_add(a b:Int):(ofInt (a+b):F)=ofInt a+ofInt b:=by obtain⟨m,n,rfl⟩:=s8 a;obtain⟨p,q,rfl⟩:=s8 b;rw[show(m:Int)-n+(p-q)=((m+p:Nat):Int)-(n+q:Nat)by omega];rw[ofInt_sub,ofInt_sub,ofInt_sub,ofNat_add,ofNat_add,z8];simp only[add_assoc,add_left_comm]
theorem ofInt_mul(a b:Int):(ofInt (a*b):F)=ofInt a*ofInt b:=by
 obtain⟨m,n,rfl⟩:=s8 a;obtain⟨p,q,rfl⟩:=s8 b;rw[show((m:Int)-n)*(p-q)=((m*p+n*q:Nat):Int)-(m*q+n*p:Nat)by simp only[wK,oO,Int.sub_mul,Int.mul_sub];omega]
 rw[ofInt_sub,ofInt_sub,ofInt_sub];simp only[ofNat_add,ofNat_mul,add_mul,mul_add,neg_mul,mul_neg,z8,neg_neg];simp only[add_assoc,add_left_comm,add_comm]
end CR
open CR
inductive E where
 |var (i:Nat)
 |num (n:Int)
 |add (a b:E)
 |mul (a b:E)
 |neg (a:E)
 |sub (a b:E)
 |one
namespace E
instance:Add E:=⟨E.add⟩
instance:Mul E:=⟨E.mul⟩
instance:Neg E:=⟨E.neg⟩
instance:Sub E:=⟨E.sub⟩
instance:Zero E:=⟨E.num 0⟩
instance:One E:=⟨E.one⟩
def den{F:Type}[CR F](ρ:Nat->F):E->F
 |.var i=>ρ i
 |.num n=>ofInt n
 |.add a b=>den ρ a+den ρ b
 |.mul a b=>den ρ a*den ρ b
 |.neg a=>-den ρ a
 |.sub a b=>den ρ a-den ρ b
 |.one=>1
abbrev Mon:=List Nat
abbrev Poly:=List (Mon×Int)
def O4(v:Nat):Mon->Mon
 |[]=>[v]
 |u::m=>if Nat.ble v u then v::u::m else u::O4 v m
def K6(m n:Mon):Mon:=m.foldr O4 n
def FZ:Mon->Mon->Bool
 |[],[]=>true
 |a::m,b::n=>Nat.beq a b&&FZ m n
 |_,_=>false
def mlt:Mon->Mon->Bool
 |[],[]=>false
 |[],_::_=>true
 |_::_,[]=>false
 |a::m,b::n=>if Nat.beq a b then mlt m n else Nat.blt a b
def pins(m:Mon)(a:Int):Poly->Poly
 |[]=>[(m,a)]
 |(n,b)::p=>if FZ m n then(if a+b=0 then p else(n,a+b)::p)else if mlt m n then(m,a)::(n,b)::p else(n,b)::pins m a p
def Iv(p q:Poly):Poly:=p.foldr (λx acc=>pins x.1 x.2 acc) q
def K7(m:Mon)(a:Int)(q:Poly)(acc:Poly):Poly:=q.foldr (λx acc=>pins (K6 m x.1) (a*x.2) acc) acc
def K8(p q:Poly):Poly:=p.foldr (λx acc=>K7 x.1 x.2 q acc) []
def norm:E->Poly
 |.var i=>[([i],1)]
 |.num n=>if n=0 then[]else[([],n)]
 |.add a b=>Iv (norm a) (norm b)
 |.mul a b=>K8 (norm a) (norm b)
 |.neg a=>(norm a).map λx=>(x.1,-x.2)
 |.sub a b=>Iv (norm a) ((norm b).map λx=>(x.1,-x.2))
 |.one=>[([],1)]
def peq:Poly->Poly->Bool
 |[],[]=>true
 |(m,a)::p,(n,b)::q=>FZ m n&&(a==b)&&peq p q
 |_,_=>false
section
variable{F:Type}[CR F](ρ:Nat->F)
def s9:Mon->F
 |[]=>1
 |v::m=>ρ v*s9 m
def kt:Poly->F
 |[]=>0
 |(m,a)::p=>ofInt a*s9 ρ m+kt p
theorem aKK(v:Nat)(m:Mon):s9 ρ (O4 v m)=ρ v*s9 ρ m:=by
 induction m with
 |nil=>rfl
 |cons u m ih=>
  simp only[O4];split
  ·rfl
  ·simp only[s9];rw[ih,mul_left_comm]
theorem aKL(m n:Mon):s9 ρ (K6 m n)=s9 ρ m*s9 ρ n:=by
 induction m with
 |nil=>simp only[K6,Un,s9,one_mul]
 |cons v m ih=>simp only[K6,Uo,aKK];simp only[K6]at ih;rw[ih];simp only[s9];rw[mul_assoc]
theorem aBr{m n:Mon}(h:FZ m n=true):m=n:=by
 induction m generalizing n with
 |nil=>cases n<;>simp_all [FZ]
 |cons a m ih=>
  cases n with
  |nil=>simp[FZ]at h
  |cons b n=>
   simp only[FZ,dr]at h;rw[Sj h.1,ih h.2]
theorem aBs(m:Mon)(a:Int)(p:Poly):kt ρ (pins m a p)=ofInt a*s9 ρ m+kt ρ p:=by
 induction p with
 |nil=>rfl
 |cons x p ih=>
  obtain⟨n,b⟩:=x;simp only[pins];split
  ·rename_i h;have:=aBr h;subst this;split
   ·rename_i h0;simp only[kt];rw[<-add_assoc,<-add_mul,<-ofInt_add,h0];rw[show(ofInt 0:F)=0 from rfl,zero_mul,zero_add]
   ·simp only[kt];rw[ofInt_add,add_mul,add_assoc]
  ·split
   ·rfl
   ·simp only[kt];rw[ih,add_left_comm]
theorem aBt(p q:Poly):kt ρ (Iv p q)=kt ρ p+kt ρ q:=by
 induction p with
 |nil=>simp only[Iv,Un,kt,zero_add]
 |cons x p ih=>simp only[Iv,Uo,aBs];simp only[Iv]at ih;rw[ih];simp only[kt];rw[add_assoc]
theorem aKM(m:Mon)(a:Int)(q acc:Poly):kt ρ (K7 m a q acc)=ofInt a*s9 ρ m*kt ρ q+kt ρ acc:=by
 induction q with
 |nil=>simp only[K7,Un,kt,mul_zero,zero_add]
 |cons x q ih=>
  simp only[K7,Uo,aBs];simp only[K7]at ih;rw[ih];simp only[kt];rw[aKL,ofInt_mul,mul_add,<-add_assoc]
  congr 2
  simp only[mul_assoc,mul_left_comm]
theorem aKN(p q:Poly):kt ρ (K8 p q)=kt ρ p*kt ρ q:=by
 induction p with
 |nil=>simp only[K8,Un,kt,zero_mul]
 |cons x p ih=>simp only[K8,Uo,aKM];simp only[K8]at ih;rw[ih];simp only[kt];rw[add_mul]
theorem aBu(p:Poly):kt ρ (p.map λx=>(x.1,-x.2))=-kt ρ p:=by
 induction p with
 |nil=>simp only[TI,kt,neg_zero]
 |cons x p ih=>simp only[nE,kt];rw[ih,ofInt_neg,neg_mul,z8]
theorem aBv(e:E):kt ρ (norm e)=den ρ e:=by
 induction e with
 |var i=>
  simp only[norm,kt,s9,den,mul_one,add_zero];rw[show(ofInt 1:F)=0+1 from rfl,zero_add,one_mul]
 |num n=>
  simp only[norm];split
  ·rename_i h;subst h;rfl
  ·simp only[kt,s9,den,mul_one,add_zero]
 |add a b K9 La=>simp only[norm,den,aBt,K9,La]
 |mul a b K9 La=>simp only[norm,den,aKN,K9,La]
 |neg a ih=>simp only[norm,den,aBu,ih]
 |sub a b K9 La=>simp only[norm,den,aBt,aBu,K9,La,sub_def]
 |one=>simp only[norm,kt,s9,den,mul_one,add_zero];rw[show(ofInt 1:F)=0+1 from rfl,zero_add]
theorem aKO{p q:Poly}(h:peq p q=true):p=q:=by
 induction p generalizing q with
 |nil=>cases q<;>simp_all [peq]
 |cons x p ih=>
  obtain⟨m,a⟩:=x;cases q with
  |nil=>simp[peq]at h
  |cons y q=>
   obtain⟨n,b⟩:=y;simp only[peq,dr,beq_iff_eq]at h;rw[aBr h.1.1,h.1.2,ih h.2]
theorem prove(l r:E)(h:peq l.norm r.norm=true):l.den ρ=r.den ρ:=by rw[<-aBv,<-aBv,aKO h]
end
end E
def tf{F:Type}[CR F](l:List F):Nat->F:=λi=>l.getD i 0
end
section
open CR
class OF (F:Type) extends CR F,Inv F where
 jn:∀ x:F,x≠0->x*x⁻¹=1
 inv_zero:(0:F)⁻¹=0
 aG:F->Int
 fF:∀ x:F,aG x=0↔x=0
 iY:∀ x:F,aG x=-1\/aG x=0\/aG x=1
 pY:∀ x:F,aG (-x)=- aG x
 mW:∀ x y:F,aG (x*y)=aG x*aG y
 DS:∀ x y:F,aG x=1->aG y=1->aG (x+y)=1
 Iw:aG (1:F)=1
namespace OF
variable{F:Type}[OF F]
instance:LT F:=⟨λa b=>aG (b-a)=1⟩
instance:LE F:=⟨λa b=>aG (b-a)≠-1⟩
theorem lt_def(a b:F):(a<b)=(aG (b-a)=1):=rfl
theorem le_def(a b:F):(a<=b)=(aG (b-a)≠-1):=rfl
instance(a b:F):Decidable (a<b):=inferInstanceAs (Decidable (aG (b-a)=1))
instance(a b:F):Decidable (a<=b):=inferInstanceAs (Decidable (aG (b-a)≠-1))
theorem Ix(a:F)(l r:E->E)(h:E.peq (l (.var 0)).norm (r (.var 0)).norm=true):(l (.var 0)).den (tf [a])=(r (.var 0)).den (tf [a]):=E.prove _ _ _ h
theorem jN(a b:F)(l r:E->E->E)(h:E.peq (l (.var 0) (.var 1)).norm (r (.var 0) (.var 1)).norm=true):
  (l (.var 0) (.var 1)).den (tf [a,b])=(r (.var 0) (.var 1)).den (tf [a,b]):=E.prove _ _ _ h
theorem ku(a b c:F)(l r:E->E->E->E)(h:E.peq (l (.var 0) (.var 1) (.var 2)).norm (r (.var 0) (.var 1) (.var 2)).norm=true):
  (l (.var 0) (.var 1) (.var 2)).den (tf [a,b,c])=(r (.var 0) (.var 1) (.var 2)).den (tf [a,b,c]):=E.prove _ _ _ h
theorem Aa(a b c d:F)(l r:E->E->E->E->E)(h:E.peq (l (.var 0) (.var 1) (.var 2) (.var 3)).norm (r (.var 0) (.var 1) (.var 2) (.var 3)).norm=true):
  (l (.var 0) (.var 1) (.var 2) (.var 3)).den (tf [a,b,c,d])=(r (.var 0) (.var 1) (.var 2) (.var 3)).den (tf [a,b,c,d]):=E.prove _ _ _ h
theorem Iy(a b c d e:F)(l r:E->E->E->E->E->E)
  (h:E.peq (l (.var 0) (.var 1) (.var 2) (.var 3) (.var 4)).norm (r (.var 0) (.var 1) (.var 2) (.var 3) (.var 4)).norm=true) :
  (l (.var 0) (.var 1) (.var 2) (.var 3) (.var 4)).den (tf [a,b,c,d,e])=(r (.var 0) (.var 1) (.var 2) (.var 3) (.var 4)).den (tf [a,b,c,d,e]):=E.prove _ _ _ h
theorem aKP(a b c d e f:F)(l r:E->E->E->E->E->E->E)
  (h:E.peq (l (.var 0) (.var 1) (.var 2) (.var 3) (.var 4) (.var 5)).norm (r (.var 0) (.var 1) (.var 2) (.var 3) (.var 4) (.var 5)).norm=true) :
  (l (.var 0) (.var 1) (.var 2) (.var 3) (.var 4) (.var 5)).den (tf [a,b,c,d,e,f])=(r (.var 0) (.var 1) (.var 2) (.var 3) (.var 4) (.var 5)).den (tf [a,b,c,d,e,f]):=E.prove _ _ _ h
theorem sub_zero(a:F):a-0=a:=Ix a (λa=>a-0) (λa=>a) d_
theorem sub_self(a:F):a-a=0:=Ix a (λa=>a-a) (λ_=>0) d_
theorem sub_eq_zero{a b:F}:a-b=0↔a=b:=by
 constructor
 ·intro h;have:a=(a-b)+b:=jN a b (λa _=>a) (λa b=>(a-b)+b) d_;rw[this,h,CR.zero_add]
 ·rintro rfl;exact sub_self a
theorem gk{a:F}:0<a↔aG a=1:=by rw[lt_def,sub_zero]
theorem Iz{a:F}:a<0↔aG a=-1:=by rw[lt_def,show(0:F)-a=-a from Ix a (λa=>0-a) (λa=>-a) d_,pY];omega
theorem O5{a:F}:a=0↔aG a=0:=(fF a).symm
theorem Lb{a:F}:0<=a↔aG a≠-1:=by rw[le_def,sub_zero]
theorem Up{a:F}:a<=0↔aG a≠1:=by rw[le_def,show(0:F)-a=-a from Ix a (λa=>0-a) (λa=>-a) d_,pY];omega
theorem neg_sub(a b:F):-(a-b)=b-a:=jN a b (λa b=>-(a-b)) (λa b=>b-a) d_
theorem F0(a b:F):aG (a-b)=- aG (b-a):=by rw[<-neg_sub,pY]
theorem lt_irrefl(a:F):¬a<a:=by rw[lt_def,sub_self,(fF (0:F)).2 rfl];decide
theorem not_lt{a b:F}:¬a<b↔b<=a:=by rw[lt_def,le_def,F0 a b];omega
theorem not_le{a b:F}:¬a<=b↔b<a:=by rw[lt_def,le_def,F0 a b];rcases iY (b-a)with h|h|h<;>rw[h]<;>decide
theorem lt_trans{a b c:F}(h:a<b)(k:b<c):a<c:=by rw[lt_def]at *;rw[show c-a=(c-b)+(b-a)from ku a b c (λa _ c=>c-a) (λa b c=>(c-b)+(b-a)) d_];exact DS _ _ k h
theorem le_of_lt{a b:F}(h:a<b):a<=b:=by rw[lt_def]at h;rw[le_def,h];decide
theorem le_refl(a:F):a<=a:=by rw[le_def,sub_self,(fF (0:F)).2 rfl];decide
theorem le_of_eq{a b:F}(h:a=b):a<=b:=h▸le_refl a
theorem oA{a b:F}(h:a<=b):a<b\/a=b:=by
 rw[le_def]at h;rw[lt_def];rcases iY (b-a)with k|k|k
 ·exact absurd k h
 ·exact .inr (sub_eq_zero.1 ((fF _).1 k)).symm
 ·exact .inl k
theorem lt_of_lt_of_le{a b c:F}(h:a<b)(k:b<=c):a<c:=by
 rcases oA k with k|rfl
 ·exact lt_trans h k
 ·exact h
theorem lt_of_le_of_lt{a b c:F}(h:a<=b)(k:b<c):a<c:=by
 rcases oA h with h|rfl
 ·exact lt_trans h k
 ·exact k
theorem le_trans{a b c:F}(h:a<=b)(k:b<=c):a<=c:=by
 rcases oA h with h|rfl
 ·exact le_of_lt (lt_of_lt_of_le h k)
 ·exact k
theorem le_antisymm{a b:F}(h:a<=b)(k:b<=a):a=b:=by
 rcases oA h with h|h
 ·exact absurd (lt_of_lt_of_le h k) (lt_irrefl a)
 ·exact h
theorem lt_trichotomy(a b:F):a<b\/a=b\/b<a:=by
 by_cases h:a<b
 ·exact .inl h
 ·rcases oA (not_lt.1 h)with h|h
  ·exact .inr (.inr h)
  ·exact .inr (.inl h.symm)
theorem le_total(a b:F):a<=b\/b<=a:=by
 by_cases h:a<b
 ·exact .inl (le_of_lt h)
 ·exact .inr (not_lt.1 h)
theorem ne_of_lt{a b:F}(h:a<b):a≠b:=λe=>lt_irrefl b (e▸h)
theorem ne_of_gt{a b:F}(h:a<b):b≠a:=λe=>lt_irrefl b (e▸h)
theorem sub_pos{a b:F}:0<b-a↔a<b:=by rw[gk,lt_def]
theorem sub_nonneg{a b:F}:0<=b-a↔a<=b:=by rw[Lb,le_def]
theorem add_pos{a b:F}(h:0<a)(k:0<b):0<a+b:=by rw[gk]at *;exact DS _ _ h k
theorem add_nonneg{a b:F}(h:0<=a)(k:0<=b):0<=a+b:=by
 rcases oA h with h|h
 ·rcases oA k with k|k
  ·exact le_of_lt (add_pos h k)
  ·rw[<-k,CR.add_zero];exact le_of_lt h
 ·rw[<-h,CR.zero_add];exact k
theorem IA{a b:F}(h:0<a)(k:0<=b):0<a+b:=by
 rcases oA k with k|k
 ·exact add_pos h k
 ·rw[<-k,CR.add_zero];exact h
theorem aBw{a b:F}(h:0<=a)(k:0<b):0<a+b:=by rw[CR.add_comm];exact IA k h
theorem mul_pos{a b:F}(h:0<a)(k:0<b):0<a*b:=by rw[gk]at *;rw[mW,h,k];rfl
theorem mul_nonneg{a b:F}(h:0<=a)(k:0<=b):0<=a*b:=by
 rcases oA h with h|h
 ·rcases oA k with k|k
  ·exact le_of_lt (mul_pos h k)
  ·rw[<-k,CR.mul_zero];exact le_refl _
 ·rw[<-h,CR.zero_mul];exact le_refl _
theorem neg_pos{a:F}:0 < -a↔a<0:=by rw[gk,Iz,pY];omega
theorem neg_nonneg{a:F}:0<=-a↔a<=0:=by rw[Lb,Up,pY];omega
theorem F1{a:F}:-a<0↔0<a:=by rw[gk,Iz,pY];omega
theorem DT{a:F}:-a<=0↔0<=a:=by rw[Lb,Up,pY];omega
theorem zero_lt_one:(0:F)<1:=by rw[gk];exact Iw
theorem nM(a:F):0<=a*a:=by rw[Lb,mW];rcases iY a with h|h|h<;>rw[h]<;>decide
theorem Uq{a:F}(h:a≠0):0<a*a:=by
 rw[gk,mW];rcases iY a with k|k|k
 ·rw[k];decide
 ·exact absurd ((fF a).1 k) h
 ·rw[k];decide
theorem mul_eq_zero{a b:F}:a*b=0↔a=0\/b=0:=by rw[<-fF,mW,<-fF,<-fF,Int.mul_eq_zero]
theorem mul_ne_zero{a b:F}(h:a≠0)(k:b≠0):a*b≠0:=λe=>by
 rcases mul_eq_zero.1 e with e|e
 ·exact h e
 ·exact k e
theorem mul_lt_mul_left{a b c:F}(hc:0<c):c*a<c*b↔a<b:=by rw[lt_def,lt_def,show c*b-c*a=c*(b-a)from ku a b c (λa b c=>c*b-c*a) (λa b c=>c*(b-a)) d_,mW,gk.1 hc,O1]
theorem mul_le_mul_left{a b c:F}(hc:0<c):c*a<=c*b↔a<=b:=by rw[le_def,le_def,show c*b-c*a=c*(b-a)from ku a b c (λa b c=>c*b-c*a) (λa b c=>c*(b-a)) d_,mW,gk.1 hc,O1]
theorem add_lt_add_left{a b:F}(c:F):c+a<c+b↔a<b:=by rw[lt_def,lt_def,show c+b-(c+a)=b-a from ku a b c (λa b c=>c+b-(c+a)) (λa b _=>b-a) d_]
theorem add_le_add_left{a b:F}(c:F):c+a<=c+b↔a<=b:=by rw[le_def,le_def,show c+b-(c+a)=b-a from ku a b c (λa b c=>c+b-(c+a)) (λa b _=>b-a) d_]
theorem add_lt_add_right{a b:F}(c:F):a+c<b+c↔a<b:=by rw[CR.add_comm a,CR.add_comm b];exact add_lt_add_left c
theorem add_le_add_right{a b:F}(c:F):a+c<=b+c↔a<=b:=by rw[CR.add_comm a,CR.add_comm b];exact add_le_add_left c
theorem add_le_add{a b c d:F}(h:a<=b)(k:c<=d):a+c<=b+d:=le_trans ((add_le_add_right c).2 h) ((add_le_add_left b).2 k)
theorem add_lt_add{a b c d:F}(h:a<b)(k:c<d):a+c<b+d:=lt_trans ((add_lt_add_right c).2 h) ((add_lt_add_left b).2 k)
theorem add_lt_add_of_lt_of_le{a b c d:F}(h:a<b)(k:c<=d):a+c<b+d:=lt_of_lt_of_le ((add_lt_add_right c).2 h) ((add_le_add_left b).2 k)
theorem add_lt_add_of_le_of_lt{a b c d:F}(h:a<=b)(k:c<d):a+c<b+d:=lt_of_le_of_lt ((add_le_add_right c).2 h) ((add_lt_add_left b).2 k)
theorem inv_mul{a:F}(h:a≠0):a⁻¹*a=1:=by rw[CR.mul_comm,jn a h]
theorem aKQ(a:F):aG a⁻¹=aG a:=by
 by_cases h:a=0
 ·rw[h,inv_zero]
 ·have:=mW a a⁻¹;rw[jn a h,Iw]at this;rcases iY a with k|k|k<;>rcases iY a⁻¹ with l|l|l<;>rw[k,l]at this ⊢<;>omega
theorem inv_pos{a:F}(h:0<a):0<a⁻¹:=by rw[gk]at *;rw[aKQ,h]
theorem Lc{u v:F}(h:v*v<u*u):aG (u+v)=aG u:=by
 have e:(u+v)*(u-v)=u*u-v*v:=jN u v (λu v=>(u+v)*(u-v)) (λu v=>u*u-v*v) d_;have s:aG (u+v)*aG (u-v)=1:=by rw[<-mW,e];exact h
 have t:(u+v)+(u-v)=u+u:=jN u v (λu v=>(u+v)+(u-v)) (λu _=>u+u) d_;have two:∀ x y:F,aG x=1->aG y=1->x+y=u+u->aG u=1:=by
  intro x y hx hy kU;have:=DS x y hx hy;rw[kU]at this;rcases iY u with k|k|k
  ·have h2:=DS (-u) (-u) (by rw[pY,k];rfl) (by rw[pY,k];rfl);rw[<-CR.z8,pY,this]at h2;exact absurd h2 d_
  ·rw[(fF u).1 k,CR.add_zero,(fF (0:F)).2 rfl]at this;exact absurd this d_
  ·exact k
 rcases iY (u+v)with k|k|k<;>rcases iY (u-v)with l|l|l<;>rw[k,l]at s<;>first|exact absurd s d_|skip
 ·have h1:=DS (-(u+v)) (-(u-v)) (by rw[pY,k];rfl) (by rw[pY,l];rfl);rw[<-CR.z8,t,CR.z8]at h1;rw[k];rcases iY u with m|m|m
  ·exact m.symm
  ·rw[(fF u).1 m,CR.neg_zero,CR.add_zero,(fF (0:F)).2 rfl]at h1;exact absurd h1 d_
  ·have h2:=DS u u m m;rw[<-CR.z8,pY,h2]at h1;exact absurd h1 d_
 ·rw[k,two _ _ k l t]
theorem Ld{a b:F}(h:0<a):aG (a*b)=aG b:=by rw[mW,gk.1 h,O1]
theorem mul_lt_mul''{a b c d:F}(ha:0<=a)(h:a<b)(hc:0<=c)(k:c<d):a*c<b*d:=by have hb:=lt_of_le_of_lt ha h;have hd:=lt_of_le_of_lt hc k;have e:b*d-a*c=(b-a)*d+a*(d-c):=Aa a b c d (λa b c d=>b*d-a*c) (λa b c d=>(b-a)*d+a*(d-c)) d_;rw[<-sub_pos,e];exact IA (mul_pos (sub_pos.2 h) hd) (mul_nonneg ha (sub_nonneg.2 (le_of_lt k)))
end OF
end
section
open CR OF
class x9 (F:Type) [OF F] (s:F):Prop where
 pos:0<s
 Ur:∀ x y:F,x*x=s*(y*y)->y=0
@[ext] structure bK (F:Type) (s:F) where
 re:F
 im:F
namespace bK
variable{F:Type}[OF F]{s:F}
instance:Add (bK F s):=⟨λx y=>⟨x.re+y.re,x.im+y.im⟩⟩
instance:Mul (bK F s):=⟨λx y=>⟨x.re*y.re+s*(x.im*y.im),x.re*y.im+x.im*y.re⟩⟩
instance:Neg (bK F s):=⟨λx=>⟨-x.re,-x.im⟩⟩
instance:Sub (bK F s):=⟨λx y=>⟨x.re-y.re,x.im-y.im⟩⟩
instance:Zero (bK F s):=⟨⟨0,0⟩⟩
instance:One (bK F s):=⟨⟨1,0⟩⟩
def nm(x:bK F s):F:=x.re*x.re-s*(x.im*x.im)
instance:Inv (bK F s):=⟨λx=>⟨x.re*(nm x)⁻¹,-(x.im*(nm x)⁻¹)⟩⟩
def sg(x:bK F s):Int:=if aG (nm x)=1 then aG x.re else aG x.im
theorem Us(x y:bK F s):(x+y).re=x.re+y.re:=rfl
theorem Ut(x y:bK F s):(x+y).im=x.im+y.im:=rfl
theorem IB(x y:bK F s):(x*y).re=x.re*y.re+s*(x.im*y.im):=rfl
theorem IC(x y:bK F s):(x*y).im=x.re*y.im+x.im*y.re:=rfl
theorem O6(x:bK F s):(-x).re=-x.re:=rfl
theorem O7(x:bK F s):(-x).im=-x.im:=rfl
theorem ID:(0:bK F s).re=0:=rfl
theorem IE:(0:bK F s).im=0:=rfl
theorem Uu:(1:bK F s).re=1:=rfl
theorem aBx:(1:bK F s).im=0:=rfl
theorem Uv(x:bK F s):(x⁻¹).re=x.re*(nm x)⁻¹:=rfl
theorem Uw(x:bK F s):(x⁻¹).im=-(x.im*(nm x)⁻¹):=rfl
theorem O8(x y:bK F s):nm (x*y)=nm x*nm y:=by
 unfold nm;rw[IB,IC]
 exact Iy x.re x.im y.re y.im s (λa b c d s=>(a*c+s*(b*d))*(a*c+s*(b*d))-s*((a*d+b*c)*(a*d+b*c)))
  (λa b c d s=>(a*a-s*(b*b))*(c*c-s*(d*d))) d_
theorem aBy(x:bK F s):nm (-x)=nm x:=by unfold nm;rw[O6,O7];exact ku x.re x.im s (λa b s=>-a*-a-s*(-b*-b)) (λa b s=>a*a-s*(b*b)) d_
theorem tg{x:bK F s}(h:aG (nm x)=1):sg x=aG x.re:=by unfold sg;rw[aB h]
theorem uo{x:bK F s}(h:aG (nm x)=-1):sg x=aG x.im:=by unfold sg;rw[av (by rw[h];decide)]
theorem IF:sg (0:bK F s)=0:=by unfold sg;split<;>exact(fF _).2 rfl
theorem Ux(x:bK F s):sg (-x)=- sg x:=by unfold sg;rw[aBy,O6,O7,OF.pY,OF.pY];split<;>rfl
theorem aKR(x:bK F s):sg x=-1\/sg x=0\/sg x=1:=by unfold sg;split<;>exact iY _
theorem O9(x:bK F s):(-x).re*(-x).re=x.re*x.re/\(-x).im*(-x).im=x.im*x.im:=by rw[O6,O7];exact⟨Ix x.re (λa=>-a*-a) (λa=>a*a) d_,Ix x.im (λa=>-a*-a) (λa=>a*a) d_⟩
theorem aKS(x y:bK F s):x+y=y+x:=bK.ext (CR.add_comm _ _) (CR.add_comm _ _)
theorem aKT:sg (1:bK F s)=1:=by
 have:nm (1:bK F s)=1:=by unfold nm;rw[Uu,aBx,CR.mul_zero,CR.mul_zero,OF.sub_zero,CR.one_mul]
 rw[tg (by rw[this];exact Iw),Uu];exact Iw
variable[hs:x9 F s]
theorem Pa{x:bK F s}(h:nm x=0):x=0:=by
 have h1:=OF.sub_eq_zero.1 h;have h2:=x9.Ur _ _ h1;have h3:x.re=0:=by rw[h2,CR.mul_zero,CR.mul_zero]at h1;rcases mul_eq_zero.1 h1 with h|h<;>exact h
 exact bK.ext h3 h2
theorem ways(x:bK F s):x=0\/(aG (nm x)=1/\s*(x.im*x.im)<x.re*x.re)\/(aG (nm x)=-1/\x.re*x.re<s*(x.im*x.im)):=by
 rcases OF.lt_trichotomy (x.re*x.re) (s*(x.im*x.im))with h|h|h
 ·refine .inr (.inr ⟨?_,h⟩);unfold nm;rw[F0,show aG (s*(x.im*x.im)-x.re*x.re)=1 from h]
 ·exact .inl (Pa (OF.sub_eq_zero.2 h))
 ·exact .inr (.inl ⟨h,h⟩)
theorem aKU:aG s=1:=gk.1 (x9.pos (F:=F) (s:=s))
theorem aKV(x y:bK F s):sg (x*y)=sg x*sg y:=by
 have hz:∀ z:bK F s,(0:bK F s)*z=0:=λz=>by
  apply bK.ext
  ·rw[IB,ID,IE,CR.zero_mul,CR.zero_mul,CR.mul_zero,CR.add_zero]
  ·rw[IC,ID,IE,CR.zero_mul,CR.zero_mul,CR.add_zero]
 have oN:∀ z:bK F s,z*(0:bK F s)=0:=λz=>by
  apply bK.ext
  ·rw[IB,ID,IE,CR.mul_zero,CR.mul_zero,CR.mul_zero,CR.add_zero]
  ·rw[IC,ID,IE,CR.mul_zero,CR.mul_zero,CR.add_zero]
 have hp:=x9.pos (F:=F) (s:=s);rcases ways x with rfl|⟨hx,lx⟩|⟨hx,lx⟩
 ·rw[hz,IF,Int.zero_mul]
 ·rcases ways y with rfl|⟨hy,ly⟩|⟨hy,ly⟩
  ·rw[oN,IF,Int.mul_zero]
  ·have hn:aG (nm (x*y))=1:=by rw[O8,mW,hx,hy];rfl
   rw[tg hx,tg hy,tg hn,<-mW,IB];apply Lc;have:=mul_lt_mul'' (mul_nonneg (le_of_lt hp) (nM _)) lx (mul_nonneg (le_of_lt hp) (nM _)) ly;rw[show s*(x.im*y.im)*(s*(x.im*y.im))=s*(x.im*x.im)*(s*(y.im*y.im))from ku x.im y.im s (λb d s=>s*(b*d)*(s*(b*d))) (λb d s=>s*(b*b)*(s*(d*d))) d_];rw[show x.re*y.re*(x.re*y.re)=x.re*x.re*(y.re*y.re)from jN x.re y.re (λa c=>a*c*(a*c)) (λa c=>a*a*(c*c)) d_];exact this
  ·have hn:aG (nm (x*y))=-1:=by rw[O8,mW,hx,hy];rfl
   rw[tg hx,uo hy,uo hn,<-mW,IC];apply Lc;have:=mul_lt_mul'' (mul_nonneg (le_of_lt hp) (nM _)) lx (nM _) ly;rw[<-mul_lt_mul_left hp];rw[show s*(x.im*y.re*(x.im*y.re))=s*(x.im*x.im)*(y.re*y.re)from ku x.im y.re s (λb c s=>s*(b*c*(b*c))) (λb c s=>s*(b*b)*(c*c)) d_];rw[show s*(x.re*y.im*(x.re*y.im))=x.re*x.re*(s*(y.im*y.im))from ku x.re y.im s (λa d s=>s*(a*d*(a*d))) (λa d s=>a*a*(s*(d*d))) d_];exact this
 ·rcases ways y with rfl|⟨hy,ly⟩|⟨hy,ly⟩
  ·rw[oN,IF,Int.mul_zero]
  ·have hn:aG (nm (x*y))=-1:=by rw[O8,mW,hx,hy];rfl
   rw[uo hx,tg hy,uo hn,<-mW,IC,CR.add_comm];apply Lc;have:=mul_lt_mul'' (nM _) lx (mul_nonneg (le_of_lt hp) (nM _)) ly;rw[<-mul_lt_mul_left hp];rw[show s*(x.im*y.re*(x.im*y.re))=s*(x.im*x.im)*(y.re*y.re)from ku x.im y.re s (λb c s=>s*(b*c*(b*c))) (λb c s=>s*(b*b)*(c*c)) d_];rw[show s*(x.re*y.im*(x.re*y.im))=x.re*x.re*(s*(y.im*y.im))from ku x.re y.im s (λa d s=>s*(a*d*(a*d))) (λa d s=>a*a*(s*(d*d))) d_];exact this
  ·have hn:aG (nm (x*y))=1:=by rw[O8,mW,hx,hy];rfl
   rw[uo hx,uo hy,tg hn,<-mW,IB,CR.add_comm];rw[show aG (x.im*y.im)=aG (s*(x.im*y.im))by rw[Ld hp]];apply Lc;have:=mul_lt_mul'' (nM _) lx (nM _) ly;rw[show s*(x.im*y.im)*(s*(x.im*y.im))=s*(x.im*x.im)*(s*(y.im*y.im))from ku x.im y.im s (λb d s=>s*(b*d)*(s*(b*d))) (λb d s=>s*(b*b)*(s*(d*d))) d_];rw[show x.re*y.re*(x.re*y.re)=x.re*x.re*(y.re*y.re)from jN x.re y.re (λa c=>a*c*(a*c)) (λa c=>a*a*(c*c)) d_];exact this
theorem aKW(x:bK F s):sg x=0↔x=0:=by
 constructor
 ·intro h;rcases ways x with rfl|⟨hx,lx⟩|⟨hx,lx⟩
  ·rfl
  ·rw[tg hx]at h;rw[(fF _).1 h,CR.mul_zero]at lx;exact absurd (lt_of_le_of_lt (mul_nonneg (le_of_lt (x9.pos (F:=F) (s:=s))) (nM _)) lx) (OF.lt_irrefl _)
  ·rw[uo hx]at h;rw[(fF _).1 h,CR.mul_zero,CR.mul_zero]at lx;exact absurd (lt_of_le_of_lt (nM _) lx) (OF.lt_irrefl _)
 ·rintro rfl;exact IF
theorem aBz{u v:F}(hu:0<u)(h:v*v<u*u):0<u+v:=by rw[gk,Lc h];exact gk.1 hu
theorem add_one{x y:bK F s}(hx:s*(x.im*x.im)<x.re*x.re)(hy:s*(y.im*y.im)<y.re*y.re)(px:0<x.re)(py:0<y.re):sg (x+y)=1:=by
 have hp:=x9.pos (F:=F) (s:=s);have:=mul_lt_mul'' (mul_nonneg (le_of_lt hp) (nM _)) hx (mul_nonneg (le_of_lt hp) (nM _)) hy;have h1:0<x.re*y.re+-(s*(x.im*y.im)):=by apply aBz (mul_pos px py);rw[show -(s*(x.im*y.im))*-(s*(x.im*y.im))=s*(x.im*x.im)*(s*(y.im*y.im))from ku x.im y.im s (λb d s=>-(s*(b*d))*-(s*(b*d))) (λb d s=>s*(b*b)*(s*(d*d))) d_];rw[show x.re*y.re*(x.re*y.re)=x.re*x.re*(y.re*y.re)from jN x.re y.re (λa c=>a*c*(a*c)) (λa c=>a*a*(c*c)) d_];exact this
 have hn:aG (nm (x+y))=1:=by
  rw[<-gk];unfold nm;rw[Us,Ut];rw[show(x.re+y.re)*(x.re+y.re)-s*((x.im+y.im)*(x.im+y.im))=(x.re*x.re-s*(x.im*x.im))+(y.re*y.re-s*(y.im*y.im))+((x.re*y.re+-(s*(x.im*y.im)))+(x.re*y.re+-(s*(x.im*y.im))))from
   Iy x.re x.im y.re y.im s (λa b c d s=>(a+c)*(a+c)-s*((b+d)*(b+d))) (λa b c d s=>(a*a-s*(b*b))+(c*c-s*(d*d))+((a*c+-(s*(b*d)))+(a*c+-(s*(b*d))))) d_]
  exact add_pos (add_pos (sub_pos.2 hx) (sub_pos.2 hy)) (add_pos h1 h1)
 rw[tg hn,Us];exact gk.1 (add_pos px py)
theorem aBA{x y:bK F s}(hx:x.re*x.re<s*(x.im*x.im))(hy:y.re*y.re<s*(y.im*y.im))(px:0<x.im)(py:0<y.im):sg (x+y)=1:=by
 have hp:=x9.pos (F:=F) (s:=s);have:=mul_lt_mul'' (nM _) hx (nM _) hy;have h1:0<s*(x.im*y.im)+-(x.re*y.re):=by apply aBz (mul_pos hp (mul_pos px py));rw[show s*(x.im*y.im)*(s*(x.im*y.im))=s*(x.im*x.im)*(s*(y.im*y.im))from ku x.im y.im s (λb d s=>s*(b*d)*(s*(b*d))) (λb d s=>s*(b*b)*(s*(d*d))) d_];rw[show -(x.re*y.re)*-(x.re*y.re)=x.re*x.re*(y.re*y.re)from jN x.re y.re (λa c=>-(a*c)*-(a*c)) (λa c=>a*a*(c*c)) d_];exact this
 have hn:aG (nm (x+y))=-1:=by
  rw[<-Iz,<-neg_pos];unfold nm;rw[Us,Ut];rw[show -((x.re+y.re)*(x.re+y.re)-s*((x.im+y.im)*(x.im+y.im)))=(s*(x.im*x.im)-x.re*x.re)+(s*(y.im*y.im)-y.re*y.re)+((s*(x.im*y.im)+-(x.re*y.re))+(s*(x.im*y.im)+-(x.re*y.re)))from
   Iy x.re x.im y.re y.im s (λa b c d s=>-((a+c)*(a+c)-s*((b+d)*(b+d)))) (λa b c d s=>(s*(b*b)-a*a)+(s*(d*d)-c*c)+((s*(b*d)+-(a*c))+(s*(b*d)+-(a*c)))) d_]
  exact add_pos (add_pos (sub_pos.2 hx) (sub_pos.2 hy)) (add_pos h1 h1)
 rw[uo hn,Ut];exact gk.1 (add_pos px py)
theorem aKX(x y:bK F s)(hx:sg x=1)(hy:sg y=1):sg (x+y)=1:=by
 have ne:∀ z:bK F s,sg z=1->z≠0:=λz h e=>by rw[e,IF]at h;exact absurd h d_
 -- the first part of x aWA,the second one of y
 have mixed:∀ x y:bK F s,sg x=1->sg y=1->aG (nm x)=1->s*(x.im*x.im)<x.re*x.re->aG (nm y)=-1->y.re*y.re<s*(y.im*y.im)->sg (x+y)=1:=by
  intro x y hx hy nx lx ny ly;rw[tg nx]at hx;rw[uo ny]at hy;rcases ways (x+y)with h|⟨hn,ln⟩|⟨hn,ln⟩
  ·have:y=-x:=by have h1:x.re+y.re=0:=cO bK.re h;have h2:x.im+y.im=0:=cO bK.im h;exact bK.ext (CR.Iu h1) (CR.Iu h2)
   rw[this,aBy,nx]at ny;exact absurd ny d_
  ·rw[tg hn];rcases iY (x+y).re with k|k|k
   ·-- then -(x+y) and x add up to -y
    have h3:=add_one (x:=-(x+y)) (y:=x) (by rw[(O9 _).1,(O9 _).2];exact ln) lx (by rw[O6];exact neg_pos.2 (Iz.2 k)) (gk.2 hx);have h4:-(x+y)+x=-y:=bK.ext (jN x.re y.re (λa c=>-(a+c)+a) (λ_ c=>-c) d_) (jN x.im y.im (λa c=>-(a+c)+a) (λ_ c=>-c) d_);rw[h4,Ux,uo ny,hy]at h3;exact absurd h3 d_
   ·have k0:=(fF _).1 k;rw[k0,CR.mul_zero]at ln;exact absurd (lt_of_le_of_lt (mul_nonneg (le_of_lt (x9.pos (F:=F) (s:=s))) (nM _)) ln) (OF.lt_irrefl _)
   ·exact k
  ·rw[uo hn];rcases iY (x+y).im with k|k|k
   ·have h3:=aBA (x:=-(x+y)) (y:=y) (by rw[(O9 _).1,(O9 _).2];exact ln) ly (by rw[O7];exact neg_pos.2 (Iz.2 k)) (gk.2 hy);have h4:-(x+y)+y=-x:=bK.ext (jN x.re y.re (λa c=>-(a+c)+c) (λa _=>-a) d_) (jN x.im y.im (λa c=>-(a+c)+c) (λa _=>-a) d_);rw[h4,Ux,tg nx,hx]at h3;exact absurd h3 d_
   ·have k0:=(fF _).1 k;rw[k0,CR.mul_zero,CR.mul_zero]at ln;exact absurd (lt_of_le_of_lt (nM _) ln) (OF.lt_irrefl _)
   ·exact k
 rcases ways x with h|⟨nx,lx⟩|⟨nx,lx⟩
 ·exact absurd h (ne x hx)
 ·rcases ways y with h|⟨ny,ly⟩|⟨ny,ly⟩
  ·exact absurd h (ne y hy)
  ·rw[tg nx]at hx;rw[tg ny]at hy;exact add_one lx ly (gk.2 hx) (gk.2 hy)
  ·exact mixed x y hx hy nx lx ny ly
 ·rcases ways y with h|⟨ny,ly⟩|⟨ny,ly⟩
  ·exact absurd h (ne y hy)
  ·rw[aKS];exact mixed y x hy hx ny ly nx lx
  ·rw[uo nx]at hx;rw[uo ny]at hy;exact aBA lx ly (gk.2 hx) (gk.2 hy)
instance:OF (bK F s) where
 add_assoc a b c:=bK.ext (CR.add_assoc _ _ _) (CR.add_assoc _ _ _)
 add_comm a b:=bK.ext (CR.add_comm _ _) (CR.add_comm _ _)
 zero_add a:=bK.ext (CR.zero_add _) (CR.zero_add _)
 neg_add a:=bK.ext (CR.neg_add _) (CR.neg_add _)
 mul_assoc x y z:=bK.ext
  (E.prove (tf [x.re,x.im,y.re,y.im,z.re,z.im,s]) ((E.var 0*E.var 2+E.var 6*(E.var 1*E.var 3))*E.var 4+E.var 6*((E.var 0*E.var 3+E.var 1*E.var 2)*E.var 5))
   (E.var 0*(E.var 2*E.var 4+E.var 6*(E.var 3*E.var 5))+E.var 6*(E.var 1*(E.var 2*E.var 5+E.var 3*E.var 4))) d_)
  (E.prove (tf [x.re,x.im,y.re,y.im,z.re,z.im,s]) ((E.var 0*E.var 2+E.var 6*(E.var 1*E.var 3))*E.var 5+(E.var 0*E.var 3+E.var 1*E.var 2)*E.var 4)
   (E.var 0*(E.var 2*E.var 5+E.var 3*E.var 4)+E.var 1*(E.var 2*E.var 4+E.var 6*(E.var 3*E.var 5))) d_)
 mul_comm x y:=bK.ext
  (Iy x.re x.im y.re y.im s (λa b c d s=>a*c+s*(b*d)) (λa b c d s=>c*a+s*(d*b)) d_)
  (Aa x.re x.im y.re y.im (λa b c d=>a*d+b*c) (λa b c d=>c*b+d*a) d_)
 one_mul x:=bK.ext
  (ku x.re x.im s (λa b s=>1*a+s*(0*b)) (λa _ _=>a) d_)
  (jN x.re x.im (λa b=>1*b+0*a) (λ_ b=>b) d_)
 mul_add x y z:=bK.ext
  (E.prove (tf [x.re,x.im,y.re,y.im,z.re,z.im,s]) (E.var 0*(E.var 2+E.var 4)+E.var 6*(E.var 1*(E.var 3+E.var 5)))
   ((E.var 0*E.var 2+E.var 6*(E.var 1*E.var 3))+(E.var 0*E.var 4+E.var 6*(E.var 1*E.var 5))) d_)
  (aKP x.re x.im y.re y.im z.re z.im (λa b c d e f=>a*(d+f)+b*(c+e)) (λa b c d e f=>(a*d+b*c)+(a*f+b*e)) d_)
 sub_def a b:=bK.ext (CR.sub_def _ _) (CR.sub_def _ _)
 jn x h:=by
  have hn:nm x≠0:=λe=>h (Pa e);have h1:=jn (nm x) hn;apply bK.ext
  ·rw[IB,Uv,Uw,Uu,<-h1];exact Aa x.re x.im s (nm x)⁻¹ (λa b s n=>a*(a*n)+s*(b*-(b*n))) (λa b s n=>(a*a-s*(b*b))*n) d_
  ·rw[IC,Uv,Uw,aBx];exact ku x.re x.im (nm x)⁻¹ (λa b n=>a*-(b*n)+b*(a*n)) (λ_ _ _=>0) d_
 inv_zero:=by
  apply bK.ext
  ·rw[Uv,ID,CR.zero_mul]
  ·rw[Uw,IE,CR.zero_mul,CR.neg_zero]
 aG:=sg
 fF:=aKW
 iY:=aKR
 pY:=Ux
 mW:=aKV
 DS:=aKX
 Iw:=aKT
end bK
theorem Ci(q:Rat):q.num.sign=1↔0<q:=by rw[Int.sign_eq_one_iff_pos,Rat.lt_iff];simp
theorem IG(q:Rat):q.num.sign=-1↔q<0:=by rw[aKY,Rat.lt_iff];simp
theorem IH(q:Rat):q.num.sign=0↔q=0:=by rw[aKZ];exact Rat.num_eq_zero
theorem Uy(q:Rat):q.num.sign=-1\/q.num.sign=0\/q.num.sign=1:=by
 rcases Pb q.num 0 with h|h|h
 ·exact .inl (aKY.2 h)
 ·exact .inr (.inl (aKZ.2 h))
 ·exact .inr (.inr (Int.sign_eq_one_iff_pos.2 h))
instance:OF Rat where
 add_assoc:=Rat.add_assoc
 add_comm:=Rat.add_comm
 zero_add:=Rat.zero_add
 neg_add:=Rat.neg_add_cancel
 mul_assoc:=Rat.mul_assoc
 mul_comm:=Rat.mul_comm
 one_mul:=Rat.one_mul
 mul_add:=Rat.mul_add
 sub_def:=Rat.sub_eq_add_neg
 jn:=λx h=>II x h
 inv_zero:=Rat.inv_zero
 aG q:=q.num.sign
 fF:=IH
 iY:=Uy
 pY q:=by rw[Rat.neg_num,Int.sign_neg]
 mW x y:=by
  rcases Uy x with h|h|h<;>rcases Uy y with k|k|k<;>rw[h,k]
  ·exact(Ci _).2 (by have:=(IG _).1 h;have:=(IG _).1 k;have h2:=Uz (a:=-x) (b:=-y) (by grind) (by grind);grind)
  ·rw[(IH y).1 k,Rat.mul_zero];rfl
  ·exact(IG _).2 (by have:=(IG _).1 h;have:=(Ci _).1 k;have h2:=Uz (a:=-x) (b:=y) (by grind) (by grind);grind)
  ·rw[(IH x).1 h,Rat.zero_mul];rfl
  ·rw[(IH x).1 h,Rat.zero_mul];rfl
  ·rw[(IH x).1 h,Rat.zero_mul];rfl
  ·exact(IG _).2 (by have:=(Ci _).1 h;have:=(IG _).1 k;have h2:=Uz (a:=x) (b:=-y) (by grind) (by grind);grind)
  ·rw[(IH y).1 k,Rat.mul_zero];rfl
  ·exact(Ci _).2 (Uz ((Ci _).1 h) ((Ci _).1 k))
 DS x y h k:=(Ci _).2 (by have:=(Ci _).1 h;have:=(Ci _).1 k;grind)
 Iw:=rfl
theorem aK0(n:Nat)(hn:n=2\/n=3\/n=6)(p q:Nat)(h:p*p=n*(q*q))(hc:Nat.gcd p q=1):False:=by
 rcases hn with rfl|rfl|rfl
 ·have h1:p%2=0:=by
   have:(p*p)%2=0:=by rw[h];omega
   rcases UA p with k|k
   ·exact k
   ·rw[Le,k]at this;exact absurd this d_
  obtain⟨r,rfl⟩:∃ r,p=2*r:=⟨p/2,by omega⟩;have h2:q*q=2*(r*r):=by
   have:2*r*(2*r)=2*(2*(r*r)):=by simp only[gi,nH]
   omega
  have h3:q%2=0:=by
   have:(q*q)%2=0:=by rw[h2];omega
   rcases UA q with k|k
   ·exact k
   ·rw[Le,k]at this;exact absurd this d_
  have:=IJ (Lf h1) (Lf h3);rw[hc]at this;exact absurd this d_
 ·have m3:∀ k:Nat,(k*k)%3=0->k%3=0:=by
   intro k hk;have:k%3=0\/k%3=1\/k%3=2:=by omega
   rcases this with e|e|e
   ·exact e
   ·rw[Le,e]at hk;exact absurd hk d_
   ·rw[Le,e]at hk;exact absurd hk d_
  have h1:p%3=0:=m3 p (by rw[h];omega);obtain⟨r,rfl⟩:∃ r,p=3*r:=⟨p/3,by omega⟩;have h2:q*q=3*(r*r):=by
   have:3*r*(3*r)=3*(3*(r*r)):=by simp only[gi,nH]
   omega
  have h3:q%3=0:=m3 q (by rw[h2];omega);have:=IJ (Lf h1) (Lf h3);rw[hc]at this;exact absurd this d_
 ·have h1:p%2=0:=by
   have:(p*p)%2=0:=by rw[h];omega
   rcases UA p with k|k
   ·exact k
   ·rw[Le,k]at this;exact absurd this d_
  obtain⟨r,rfl⟩:∃ r,p=2*r:=⟨p/2,by omega⟩;have h2:3*(q*q)=2*(r*r):=by
   have:2*r*(2*r)=2*(2*(r*r)):=by simp only[gi,nH]
   omega
  have h3:q%2=0:=by
   have:(q*q)%2=0:=by omega
   rcases UA q with k|k
   ·exact k
   ·rw[Le,k]at this;exact absurd this d_
  have:=IJ (Lf h1) (Lf h3);rw[hc]at this;exact absurd this d_
theorem UB(n:Nat)(hn:n=2\/n=3\/n=6)(x:Rat)(h:x*x=(n:Rat)):False:=by
 have hd:(x.den:Rat)≠0:=by have:=x.den_nz;simpa[Rat.natCast_eq_zero_iff]using this
 have e:(x.num:Rat)*x.num=n*(x.den*x.den):=by
  have h3:x*(x.den:Rat)=x.num:=by have h4:(x.num:Rat)/x.den*x.den=x.num:=aBB hd;rw[<-Rat.mkRat_eq_div,Rat.mkRat_self]at h4;exact h4
  rw[<-h3,<-h];grind
 have e':x.num*x.num=n*(x.den*x.den):=by
  have:((x.num*x.num:Int):Rat)=((n*(x.den*x.den):Int):Rat):=by simp only[DU,Rat.intCast_natCast];exact e
  exact Rat.intCast_inj.1 this
 have e'':x.num.natAbs*x.num.natAbs=n*(x.den*x.den):=by have:=cO Int.natAbs e';rw[vF]at this;rw[this];simp[vF]
 exact aK0 n hn _ _ e'' x.reduced
theorem aK1{x y c:Rat}(h:x*x=c*(y*y))(hy:y≠0):(x*y⁻¹)*(x*y⁻¹)=c:=by
 have:=II y hy;have e:(x*y⁻¹)*(x*y⁻¹)=(x*x)*(y⁻¹*y⁻¹):=by grind
 rw[e,h];grind
instance aWB:x9 Rat 2 where
 pos:=by rw[gk];rfl
 Ur x y h:=by
  by_cases hy:y=0
  ·exact hy
  ·exact(UB 2 (.inl rfl) _ (aK1 h hy)).elim
abbrev K2:=bK Rat 2
def ya:K2:=⟨3,0⟩
theorem aK2(x:K2)(h:x*x=ya):False:=by
 have h1:x.re*x.re+2*(x.im*x.im)=3:=cO bK.re h;have h2:x.re*x.im+x.im*x.re=0:=cO bK.im h;have h3:x.re=0\/x.im=0:=by
  have:x.re*x.im=0:=by grind
  exact Rat.mul_eq_zero.1 this
 rcases h3 with h3|h3
 ·have:(2*x.im)*(2*x.im)=((6:Nat):Rat):=by rw[h3]at h1;have:((6:Nat):Rat)=6:=rfl;grind
  exact UB 6 (.inr (.inr rfl)) _ this
 ·have:x.re*x.re=((3:Nat):Rat):=by rw[h3]at h1;have:((3:Nat):Rat)=3:=rfl;grind
  exact UB 3 (.inr (.inl rfl)) _ this
instance aWC:x9 K2 ya where
 pos:=by rw[gk];decide +kernel
 Ur x y h:=by
  by_cases hy:y=0
  ·exact hy
  ·refine(aK2 (x*y⁻¹) ?_).elim;have h1:=OF.jn y hy;rw[show x*y⁻¹*(x*y⁻¹)=x*x*(y⁻¹*y⁻¹)from jN x y⁻¹ (λx i=>x*i*(x*i)) (λx i=>x*x*(i*i)) d_,h];rw[show ya*(y*y)*(y⁻¹*y⁻¹)=ya*((y*y⁻¹)*(y*y⁻¹))from ku y y⁻¹ ya (λy i t=>t*(y*y)*(i*i)) (λy i t=>t*((y*i)*(y*i))) d_,h1,CR.mul_one,CR.mul_one]
abbrev K:=bK K2 ya
instance:OF K:=inferInstance
instance:DecidableEq K2:=λx y=>decidable_of_iff (x.re=y.re/\x.im=y.im) ⟨λh=>bK.ext h.1 h.2,λh=>by subst h;exact⟨rfl,rfl⟩⟩
instance:DecidableEq K:=λx y=>decidable_of_iff (x.re=y.re/\x.im=y.im) ⟨λh=>bK.ext h.1 h.2,λh=>by subst h;exact⟨rfl,rfl⟩⟩
structure Fr where
 a:Int
 b:Int
 c:Int
 e:Int
 d:Int
theorem Fr.ext'{x y:Fr}(h1:x.a=y.a)(h2:x.b=y.b)(h3:x.c=y.c)(h4:x.e=y.e)(h5:x.d=y.d):x=y:=by cases x;cases y;simp at *;exact⟨h1,h2,h3,h4,h5⟩
def Fr.val(x:Fr):K:=⟨⟨Rat.divInt x.a x.d,Rat.divInt x.b x.d⟩,⟨Rat.divInt x.c x.d,Rat.divInt x.e x.d⟩⟩
def Fr.g(x:Fr):Nat:=Nat.gcd (Nat.gcd (Nat.gcd (Nat.gcd x.d.natAbs x.a.natAbs) x.b.natAbs) x.c.natAbs) x.e.natAbs
structure Fr.qa(x:Fr):Prop where
 pos:0<x.d
 one:x.g=1
theorem aK3{x:Fr}{k:Nat}(hd:k ∣ x.d.natAbs)(ha:k ∣ x.a.natAbs)(hb:k ∣ x.b.natAbs)(hc:k ∣ x.c.natAbs)(he:k ∣ x.e.natAbs):k ∣ x.g:=
 IJ (IJ (IJ (IJ hd ha) hb) hc) he
theorem F2(x:Fr):x.g ∣ x.d.natAbs:=DW (DW (DW (Cj _ _) (Cj _ _)) (Cj _ _)) (Cj _ _)
theorem Pc(x:Fr):x.g ∣ x.a.natAbs:=DW (DW (DW (Cj _ _) (Cj _ _)) (Cj _ _)) (UC _ _)
theorem Pd(x:Fr):x.g ∣ x.b.natAbs:=DW (DW (Cj _ _) (Cj _ _)) (UC _ _)
theorem Pe(x:Fr):x.g ∣ x.c.natAbs:=DW (Cj _ _) (UC _ _)
theorem Pf(x:Fr):x.g ∣ x.e.natAbs:=UC _ _
theorem aBC(x:Fr)(k:Nat):(Fr.mk (x.a*k) (x.b*k) (x.c*k) (x.e*k) (x.d*k)).g=x.g*k:=by unfold Fr.g;simp only[vF,yb,Nat.gcd_mul_right]
theorem aBD{x y:Fr}(hx:x.qa)(hy:y.qa)(h:x.val=y.val):x.d.natAbs ∣ y.d.natAbs:=by
 have yc:x.d≠0:=by have:=hx.pos;omega
 have wO:y.d≠0:=by have:=hy.pos;omega
 have hr:=cO bK.re h;have hi:=cO bK.im h;have h1:Rat.divInt x.a x.d=Rat.divInt y.a y.d:=cO bK.re hr;have h2:Rat.divInt x.b x.d=Rat.divInt y.b y.d:=cO bK.im hr;have h3:Rat.divInt x.c x.d=Rat.divInt y.c y.d:=cO bK.re hi;have h4:Rat.divInt x.e x.d=Rat.divInt y.e y.d:=cO bK.im hi;rw[Rat.divInt_eq_divInt_iff yc wO]at h1 h2 h3 h4;have key:∀ u v:Int,u*y.d=v*x.d->x.d.natAbs ∣ (u*(y.d.natAbs:Int)).natAbs:=by
  intro u v e;have e2:(u*(y.d.natAbs:Int)).natAbs=(u*y.d).natAbs:=by simp[vF]
  rw[e2,e,vF];exact Nat.dvd_mul_left _ _
 have:=aK3 (x:=Fr.mk (x.a*(y.d.natAbs:Int)) (x.b*(y.d.natAbs:Int)) (x.c*(y.d.natAbs:Int)) (x.e*(y.d.natAbs:Int)) (x.d*(y.d.natAbs:Int))) (k:=x.d.natAbs)
  (by rw[vF];exact Nat.dvd_mul_right _ _) (key _ _ h1) (key _ _ h2) (key _ _ h3) (key _ _ h4)
 rw[aBC,hx.one,pv]at this;exact this
theorem aBE{x y:Fr}(hx:x.qa)(hy:y.qa)(h:x.val=y.val):x=y:=by
 have jZ:=hx.pos;have hyp:=hy.pos;have hd:x.d=y.d:=by have:=Nat.dvd_antisymm (aBD hx hy h) (aBD hy hx h.symm);omega
 have yc:x.d≠0:=by omega
 have wO:y.d≠0:=by omega
 have hr:=cO bK.re h;have hi:=cO bK.im h;have h1:Rat.divInt x.a x.d=Rat.divInt y.a y.d:=cO bK.re hr;have h2:Rat.divInt x.b x.d=Rat.divInt y.b y.d:=cO bK.im hr;have h3:Rat.divInt x.c x.d=Rat.divInt y.c y.d:=cO bK.re hi;have h4:Rat.divInt x.e x.d=Rat.divInt y.e y.d:=cO bK.im hi;rw[Rat.divInt_eq_divInt_iff yc wO,hd]at h1 h2 h3 h4;exact Fr.ext' (UD wO h1) (UD wO h2) (UD wO h3) (UD wO h4) hd
def Fr.s(x:Fr):Int:=if x.d<0 then -(x.g:Int)else x.g
def Fr.low(x:Fr):Fr:=⟨x.a/x.s,x.b/x.s,x.c/x.s,x.e/x.s,x.d/x.s⟩
theorem UE{x:Fr}(hd:x.d≠0):0<x.g:=Nat.pos_of_dvd_of_pos (F2 x) o_
theorem UF{x:Fr}(hd:x.d≠0):x.s≠0:=by have:=UE hd;unfold Fr.s;split<;>omega
theorem Pg(x:Fr):x.s.natAbs=x.g:=by unfold Fr.s;split<;>simp
theorem DX{x:Fr}{u:Int}(h:x.g ∣ u.natAbs):x.s ∣ u:=by rw[<-Int.natAbs_dvd_natAbs,Pg];exact h
theorem aBF{x:Fr}:x.a=x.low.a*x.s/\x.b=x.low.b*x.s/\x.c=x.low.c*x.s/\x.e=x.low.e*x.s/\x.d=x.low.d*x.s:=
 ⟨(Ph (DX (Pc x))).symm,(Ph (DX (Pd x))).symm,(Ph (DX (Pe x))).symm,(Ph (DX (Pf x))).symm,(Ph (DX (F2 x))).symm⟩
theorem aBG{x:Fr}(hd:x.d≠0):x.low.val=x.val:=by obtain⟨h1,h2,h3,h4,h5⟩:=aBF (x:=x);have hs:=UF hd;have key:∀ u v:Int,Rat.divInt u x.low.d=Rat.divInt (u*x.s) (x.low.d*x.s):=λu _=>(Rat.divInt_mul_right hs).symm;unfold Fr.val;rw[key _ 0,key _ 0,key _ 0,key _ 0,<-h1,<-h2,<-h3,<-h4,<-h5]
theorem aBH{x:Fr}(hd:x.d≠0):x.low.qa:=by
 obtain⟨h1,h2,h3,h4,h5⟩:=aBF (x:=x);have hg:=UE hd;constructor
 ·have:x.d=x.low.d*x.s:=h5;rcases Int.lt_or_gt_of_ne hd with h|h
  ·have hs:x.s<0:=by unfold Fr.s;rw[aB h];omega
   rcases Pb x.low.d 0 with k|k|k
   ·have:=Int.mul_pos_of_neg_of_neg k hs;omega
   ·rw[k,Int.zero_mul]at this;omega
   ·exact k
  ·have hs:0<x.s:=by unfold Fr.s;rw[av o_];omega
   rcases Pb x.low.d 0 with k|k|k
   ·have:=Int.mul_neg_of_neg_of_pos k hs;omega
   ·rw[k,Int.zero_mul]at this;omega
   ·exact k
 ·have e:x.g=x.low.g*x.g:=by
   obtain⟨G,hG⟩:∃ G,G=x.g:=⟨_,rfl⟩;have ab:∀ u v:Int,u=v*x.s->u.natAbs=(v*(G:Int)).natAbs:=λu v h=>by rw[h,vF,vF,Pg,yb,hG]
   have h:=aBC x.low G;have e2:x.g=(Fr.mk (x.low.a*G) (x.low.b*G) (x.low.c*G) (x.low.e*G) (x.low.d*G)).g:=by unfold Fr.g;dsimp only;rw[<-ab _ _ h1,<-ab _ _ h2,<-ab _ _ h3,<-ab _ _ h4,<-ab _ _ h5]
   have:=e2.trans h;rw[hG]at this;exact this
  have:=aK4 hg (show 1*x.g=x.low.g*x.g by rw[pv];exact e);exact this.symm
theorem Lg{x:Fr}{u:Int}(hd:x.d≠0):(u/x.s).natAbs<=u.natAbs:=aK5 u x.s
def bT(k:K):Fr:=(Fr.mk (k.re.re.num*(k.re.im.den*(k.im.re.den*k.im.im.den):Nat)) (k.re.im.num*(k.re.re.den*(k.im.re.den*k.im.im.den):Nat))
 (k.im.re.num*(k.re.re.den*(k.re.im.den*k.im.im.den):Nat)) (k.im.im.num*(k.re.re.den*(k.re.im.den*k.im.re.den):Nat)) ((k.re.re.den*(k.re.im.den*(k.im.re.den*k.im.im.den)):Nat):Int)).low
theorem kY(k:K):(bT k).qa:=aBH (by have h1:=k.re.re.den_pos;have h2:=k.re.im.den_pos;have h3:=k.im.re.den_pos;have h4:=k.im.im.den_pos;have:=rL h1 (rL h2 (rL h3 h4));show((k.re.re.den*(k.re.im.den*(k.im.re.den*k.im.im.den)):Nat):Int)≠0;omega)
theorem Pj(q:Rat){m n:Nat}(hm:0<m)(e:n=q.den*m):Rat.divInt (q.num*(m:Nat)) ((n:Nat):Int)=q:=by have h:Rat.divInt (q.num*(m:Int)) ((q.den:Int)*(m:Int))=Rat.divInt q.num q.den:=Rat.divInt_mul_right o_;rw[e,oO,h];exact aBI q
theorem pF(k:K):(bT k).val=k:=by have h1:=k.re.re.den_pos;have h2:=k.re.im.den_pos;have h3:=k.im.re.den_pos;have h4:=k.im.im.den_pos;have hp:=rL h1 (rL h2 (rL h3 h4));unfold bT;rw[aBG (by show((k.re.re.den*(k.re.im.den*(k.im.re.den*k.im.im.den)):Nat):Int)≠0;omega)];unfold Fr.val;dsimp only;rw[Pj k.re.re (rL h2 (rL h3 h4)) rfl,Pj k.re.im (rL h1 (rL h3 h4)) (by simp only[nH]),Pj k.im.re (rL h1 (rL h2 h4)) (by simp only[nH]),Pj k.im.im (rL h1 (rL h2 h3)) (by simp only[cX,nH])]
theorem F3{x:Fr}(h:x.qa):bT x.val=x:=aBE (kY _) h (pF _)
theorem F4{x:Fr}(hd:x.d≠0):bT x.val=x.low:=aBE (kY _) (aBH hd) ((pF _).trans (aBG hd).symm)
theorem aK6{x y:K}(h:bT x=bT y):x=y:=by rw[<-pF x,<-pF y,h]
def vG(x y:Fr):Fr:=⟨x.a*y.d+y.a*x.d,x.b*y.d+y.b*x.d,x.c*y.d+y.c*x.d,x.e*y.d+y.e*x.d,x.d*y.d⟩
def fe(x y:Fr):Fr:=
 ⟨x.a*y.a+2*(x.b*y.b)+3*(x.c*y.c)+6*(x.e*y.e),x.a*y.b+x.b*y.a+3*(x.c*y.e)+3*(x.e*y.c),x.a*y.c+2*(x.b*y.e)+x.c*y.a+2*(x.e*y.b),x.a*y.e+x.b*y.c+x.c*y.b+x.e*y.a,x.d*y.d⟩
def Ab(x:Fr):Fr:=⟨-x.a,-x.b,-x.c,-x.e,x.d⟩
theorem aK7{x y:Fr}(hx:x.d≠0)(hy:y.d≠0):(vG x y).val=x.val+y.val:=by
 apply bK.ext
 ·exact bK.ext (UG _ _ hx hy).symm (UG _ _ hx hy).symm
 ·exact bK.ext (UG _ _ hx hy).symm (UG _ _ hx hy).symm
theorem aK8(x:Fr):(Ab x).val=-x.val:=by have h:∀ u:Int,Rat.divInt (-u) x.d=-Rat.divInt u x.d:=λu=>(Rat.neg_divInt u x.d).symm;exact bK.ext (bK.ext (h _) (h _)) (bK.ext (h _) (h _))
theorem F5{p:Int}{x y:Fr}(hx:x.d≠0)(hy:y.d≠0){r:Rat}(h:r*((x.d:Rat)*(y.d:Rat))=(p:Rat)):Rat.divInt p (x.d*y.d)=r:=by
 have sZ:(x.d:Rat)≠0:=by simpa using hx
 have Pk:(y.d:Rat)≠0:=by simpa using hy
 rw[Ck,DU,<-h,F6,Rat.mul_assoc,II _ (by
  intro e;rcases Rat.mul_eq_zero.1 e with e|e
  ·exact sZ e
  ·exact Pk e),Rat.mul_one]
theorem pG{u d:Int}(hd:d≠0):Rat.divInt u d*(d:Rat)=(u:Rat):=by
 have Pl:(d:Rat)≠0:=by simpa using hd
 rw[Ck,aBB Pl]
theorem IK{x y:Fr}(hx:x.d≠0)(hy:y.d≠0):(fe x y).val=x.val*y.val:=by
 have a1:=pG (u:=x.a) hx;have b1:=pG (u:=x.b) hx;have c1:=pG (u:=x.c) hx;have e1:=pG (u:=x.e) hx;have a2:=pG (u:=y.a) hy;have b2:=pG (u:=y.b) hy;have c2:=pG (u:=y.c) hy;have e2:=pG (u:=y.e) hy;apply bK.ext
 ·apply bK.ext
  ·refine F5 hx hy ?_;show((Rat.divInt x.a x.d*Rat.divInt y.a y.d+2*(Rat.divInt x.b x.d*Rat.divInt y.b y.d))+(3*(Rat.divInt x.c x.d*Rat.divInt y.c y.d+2*(Rat.divInt x.e x.d*Rat.divInt y.e y.d))+2*(0*(Rat.divInt x.c x.d*Rat.divInt y.e y.d+Rat.divInt x.e x.d*Rat.divInt y.c y.d))))*((x.d:Rat)*(y.d:Rat))=_;unfold fe;simp only[Pm,DU,<-a1,<-b1,<-c1,<-e1,<-a2,<-b2,<-c2,<-e2];have t2:((2:Int):Rat)=2:=rfl;have t3:((3:Int):Rat)=3:=rfl;have t6:((6:Int):Rat)=6:=rfl;rw[t2,t3,t6];grind
  ·refine F5 hx hy ?_;show((Rat.divInt x.a x.d*Rat.divInt y.b y.d+Rat.divInt x.b x.d*Rat.divInt y.a y.d)+(3*(Rat.divInt x.c x.d*Rat.divInt y.e y.d+Rat.divInt x.e x.d*Rat.divInt y.c y.d)+0*(Rat.divInt x.c x.d*Rat.divInt y.c y.d+2*(Rat.divInt x.e x.d*Rat.divInt y.e y.d))))*((x.d:Rat)*(y.d:Rat))=_;unfold fe;simp only[Pm,DU,<-a1,<-b1,<-c1,<-e1,<-a2,<-b2,<-c2,<-e2];have t3:((3:Int):Rat)=3:=rfl;rw[t3];grind
 ·apply bK.ext
  ·refine F5 hx hy ?_;show((Rat.divInt x.a x.d*Rat.divInt y.c y.d+2*(Rat.divInt x.b x.d*Rat.divInt y.e y.d))+(Rat.divInt x.c x.d*Rat.divInt y.a y.d+2*(Rat.divInt x.e x.d*Rat.divInt y.b y.d)))*((x.d:Rat)*(y.d:Rat))=_;unfold fe;simp only[Pm,DU,<-a1,<-b1,<-c1,<-e1,<-a2,<-b2,<-c2,<-e2];have t2:((2:Int):Rat)=2:=rfl;rw[t2];grind
  ·refine F5 hx hy ?_;show((Rat.divInt x.a x.d*Rat.divInt y.e y.d+Rat.divInt x.b x.d*Rat.divInt y.c y.d)+(Rat.divInt x.c x.d*Rat.divInt y.b y.d+Rat.divInt x.e x.d*Rat.divInt y.a y.d))*((x.d:Rat)*(y.d:Rat))=_;unfold fe;simp only[Pm,DU,<-a1,<-b1,<-c1,<-e1,<-a2,<-b2,<-c2,<-e2]
   grind
theorem UH(x y:K):bT (x+y)=(vG (bT x) (bT y)).low:=by have hx:=(kY x).pos;have hy:=(kY y).pos;have:=F4 (x:=vG (bT x) (bT y)) (DY o_ o_);rw[aK7 o_ o_,pF,pF]at this;exact this
theorem UI(x y:K):bT (x*y)=(fe (bT x) (bT y)).low:=by have hx:=(kY x).pos;have hy:=(kY y).pos;have:=F4 (x:=fe (bT x) (bT y)) (DY o_ o_);rw[IK o_ o_,pF,pF]at this;exact this
theorem aK9{x:Fr}(h:x.qa):(Ab x).qa:=⟨h.pos,by have:=h.one;unfold Fr.g at this ⊢;simpa[Ab]using this⟩
theorem UJ(x:K):bT (-x)=Ab (bT x):=by have:=F3 (aK9 (kY x));rw[aK8,pF]at this;exact this
def dU(n:Nat)(x:Fr):Prop:=x.a.natAbs<2^n/\x.b.natAbs<2^n/\x.c.natAbs<2^n/\x.e.natAbs<2^n/\x.d.natAbs<2^n
def Sz(n:Nat)(x:K):Prop:=dU n (bT x)
theorem dU.mono{m n:Nat}(h:m<=n){x:Fr}(hx:dU m x):dU n x:=by have:=df (show 0<2 by decide) h;obtain⟨h1,h2,h3,h4,h5⟩:=hx;exact⟨by omega,by omega,by omega,by omega,by omega⟩
theorem Sz.mono{m n:Nat}(h:m<=n){x:K}(hx:Sz m x):Sz n x:=dU.mono h hx
theorem dU.low{n:Nat}{x:Fr}(h:dU n x)(hd:x.d≠0):dU n x.low:=by obtain⟨h1,h2,h3,h4,h5⟩:=h;exact⟨fq (Lg hd) h1,fq (Lg hd) h2,fq (Lg hd) h3,fq (Lg hd) h4,fq (Lg hd) h5⟩
theorem eT{m n:Nat}{u v:Int}(hu:u.natAbs<2^m)(hv:v.natAbs<2^n):(u*v).natAbs<2^(m+n):=by
 rw[vF,eR];rcases oV v.natAbs with h|h
 ·rw[h,Nat.mul_zero];exact rL (cP d_) (cP d_)
 ·exact cG (B4 hu h) (jK _ (jl hv))
theorem dU.add{m n:Nat}{x y:Fr}(hx:dU m x)(hy:dU n y):dU (m+n+1) (vG x y):=by
 obtain⟨x1,x2,x3,x4,x5⟩:=hx;obtain⟨y1,y2,y3,y4,y5⟩:=hy;have e:2^(m+n+1)=2^(m+n)*2:=dG ..;have e':2^(n+m)=2^(m+n):=by rw[nG]
 have key:∀{u v:Int},u.natAbs<2^m->v.natAbs<2^n->(u*y.d+v*x.d).natAbs<2^(m+n+1):=λ{u v} hu hv=>by have h1:=eT hu y5;have h2:=eT hv x5;rw[e']at h2;have:=aBJ (u*y.d) (v*x.d);omega
 refine⟨key x1 y1,key x2 y2,key x3 y3,key x4 y4,?_⟩;have:=eT x5 y5;show(x.d*y.d).natAbs<_;omega
theorem dU.mul{m n:Nat}{x y:Fr}(hx:dU m x)(hy:dU n y):dU (m+n+4) (fe x y):=by
 obtain⟨x1,x2,x3,x4,x5⟩:=hx;obtain⟨y1,y2,y3,y4,y5⟩:=hy;have e:2^(m+n+4)=2^(m+n)*16:=by rw[eR]
 have t:∀{u v:Int} (k:Nat),u.natAbs<2^m->v.natAbs<2^n->((k:Int)*(u*v)).natAbs<=k*2^(m+n):=λ{u v} k hu hv=>by have h1:=eT hu hv;rw[vF,yb];exact jK _ (jl h1)
 have four:∀ p q r s:Int,(p+q+r+s).natAbs<=p.natAbs+q.natAbs+r.natAbs+s.natAbs:=λp q r s=>by omega
 have hp:0<2^(m+n):=cP d_;refine⟨?_,?_,?_,?_,?_⟩
 ·have:=four (x.a*y.a) (2*(x.b*y.b)) (3*(x.c*y.c)) (6*(x.e*y.e));have h1:=eT x1 y1;have h2:=t 2 x2 y2;have h3:=t 3 x3 y3;have h4:=t 6 x4 y4;show(x.a*y.a+2*(x.b*y.b)+3*(x.c*y.c)+6*(x.e*y.e)).natAbs<_;omega
 ·have:=four (x.a*y.b) (x.b*y.a) (3*(x.c*y.e)) (3*(x.e*y.c));have h1:=eT x1 y2;have h2:=eT x2 y1;have h3:=t 3 x3 y4;have h4:=t 3 x4 y3;show(x.a*y.b+x.b*y.a+3*(x.c*y.e)+3*(x.e*y.c)).natAbs<_;omega
 ·have:=four (x.a*y.c) (2*(x.b*y.e)) (x.c*y.a) (2*(x.e*y.b));have h1:=eT x1 y3;have h2:=t 2 x2 y4;have h3:=eT x3 y1;have h4:=t 2 x4 y2;show(x.a*y.c+2*(x.b*y.e)+x.c*y.a+2*(x.e*y.b)).natAbs<_;omega
 ·have:=four (x.a*y.e) (x.b*y.c) (x.c*y.b) (x.e*y.a);have h1:=eT x1 y4;have h2:=eT x2 y3;have h3:=eT x3 y2;have h4:=eT x4 y1;show(x.a*y.e+x.b*y.c+x.c*y.b+x.e*y.a).natAbs<_;omega
 ·have:=eT x5 y5;show(x.d*y.d).natAbs<_;omega
theorem Sz.add{m n:Nat}{x y:K}(hx:Sz m x)(hy:Sz n y):Sz (m+n+1) (x+y):=by unfold Sz;rw[UH];exact(dU.add hx hy).low (DY (by have:=(kY x).pos;omega) (by have:=(kY y).pos;omega))
theorem Sz.mul{m n:Nat}{x y:K}(hx:Sz m x)(hy:Sz n y):Sz (m+n+4) (x*y):=by unfold Sz;rw[UI];exact(dU.mul hx hy).low (DY (by have:=(kY x).pos;omega) (by have:=(kY y).pos;omega))
theorem Sz.neg{n:Nat}{x:K}(hx:Sz n x):Sz n (-x):=by unfold Sz at *;rw[UJ];obtain⟨h1,h2,h3,h4,h5⟩:=hx;exact⟨by simpa[Ab]using h1,by simpa[Ab]using h2,by simpa[Ab]using h3,by simpa[Ab]using h4,h5⟩
theorem Sz.sub{m n:Nat}{x y:K}(hx:Sz m x)(hy:Sz n y):Sz (m+n+1) (x-y):=by rw[CR.sub_def];exact hx.add hy.neg
def ur(a b s:Int):Int:=if a=b\/b=0 then a else if a=0 then b else a*s
namespace bK
variable{F:Type}[OF F]{s:F}[hs:x9 F s]
theorem aBK(x:bK F s):sg x=ur (aG x.re) (aG x.im) (aG (nm x)):=by
 unfold ur;rcases ways x with h|⟨h,h2⟩|⟨h,h2⟩
 ·subst h;have e:aG (0:F)=0:=(fF (0:F)).2 rfl;rw[IF,ID,IE,e,aB (.inl rfl)]
 ·rw[tg h,h,Int.mul_one];by_cases h3:aG x.re=aG x.im\/aG x.im=0
  ·rw[aB h3]
  ·rw[av h3];by_cases h4:aG x.re=0
   ·exfalso;rw[(fF _).1 h4,CR.zero_mul]at h2;have h5:aG (s*(x.im*x.im))=1:=by
     have h6:aG x.im≠0:=λe=>h3 (.inr e);rw[mW,mW,aKU];rcases iY x.im with e|e|e
     ·rw[e];rfl
     ·exact absurd e h6
     ·rw[e];rfl
    have h7:(0:F)<s*(x.im*x.im):=gk.2 h5;exact OF.lt_irrefl _ (OF.lt_trans h7 h2)
   ·rw[av h4]
 ·rw[uo h,h];by_cases h3:aG x.re=aG x.im\/aG x.im=0
  ·rw[aB h3];rcases h3 with h3|h3
   ·exact h3.symm
   ·exfalso;rw[(fF _).1 h3,CR.zero_mul,CR.mul_zero]at h2;have h5:aG (x.re*x.re)≠-1:=by rw[mW];rcases iY x.re with e|e|e<;>rw[e]<;>decide
    exact h5 (Iz.1 h2)
  ·rw[av h3];by_cases h4:aG x.re=0
   ·rw[aB h4]
   ·rw[av h4];have h5:aG x.im≠0:=λe=>h3 (.inr e);have h6:aG x.re≠aG x.im:=λe=>h3 (.inl e);rcases iY x.re with e|e|e<;>rcases iY x.im with k|k|k<;>first|exact absurd e h4|exact absurd k h5|exact absurd (e.trans k.symm) h6|(rw[e,k];rfl)
end bK
theorem aBL(u:Int):aG (u:Rat)=u.sign:=by show(u:Rat).num.sign=u.sign;rw[Rat.num_intCast]
theorem UK{u d:Int}(hd:0<d):aG (Rat.divInt u d)=u.sign:=by have h1:=pG (u:=u) (d:=d) o_;have h2:=cO aG h1;rw[mW,aBL,aBL,Cf hd,Int.mul_one]at h2;exact h2
def qc(a b:Int):Int:=ur a.sign b.sign (a*a-2*(b*b)).sign
theorem UL{a b d:Int}(hd:0<d):aG (⟨Rat.divInt a d,Rat.divInt b d⟩:K2)=qc a b:=by
 have h:=bK.aBK (⟨Rat.divInt a d,Rat.divInt b d⟩:K2);have a1:=pG (u:=a) (d:=d) o_;have b1:=pG (u:=b) (d:=d) o_;have hn:bK.nm (⟨Rat.divInt a d,Rat.divInt b d⟩:K2)=Rat.divInt (a*a-2*(b*b)) (d*d):=by refine(F5 (x:=⟨0,0,0,0,d⟩) (y:=⟨0,0,0,0,d⟩) (by show d≠0;omega) (by show d≠0;omega) ?_).symm;show(Rat.divInt a d*Rat.divInt a d-2*(Rat.divInt b d*Rat.divInt b d))*((d:Rat)*(d:Rat))=_;simp only[aBM,DU,<-a1,<-b1];have t2:((2:Int):Rat)=2:=rfl;rw[t2];grind
 rw[hn]at h;show bK.sg _=_;rw[h];show ur (aG (Rat.divInt a d)) (aG (Rat.divInt b d)) _=_;rw[UK hd,UK hd,UK (UM hd hd)];rfl
def Pn(a b c e:Int):Int:=ur (qc a b) (qc c e) (qc ((a*a+2*(b*b))-(3*(c*c)+6*(e*e))) (2*(a*b)-6*(c*e)))
theorem aLa{x:Fr}(hd:0<x.d):aG x.val=Pn x.a x.b x.c x.e:=by
 have h:=bK.aBK x.val;have a1:=pG (u:=x.a) (d:=x.d) o_;have b1:=pG (u:=x.b) (d:=x.d) o_;have c1:=pG (u:=x.c) (d:=x.d) o_;have e1:=pG (u:=x.e) (d:=x.d) o_;have hn:bK.nm x.val=(⟨Rat.divInt ((x.a*x.a+2*(x.b*x.b))-(3*(x.c*x.c)+6*(x.e*x.e))) (x.d*x.d),Rat.divInt (2*(x.a*x.b)-6*(x.c*x.e)) (x.d*x.d)⟩:K2):=by
  apply bK.ext
  ·refine(F5 (x:=x) (y:=x) o_ o_ ?_).symm;show((Rat.divInt x.a x.d*Rat.divInt x.a x.d+2*(Rat.divInt x.b x.d*Rat.divInt x.b x.d))-(3*(Rat.divInt x.c x.d*Rat.divInt x.c x.d+2*(Rat.divInt x.e x.d*Rat.divInt x.e x.d))+2*(0*(Rat.divInt x.c x.d*Rat.divInt x.e x.d+Rat.divInt x.e x.d*Rat.divInt x.c x.d))))*((x.d:Rat)*(x.d:Rat))=_;simp only[aBM,Pm,DU,<-a1,<-b1,<-c1,<-e1];have t2:((2:Int):Rat)=2:=rfl;have t3:((3:Int):Rat)=3:=rfl;have t6:((6:Int):Rat)=6:=rfl;rw[t2,t3,t6];grind
  ·refine(F5 (x:=x) (y:=x) o_ o_ ?_).symm;show((Rat.divInt x.a x.d*Rat.divInt x.b x.d+Rat.divInt x.b x.d*Rat.divInt x.a x.d)-(3*(Rat.divInt x.c x.d*Rat.divInt x.e x.d+Rat.divInt x.e x.d*Rat.divInt x.c x.d)+0*(Rat.divInt x.c x.d*Rat.divInt x.c x.d+2*(Rat.divInt x.e x.d*Rat.divInt x.e x.d))))*((x.d:Rat)*(x.d:Rat))=_;simp only[aBM,DU,<-a1,<-b1,<-c1,<-e1];have t2:((2:Int):Rat)=2:=rfl;have t6:((6:Int):Rat)=6:=rfl;rw[t2,t6];grind
 rw[hn]at h;show bK.sg _=_;rw[h];have Lh:=UM hd hd;show ur (aG (⟨Rat.divInt x.a x.d,Rat.divInt x.b x.d⟩:K2)) (aG (⟨Rat.divInt x.c x.d,Rat.divInt x.e x.d⟩:K2)) _=_;rw[UL hd,UL hd,UL Lh];rfl
theorem aBN(k:K):aG k=Pn (bT k).a (bT k).b (bT k).c (bT k).e:=by have:=aLa (kY k).pos;rw[pF]at this;exact this
end
structure RI where
 neg:Bool
 bw:List UInt8
structure RN where
 a:RI
 b:RI
 c:RI
 e:RI
 d:RI
structure RV where
 x:RN
 y:RN
 z:RN
variable{c:g_}
structure RP where
 n:RV
 d:RN
variable{z:Int}
def RI.cs(r:RI):ak:=[.bool r.neg,.string (BA r.bw)]
def RN.cs(r:RN):ak:=[.bool r.a.neg,.string (BA r.a.bw),.bool r.b.neg,.string (BA r.b.bw),.bool r.c.neg,.string (BA r.c.bw),.bool r.e.neg,.string (BA r.e.bw),.bool r.d.neg,.string (BA r.d.bw)]
def RV.cs(r:RV):ak:=r.x.cs++(r.y.cs++r.z.cs)
def RP.cs(r:RP):ak:=r.n.cs++r.d.cs
def RI.v(r:RI):Value:=.agg r.cs.toArray
def RN.v(r:RN):Value:=.agg r.cs.toArray
def RV.v(r:RV):Value:=.agg r.cs.toArray
def RP.v(r:RP):Value:=.agg r.cs.toArray
def RI.Sm(r:RI):Prop:=r.bw.length<=maxLen
def RN.Sm(r:RN):Prop:=r.a.Sm/\r.b.Sm/\r.c.Sm/\r.e.Sm/\r.d.Sm
def RV.Sm(r:RV):Prop:=r.x.Sm/\r.y.Sm/\r.z.Sm
def RP.Sm(r:RP):Prop:=r.n.Sm/\r.d.Sm
def RI.ls(r:RI):List Lit:=[.bool r.neg,.string r.bw]
def RN.ls(r:RN):List Lit:=r.a.ls++(r.b.ls++(r.c.ls++(r.e.ls++r.d.ls)))
def RV.ls(r:RV):List Lit:=r.x.ls++(r.y.ls++r.z.ls)
def RP.ls(r:RP):List Lit:=r.n.ls++r.d.ls
theorem RI.wP{r s:RI}:r.ls=s.ls↔r=s:=by cases r;cases s;simp[RI.ls]
theorem RN.wP{r s:RN}:r.ls=s.ls↔r=s:=by obtain⟨⟨_,_⟩,⟨_,_⟩,⟨_,_⟩,⟨_,_⟩,⟨_,_⟩⟩:=r;obtain⟨⟨_,_⟩,⟨_,_⟩,⟨_,_⟩,⟨_,_⟩,⟨_,_⟩⟩:=s;simp[RN.ls,RI.ls,and_assoc]
theorem RN.IL(r:RN):r.ls.length=10:=rfl
theorem RV.wP{r s:RV}:r.ls=s.ls↔r=s:=by
 obtain⟨x,y,z⟩:=r;obtain⟨x',y',z'⟩:=s;unfold RV.ls;constructor
 ·intro h;obtain⟨h1,h2⟩:=List.append_inj h (by rw[RN.IL,RN.IL]);obtain⟨h2,h3⟩:=List.append_inj h2 (by rw[RN.IL,RN.IL]);have a1:x=x':=RN.wP.1 h1;have a2:y=y':=RN.wP.1 h2;have a3:z=z':=RN.wP.1 h3;rw[a1,a2,a3]
 ·intro h;rw[h]
theorem RP.wP{r s:RP}:r.ls=s.ls↔r=s:=by
 obtain⟨x,y⟩:=r;obtain⟨x',y'⟩:=s;unfold RP.ls;constructor
 ·intro h;obtain⟨h1,h2⟩:=List.append_inj' h (by rw[RN.IL,RN.IL]);have a1:x=x':=RV.wP.1 h1;have a2:y=y':=RN.wP.1 h2;rw[a1,a2]
 ·intro h;rw[h]
theorem RN.oB(r:RN):∀ u∈r.cs,flat u=true:=λu hu=>by simp[RN.cs]at hu;rcases hu with h|h|h|h|h|h|h|h|h|h<;>subst h<;>rfl
theorem RV.oB(r:RV):∀ u∈r.cs,flat u=true:=λu hu=>by
 simp only[RV.cs,eW]at hu;rcases hu with h|h|h
 ·exact r.x.oB u h
 ·exact r.y.oB u h
 ·exact r.z.oB u h
def Po(P:j_)(t:TypeId):Array Field:=match P.underlying t with|some (.struct fs)=>fs|_=>#[]
theorem F7(r:RI)(h:r.Sm)(d:Nat):prog.keyLits (d+2) 31 r.cs=some r.ls:=by
 obtain ⟨fs, h1, h2, h3⟩ : ∃ fs, prog.underlying 31 = some (.struct fs) ∧ fs.toList.map (fun g => (g.type, g.offset)) = [(4, 0), (9, 1)] ∧ fs.all (fun g => g.name != "_") = true := ⟨Po prog 31, (by kernel_rfl), (by kernel_rfl), (by kernel_rfl)⟩;rw[O3 h1 h2 h3 k_];have e1:prog.keyLits (d+1) 4 ((r.cs.drop 0).take (prog.cellsOf 4))=some [.bool r.neg]:=by
  have e:(r.cs.drop 0).take (prog.cellsOf 4)=[.bool r.neg]:=k_;rw[e];exact aKI k_ _ d
 have e2:prog.keyLits (d+1) 9 ((r.cs.drop 1).take (prog.cellsOf 9))=some [.string r.bw]:=by have e:(r.cs.drop 1).take (prog.cellsOf 9)=[.string (BA r.bw)]:=k_;rw[e];exact aKJ k_ _ (by rw[pw];exact h) d
 simp only[Kr,UN,e1,e2];simp[RI.ls]
theorem aLb(r:RN)(h:r.Sm)(d:Nat):prog.keyLits (d+3) 32 (r.a.cs++(r.b.cs++(r.c.cs++r.e.cs)))=some (r.a.ls++(r.b.ls++(r.c.ls++r.e.ls))):=by rw[aKH (n:=4) (e:=31) k_ k_];obtain⟨h0,h1,h2,h3,_⟩:=h;have c:prog.cellsOf 31=2:=k_;have e0:=F7 r.a h0 d;have e1:=F7 r.b h1 d;have e2:=F7 r.c h2 d;have e3:=F7 r.e h3 d;rw[c];simp[Li,RI.cs]at e0 e1 e2 e3 ⊢;simp[e0,e1,e2,e3]
theorem Pp(r:RN)(h:r.Sm)(d:Nat):prog.keyLits (d+4) 34 r.cs=some r.ls:=by
 obtain ⟨fs, h1, h2, h3⟩ : ∃ fs, prog.underlying 34 = some (.struct fs) ∧ fs.toList.map (fun g => (g.type, g.offset)) = [(32, 0), (31, 8)] ∧ fs.all (fun g => g.name != "_") = true := ⟨Po prog 34, (by kernel_rfl), (by kernel_rfl), (by kernel_rfl)⟩;rw[O3 h1 h2 h3 k_];have e1:prog.keyLits (d+3) 32 ((r.cs.drop 0).take (prog.cellsOf 32))=some (r.a.ls++(r.b.ls++(r.c.ls++r.e.ls))):=by
  have e:(r.cs.drop 0).take (prog.cellsOf 32)=r.a.cs++(r.b.cs++(r.c.cs++r.e.cs)):=k_;rw[e];exact aLb r h d
 have e2:prog.keyLits (d+3) 31 ((r.cs.drop 8).take (prog.cellsOf 31))=some r.d.ls:=by have e:(r.cs.drop 8).take (prog.cellsOf 31)=r.d.cs:=k_;rw[e];exact F7 r.d h.2.2.2.2 (d+1)
 simp only[Kr,UN,e1,e2];simp[RN.ls]
theorem UO(r:RV)(h:r.Sm)(d:Nat):prog.keyLits (d+5) 44 r.cs=some r.ls:=by
 obtain ⟨fs, h1, h2, h3⟩ : ∃ fs, prog.underlying 44 = some (.struct fs) ∧ fs.toList.map (fun g => (g.type, g.offset)) = [(34, 0), (34, 10), (34, 20)] ∧ fs.all (fun g => g.name != "_") = true := ⟨Po prog 44, (by kernel_rfl), (by kernel_rfl), (by kernel_rfl)⟩;rw[O3 h1 h2 h3 k_];have e:∀(k:Nat) (s:RN),(r.cs.drop k).take (prog.cellsOf 34)=s.cs->s.Sm->prog.keyLits (d+4) 34 ((r.cs.drop k).take (prog.cellsOf 34))=some s.ls:=λk s e hs=>by rw[e];exact Pp s hs d
 simp only[Kr,UN,e 0 r.x k_ h.1,e 10 r.y k_ h.2.1,e 20 r.z k_ h.2.2];simp[RV.ls]
theorem aBO(r:RP)(h:r.Sm)(d:Nat):prog.keyLits (d+6) 54 r.cs=some r.ls:=by
 obtain ⟨fs, h1, h2, h3⟩ : ∃ fs, prog.underlying 54 = some (.struct fs) ∧ fs.toList.map (fun g => (g.type, g.offset)) = [(44, 0), (34, 30)] ∧ fs.all (fun g => g.name != "_") = true := ⟨Po prog 54, (by kernel_rfl), (by kernel_rfl), (by kernel_rfl)⟩;rw[O3 h1 h2 h3 k_];have e1:prog.keyLits (d+5) 44 ((r.cs.drop 0).take (prog.cellsOf 44))=some r.n.ls:=by
  have e:(r.cs.drop 0).take (prog.cellsOf 44)=r.n.cs:=k_;rw[e];exact UO r.n h.1 d
 have e2:prog.keyLits (d+5) 34 ((r.cs.drop 30).take (prog.cellsOf 34))=some r.d.ls:=by have e:(r.cs.drop 30).take (prog.cellsOf 34)=r.d.cs:=k_;rw[e];exact Pp r.d h.2 (d+1)
 simp only[Kr,UN,e1,e2];simp[RP.ls]
section
variable{Bs:aa}{N:Nat}
theorem Cm{o:Oper}{neg:Bool}(ho:FY o=some (neg,31))(r s:RI)(hr:r.Sm)(hs:s.Sm){b:Bool}(hb:(if neg then b else !b)=true↔r=s):cI prog Bs o [r.v,s.v] [] (.bool b) []:=
 O2 (m:=2) ho o_ k_ k_ k_ k_ (F7 r hr 0) (F7 s hs 0) rfl rfl (by rw[hb];exact RI.wP.symm)
theorem Lj{o:Oper}{neg:Bool}(ho:FY o=some (neg,34))(r s:RN)(hr:r.Sm)(hs:s.Sm){b:Bool}(hb:(if neg then b else !b)=true↔r=s):cI prog Bs o [r.v,s.v] [] (.bool b) []:=
 O2 (m:=4) ho o_ k_ k_ k_ k_ (Pp r hr 0) (Pp s hs 0) rfl rfl (by rw[hb];exact RN.wP.symm)
theorem F8{o:Oper}{neg:Bool}(ho:FY o=some (neg,44))(r s:RV)(hr:r.Sm)(hs:s.Sm){b:Bool}(hb:(if neg then b else !b)=true↔r=s):cI prog Bs o [r.v,s.v] [] (.bool b) []:=
 O2 (m:=5) ho o_ k_ k_ k_ k_ (UO r hr 0) (UO s hs 0) rfl rfl (by rw[hb];exact RV.wP.symm)
theorem UP{o:Oper}{neg:Bool}(ho:FY o=some (neg,54))(r s:RP)(hr:r.Sm)(hs:s.Sm){b:Bool}(hb:(if neg then b else !b)=true↔r=s):cI prog Bs o [r.v,s.v] [] (.bool b) []:=
 O2 (m:=6) ho o_ k_ k_ k_ k_ (aBO r hr 0) (aBO s hs 0) rfl rfl (by rw[hb];exact RP.wP.symm)
end
def bN(z:Int):RI:=⟨decide (z<0),ct z.natAbs⟩
theorem aBP(z:Int):bf z=(bN z).v:=rfl
theorem yd{x y:Int}(h:bN x=bN y):x=y:=by have h1:decide (x<0)=decide (y<0):=cO RI.neg h;have h2:x.natAbs=y.natAbs:=aJI (cO RI.bw h);rw[sQ]at h1;omega
def th(f:Fr):RN:=⟨bN f.a,bN f.b,bN f.c,bN f.e,bN f.d⟩
def iE(f:Fr):Value:=(th f).v
theorem aLc{f g:Fr}(h:th f=th g):f=g:=Fr.ext' (yd (cO RN.a h)) (yd (cO RN.b h)) (yd (cO RN.c h)) (yd (cO RN.e h)) (yd (cO RN.d h))
def de(x:K):RN:=th (bT x)
def bI(x:K):Value:=(de x).v
theorem Lk{x y:K}(h:de x=de y):x=y:=aK6 (aLc h)
abbrev aD:Nat:=1099511627774
theorem uu{n:Nat}(h:z.natAbs<2^n)(hn:n<=aD):(bN z).Sm:=by show(ct z.natAbs).length<=maxLen;rw[uk];have:=wL h;unfold aD at hn;simp[maxLen];omega
theorem aLd{f:Fr}{n:Nat}(h:dU n f)(hn:n<=aD):(th f).Sm:=⟨uu h.1 hn,uu h.2.1 hn,uu h.2.2.1 hn,uu h.2.2.2.1 hn,uu h.2.2.2.2 hn⟩
theorem ux{x:K}{n:Nat}(h:Sz n x)(hn:n<=aD):(de x).Sm:=aLd h hn
def ic(c:Nat->Int):ak:=[.bool (bN (c 0)).neg,.string (BA (bN (c 0)).bw),.bool (bN (c 1)).neg,.string (BA (bN (c 1)).bw),.bool (bN (c 2)).neg,.string (BA (bN (c 2)).bw),.bool (bN (c 3)).neg,.string (BA (bN (c 3)).bw)]
def qd(c:Nat->Int):Value:=.agg (ic c).toArray
def co(f:Fr):Nat->Int
 |0=>f.a
 |1=>f.b
 |2=>f.c
 |_=>f.e
def pH(c:Nat->Int)(d:Int):Fr:=⟨c 0,c 1,c 2,c 3,d⟩
theorem DZ{g:Nat}{x:Int}{p:Nat}(h1:g<2^p)(h2:x.natAbs<2^q)(hp:p<=1099511627776)(hq:q<=1099511627776):aF prog 159 [bf g,bf x] (bf (Nat.gcd g x.natAbs:Nat)):=by have:=FX (x:=(g:Int)) (y:=x) (by rw[yb];exact h1) h2 hp hq;rw[yb]at this;exact this
theorem aLe{g m p:Nat}(h:g<2^p):Nat.gcd g m<2^p\/g=0:=by
 by_cases hg:g=0
 ·exact .inr hg
 ·exact .inl (fq (aBQ m (ue hg)) h)
theorem Ac{g m p:Nat}(h:g<2^p)(h2:m<2^p):Nat.gcd g m<2^p:=by
 rcases aLe (m:=m) h with h3|h3
 ·exact h3
 ·rw[h3,UQ];exact h2
theorem aBR{c:Nat->Int}{d:Int}{n:Nat}(h:dU n (pH c d))(hn:n<=aD):aF prog 120 [qd c,bf d] (bf ((pH c d).g:Nat)):=by
 obtain⟨h0,h1,h2,h3,h4⟩:=h;have mP:n<=1099511627776:=by unfold aD at hn;omega
 have g1:=FX h4 h0 mP mP;have s1:=Ac h4 h0;have g2:=DZ s1 h1 mP mP;have s2:=Ac s1 h1;have g3:=DZ s2 h2 mP mP;have s3:=Ac s2 h2;have g4:=DZ s3 h3 mP mP;exact aN func120 (λ_=>[g1.at 15,g2.at 15,g3.at 15,g4.at 15])
theorem F9{x y:Int}{n:Nat}(hy:y≠0)(h1:x.natAbs<2^n)(h2:y.natAbs<2^n)(hn:n<=aD):aF prog 157 [bf x,bf y] (bf (x.fdiv y)):=
 aN func157 (λ_=>[(Ui hy h1 h2 hn hn).at 11])
theorem D0{c:Nat->Int}{d:Int}{n:Nat}(hd:d≠0)(h:dU n (pH c d))(hn:n<=aD):aF prog 116 [qd c,bf d] (iE (pH c d).low):=by
 have hc:=aBR h hn;have mP:n<=1099511627776:=by unfold aD at hn;omega
 obtain⟨f,hf⟩:∃ f,f=pH c d:=⟨_,rfl⟩;have wx:f.d≠0:=by rw[hf];exact hd
 have qN:=UF wx;have UR:=Pg f;have hg:f.g<2^n:=by
  have h5:f.d.natAbs<2^n:=by rw[hf];exact h.2.2.2.2
  exact fq (Nat.le_of_dvd o_ (F2 f)) h5
 have bH:f.s.natAbs<2^n:=by rw[UR];exact hg
 have ov:∀ u:Int,f.g ∣ u.natAbs->u.natAbs<2^n->aF prog 157 [bf u,bf f.s] (bf (u/f.s)):=λu hu vH=>by have:=F9 qN vH bH hn;rw[Int.fdiv_eq_ediv_of_dvd (DX hu)]at this;exact this
 have o0:=ov f.a (Pc f) (by rw[hf];exact h.1);have o1:=ov f.b (Pd f) (by rw[hf];exact h.2.1);have o2:=ov f.c (Pe f) (by rw[hf];exact h.2.2.1);have o3:=ov f.e (Pf f) (by rw[hf];exact h.2.2.2.1);have o4:=ov f.d (F2 f) (by rw[hf];exact h.2.2.2.2);have Cn:=kG (z:=1) d_;have aG:=pX d;rw[<-hf]at hc ⊢;have e0:f.a=c 0:=by rw[hf];rfl
 have e1:f.b=c 1:=by rw[hf];rfl
 have e2:f.c=c 2:=by rw[hf];rfl
 have e3:f.e=c 3:=by rw[hf];rfl
 have e4:f.d=d:=by rw[hf];rfl
 have one:(bN 1).Sm:=uu (n:=1) d_ d_;have sm:(bN f.s).Sm:=uu bH hn;by_cases Ga:d<0
 ·have hs:f.s=-(f.g:Int):=by unfold Fr.s;rw[e4,aB Ga]
  have aQ:bN f.s≠bN 1:=λe=>by have:=yd e;omega
  have ng:=oY (f.g:Int);rw[<-hs]at ng;rw[e0]at o0;rw[e1]at o1;rw[e2]at o2;rw[e3]at o3;rw[e4]at o4;have dJ:f.low=⟨c 0/f.s,c 1/f.s,c 2/f.s,c 3/f.s,d/f.s⟩:=by unfold Fr.low;rw[e0,e1,e2,e3,e4]
  rw[dJ];have Co:decide (d.sign<0)=true:=aH (by rw[FT Ga];decide);generalize f.s=s at *;exact aN func116 (λ_=>[hc.at 9,aG.at 11,.rw 12 (.bool (decide (d.sign<0))) b_ (by rw[Co]),ng.at 14,Cn.at 16,.step 17 (aw f116 17) _ _ _ _ (Cm (neg:=true) k_ (bN s) (bN 1) sm one (b:=false) (by simp;exact aQ)),o0.at 29,o1.at 29,o2.at 29,o3.at 29,o4.at 35])
 ·have hs:f.s=(f.g:Int):=by unfold Fr.s;rw[e4,av Ga]
  have Co:decide (d.sign<0)=false:=aP (by rw[Cf o_];decide);by_cases uy:f.g=1
  ·have dJ:f.low=f:=by unfold Fr.low;rw[hs,uy];simp
   rw[dJ,hf];rw[uy]at hc;exact aN func116 (λ_=>[hc.at 9,aG.at 11,.rw 12 (.bool (decide (d.sign<0))) a_ (by rw[Co]),Cn.at 16,.step 17 (aw f116 17) _ _ _ _ (Cm (neg:=true) k_ (bN 1) (bN 1) one one (b:=true) s_)])
  ·have aQ:bN f.s≠bN 1:=λe=>by have:=yd e;omega
   rw[e0]at o0;rw[e1]at o1;rw[e2]at o2;rw[e3]at o3;rw[e4]at o4;have dJ:f.low=⟨c 0/f.s,c 1/f.s,c 2/f.s,c 3/f.s,d/f.s⟩:=by unfold Fr.low;rw[e0,e1,e2,e3,e4]
   rw[dJ];rw[<-hs]at hc;generalize f.s=s at *;exact aN func116 (λ_=>[hc.at 9,aG.at 11,.rw 12 (.bool (decide (d.sign<0))) a_ (by rw[Co]),Cn.at 16,.step 17 (aw f116 17) _ _ _ _ (Cm (neg:=true) k_ (bN s) (bN 1) sm one (b:=false) (by simp;exact aQ)),o0.at 29,o1.at 29,o2.at 29,o3.at 29,o4.at 35])
theorem Ll{f:Fr}{n:Nat}(hf:f.qa)(h:dU n f)(hn:n<=aD):aF prog 67 [iE f] b_:=by have hc:=aBR (c:=co f) (d:=f.d) h hn;have e:pH (co f) f.d=f:=rfl;rw[e,hf.one]at hc;have hp:=hf.pos;have hs:decide (f.d.sign>0)=true:=aH (by rw[Cf hp];decide);have one:(bN 1).Sm:=uu (n:=1) d_ d_;exact aN func67 (λ_=>[(pE f.a).at 11,(pE f.b).at 11,(pE f.c).at 11,(pE f.e).at 11,(pE f.d).at 16,(pX f.d).at 20,.rw 21 (.bool (decide (f.d.sign>0))) b_ (by rw[hs]),hc.at 28,(kG (z:=1) d_).at 29,.step 30 (aw f67 30) _ _ _ _ (Cm (neg:=true) k_ (bN 1) (bN 1) one one (b:=true) s_)])
theorem kZ{x:K}{n:Nat}(h:Sz n x)(hn:n<=aD):aF prog 67 [bI x] b_:=Ll (kY x) h hn
theorem US(z:Int):bT (⟨⟨z,0⟩,⟨0,0⟩⟩:K)=⟨z,0,0,0,1⟩:=by
 have hl:Fr.qa ⟨z,0,0,0,1⟩:=⟨Int.zero_lt_one,by simp[Fr.g]⟩;have hv:Fr.val ⟨z,0,0,0,1⟩=⟨⟨z,0⟩,⟨0,0⟩⟩:=by
  unfold Fr.val;dsimp only;have e:∀ u:Int,Rat.divInt u 1=(u:Rat):=λu=>by rw[Ck,F6];grind
  rw[e,e];rfl
 rw[<-hv];exact F3 hl
def kI(z:Int):K:=⟨⟨z,0⟩,⟨0,0⟩⟩
theorem aBS(z:Int):bI (kI z)=iE ⟨z,0,0,0,1⟩:=by unfold bI de kI;rw[US];rfl
theorem qe{n:Nat}(h:z.natAbs<2^n)(hn:0<n):Sz n (kI z):=by unfold Sz kI;rw[US];have:2^1<=2^n:=df d_ hn;exact⟨h,by simp;omega,by simp;omega,by simp;omega,by simp;omega⟩
theorem D1:bN 0=⟨false,[]⟩:=by unfold bN;simp[DF]
theorem rO(h:z.natAbs<9223372036854775808):aF prog 94 [.int .i64 z] (bI (kI z)):=by
 rw[aBS];have e:iE ⟨z,0,0,0,1⟩=(RN.mk (bN z) ⟨false,[]⟩ ⟨false,[]⟩ ⟨false,[]⟩ (bN 1)).v:=by unfold iE th;rw[D1]
 rw[e];exact aN func94 (λ_=>[(kG h).at 4,(kG (z:=1) d_).at 6])
theorem aLf{c:Nat->Int}{d:Int}{n:Nat}(hd:d≠0)(h:dU n (pH c d))(hn:n<=aD):aF prog 142 [qd c,bf d] (.tuple #[iE (pH c d).low,.int .i64 0]):=by
 have hl:=D0 hd h hn;have hs:(d.sign==0)=false:=by simp;exact hd
 exact aN func142 (λ_=>[(pE (c 0)).at 13,(pE (c 1)).at 13,(pE (c 2)).at 13,(pE (c 3)).at 13,(pE d).at 19,(pX d).at 24,.rw 25 (.bool (d.sign==0)) a_ (by rw[hs]),hl.at 29])
theorem aBT{p q:Int}{n:Nat}(hq:q≠0)(h1:p.natAbs<2^n)(h2:q.natAbs<2^n)(hn:n<=63):aF prog 88 [.int .i64 p,.int .i64 q] (.tuple #[iE (Fr.mk p 0 0 0 q).low,.int .i64 0]):=by
 have h63:2^n<=9223372036854775808:=dq (df d_ hn) d_;have hp:0<2^n:=cP d_;have hm:=aLf (c:=λi=>match i with|0=>p|_=>0) (d:=q) (n:=n) hq ⟨h1,hp,hp,hp,h2⟩ (by unfold aD;omega);have e:qd (λi=>match i with|0=>p|_=>0)=.agg #[.bool (bN p).neg,.string (BA (bN p).bw),.bool false,.string ⟨#[]⟩,.bool false,.string ⟨#[]⟩,.bool false,.string ⟨#[]⟩]:=by show Value.agg #[.bool (bN p).neg,.string (BA (bN p).bw),.bool (bN 0).neg,.string (BA (bN 0).bw),.bool (bN 0).neg,.string (BA (bN 0).bw),.bool (bN 0).neg,.string (BA (bN 0).bw)]=_;rw[D1];rfl
 rw[e]at hm;exact aN func88 (λ_=>[(kG (z:=p) o_).at 7,(kG (z:=q) o_).at 10,hm.at 11])
theorem Ad{x:K}{n:Nat}(h:Sz n x)(hn:n<=aD):aF prog 169 [bI x] (bI (-x)):=by
 have hv:=kZ h hn;have e:bI (-x)=iE (Ab (bT x)):=by unfold bI de;rw[UJ];rfl
 rw[e];exact aN func169 (λ_=>[hv.at 5,(oY (bT x).a).at 16,(oY (bT x).b).at 16,(oY (bT x).c).at 16,(oY (bT x).e).at 16])
theorem ti{x y:K}{m n:Nat}(hx:Sz m x)(hy:Sz n y)(cN:m+n<aD):aF prog 96 [bI x,bI y] (bI (x+y)):=by
 have v1:=kZ hx o_;have v2:=kZ hy o_;have qf:aD<=1099511627776:=by decide
 have yc:=(kY x).pos;have wO:=(kY y).pos;have hl:=D0 (c:=co (vG (bT x) (bT y))) (d:=(vG (bT x) (bT y)).d) (n:=m+n+1) (DY o_ o_) (dU.add hx hy) o_;have e:bI (x+y)=iE (vG (bT x) (bT y)).low:=by unfold bI de;rw[UH];rfl
 rw[e];obtain⟨x1,x2,x3,x4,x5⟩:=hx;obtain⟨y1,y2,y3,y4,y5⟩:=hy;have mu:∀{u v:Int} {p q:Nat},u.natAbs<2^p->v.natAbs<2^q->p+q<=aD->aF prog 141 [bf u,bf v] (bf (u*v)):=λh1 h2 h3=>nL h1 h2 o_ o_;have ad:∀{u v:Int},u.natAbs<2^m->v.natAbs<2^n->aF prog 140 [bf (u*(bT y).d),bf (v*(bT x).d)] (bf (u*(bT y).d+v*(bT x).d)):=λh1 h2=>
  zX (eT h1 y5) (eT h2 x5) o_ o_
 exact aN func96 (λ_=>[v1.at 8,v2.at 12,(mu x1 y5 o_).at 26,(mu y1 x5 o_).at 33,(ad x1 y1).at 34,(mu x2 y5 o_).at 26,(mu y2 x5 o_).at 33,(ad x2 y2).at 34,(mu x3 y5 o_).at 26,(mu y3 x5 o_).at 33,(ad x3 y3).at 34,(mu x4 y5 o_).at 26,(mu y4 x5 o_).at 33,(ad x4 y4).at 34,(mu x5 y5 o_).at 42,hl.at 43])
theorem Cp{x y:K}{m n:Nat}(hx:Sz m x)(hy:Sz n y)(cN:m+n<aD):aF prog 127 [bI x,bI y] (bI (x-y)):=by rw[CR.sub_def];exact aN func127 (λ_=>[(Ad hy o_).at 7,(ti hx hy.neg cN).at 8])
section
open CR OF
def nN(x:K):K:=⟨x.re,-x.im⟩
def mB(x:K):K:=⟨⟨x.re.re,-x.re.im⟩,⟨x.im.re,-x.im.im⟩⟩
def ye(f:Fr):Fr:=⟨f.a,f.b,-f.c,-f.e,f.d⟩
def yf(f:Fr):Fr:=⟨f.a,-f.b,f.c,-f.e,f.d⟩
theorem Pq(u d:Int):Rat.divInt (-u) d=-Rat.divInt u d:=(Rat.neg_divInt u d).symm
theorem aBU(f:Fr):(ye f).val=nN f.val:=bK.ext rfl (bK.ext (Pq _ _) (Pq _ _))
theorem UT(f:Fr):(yf f).val=mB f.val:=bK.ext (bK.ext rfl (Pq _ _)) (bK.ext rfl (Pq _ _))
theorem aLg{f:Fr}(h:f.qa):(ye f).qa:=⟨h.pos,by have:=h.one;unfold Fr.g at this ⊢;simpa[ye]using this⟩
theorem aLh{f:Fr}(h:f.qa):(yf f).qa:=⟨h.pos,by have:=h.one;unfold Fr.g at this ⊢;simpa[yf]using this⟩
theorem aBV(x:K):bT (nN x)=ye (bT x):=by have:=F3 (aLg (kY x));rw[aBU,pF]at this;exact this
theorem aBW(x:K):bT (mB x)=yf (bT x):=by have:=F3 (aLh (kY x));rw[UT,pF]at this;exact this
theorem Sz.nN{n:Nat}{x:K}(h:Sz n x):Sz n (nN x):=by unfold Sz at *;rw[aBV];obtain⟨h1,h2,h3,h4,h5⟩:=h;exact⟨h1,h2,by simpa[ye]using h3,by simpa[ye]using h4,h5⟩
theorem Sz.mB{n:Nat}{x:K}(h:Sz n x):Sz n (mB x):=by unfold Sz at *;rw[aBW];obtain⟨h1,h2,h3,h4,h5⟩:=h;exact⟨h1,by simpa[yf]using h2,h3,by simpa[yf]using h4,h5⟩
def two(y:K):K:=y*nN y
def rP(y:K):K:=two y*mB (two y)
theorem aLi(y:K):two y=⟨bK.nm y,0⟩:=by
 unfold two nN;apply bK.ext
 ·show y.re*y.re+ya*(y.im*-y.im)=y.re*y.re-ya*(y.im*y.im);exact ku y.re y.im ya (λa b s=>a*a+s*(b*-b)) (λa b s=>a*a-s*(b*b)) d_
 ·show y.re*-y.im+y.im*y.re=0;exact jN y.re y.im (λa b=>a*-b+b*a) (λ_ _=>0) d_
theorem Pr(y:K):rP y=⟨⟨bK.nm (bK.nm y),0⟩,⟨0,0⟩⟩:=by
 unfold rP;rw[aLi];obtain⟨p,q⟩:=bK.nm y;have e:mB (⟨⟨p,q⟩,0⟩:K)=⟨⟨p,-q⟩,0⟩:=by unfold mB;show(⟨⟨p,-q⟩,⟨0,-0⟩⟩:K)=_;rw[CR.neg_zero];rfl
 rw[e];apply bK.ext
 ·show(⟨p,q⟩:K2)*⟨p,-q⟩+ya*(0*0)=_;rw[CR.zero_mul,CR.mul_zero,CR.add_zero];apply bK.ext
  ·show p*p+2*(q*-q)=p*p-2*(q*q)
   grind
  ·show p*-q+q*p=0
   grind
 ·show(⟨p,q⟩:K2)*0+0*⟨p,-q⟩=0;rw[CR.mul_zero,CR.zero_mul,CR.add_zero]
theorem UU{y:K}(h:y≠0):bK.nm (bK.nm y)≠0:=λe=>h (bK.Pa (bK.Pa e))
theorem aBX(q:Rat):bT (⟨⟨q,0⟩,⟨0,0⟩⟩:K)=⟨q.num,0,0,0,q.den⟩:=by
 have hl:Fr.qa ⟨q.num,0,0,0,q.den⟩:=⟨by show(0:Int)<(q.den:Int);have:=q.den_pos;omega,by have:=q.reduced;unfold Nat.Coprime at this;simp[Fr.g];rw[Iq];exact this⟩
 have hv:Fr.val ⟨q.num,0,0,0,q.den⟩=⟨⟨q,0⟩,⟨0,0⟩⟩:=by
  unfold Fr.val;have e:∀ d:Int,Rat.divInt 0 d=0:=λd=>by simp
  dsimp only;rw[e,aBI]
 rw[<-hv];exact F3 hl
def oZ(y:K):Fr:=⟨(bT (rP y)).d,0,0,0,(bT (rP y)).a⟩
theorem Ps{y:K}(h:y≠0):(oZ y).d≠0:=by unfold oZ;dsimp only;rw[Pr,aBX];exact λe=>UU h (Rat.num_eq_zero.1 e)
theorem aLj{y:K}(h:y≠0):rP y*(oZ y).val=1:=by
 have hq:=UU h;have e1:(oZ y).val=⟨⟨(bK.nm (bK.nm y))⁻¹,0⟩,⟨0,0⟩⟩:=by
  unfold oZ Fr.val;rw[Pr,aBX];have e:∀ d:Int,Rat.divInt 0 d=0:=λd=>by simp
  dsimp only;rw[e,Ck];generalize bK.nm (bK.nm y)=q at *;have h2:((q.den:Int):Rat)/(q.num:Rat)=q⁻¹:=by
   have h3:(q.num:Rat)≠0:=by simpa using hq
   have h4:((q.den:Int):Rat)*q=q.num:=by
    have h5:(q.num:Rat)/((q.den:Int):Rat)=q:=by rw[<-Ck];exact aBI q
    have h6:((q.den:Int):Rat)≠0:=by have:=q.den_nz;simpa using this
    have h7:=aBB (a:=(q.num:Rat)) h6;rw[h5,Rat.mul_comm]at h7;exact h7
   have h8:=II q hq;have h9:=II (q.num:Rat) h3;rw[F6]
   grind
  rw[h2]
 rw[e1,Pr];generalize bK.nm (bK.nm y)=q at *;have h8:=II q hq;apply bK.ext
 ·apply bK.ext
  ·show(q*q⁻¹+2*(0*0))+(3*(0*0+2*(0*0))+2*(0*(0*0+0*0)))=1
   grind
  ·show(q*0+0*q⁻¹)+(3*(0*0+0*0)+0*(0*0+2*(0*0)))=0
   grind
 ·apply bK.ext
  ·show(q*0+2*(0*0))+(0*q⁻¹+2*(0*0))=0
   grind
  ·show(q*0+0*0)+(0*0+0*q⁻¹)=0
   grind
theorem aBY{x y:K}(h:y≠0):(x*nN y)*(mB (two y)*(oZ y).val)=x*y⁻¹:=by
 have h1:=aLj h;have h2:=OF.jn y h;have e1:y*(nN y*(mB (two y)*(oZ y).val))=1:=by rw[<-h1];unfold rP two;exact Aa y (nN y) (mB (y*nN y)) (oZ y).val (λy c b i=>y*(c*(b*i))) (λy c b i=>y*c*b*i) d_
 have e2:nN y*(mB (two y)*(oZ y).val)=y⁻¹:=by have h3:=cO (λt=>y⁻¹*t) e1;rw[CR.mul_one,<-CR.mul_assoc,CR.mul_comm y⁻¹ y,h2,CR.one_mul]at h3;exact h3
 rw[<-e2,CR.mul_assoc]
theorem Sz.inv{n:Nat}{y:K}(h:y≠0)(hy:Sz n y):Sz (4*n+12) (oZ y).val:=by have h1:Sz (n+n+4) (two y):=hy.mul hy.nN;have h2:Sz (n+n+4+(n+n+4)+4) (rP y):=h1.mul h1.mB;have h3:Sz (4*n+12) (rP y):=h2.mono o_;unfold Sz;rw[F4 (Ps h)];obtain⟨a1,a2,a3,a4,a5⟩:=h3;have hp:0<2^(4*n+12):=cP d_;exact dU.low ⟨a5,hp,hp,hp,a1⟩ (Ps h)
theorem Sz.div{m n:Nat}{x y:K}(h:y≠0)(hx:Sz m x)(hy:Sz n y):Sz (m+7*n+28) (x*y⁻¹):=by rw[<-aBY h];have h1:Sz (n+n+4) (two y):=hy.mul hy.nN;exact((hx.mul hy.nN).mul (h1.mB.mul (Sz.inv h hy))).mono o_
end
def sq(n:Nat):Int:=match n with|0=>1|1=>2|2=>3|_=>6
def yg(n:Nat)(a b c:Nat->Int):Nat->Int:=λk=>if Nat.beq k ((n/4) ^^^ (n%4))then c k+sq ((n/4)&&& (n%4))*(a (n/4)*b (n%4))else c k
def j0(a b:Nat->Int):Nat->Nat->Int
 |0=>λ_=>0
 |n+1=>yg n a b (j0 a b n)
def m7(n:Nat):Nat:=4+9*(n/4)
def nx(n:Nat):Nat:=m7 n+1+2*(n%4)
def ptr(k:Nat):Value:=.pointer (some ⟨k,0,some 7⟩)
section
variable{Bs:aa}{a b:Nat->Int}
def UW(n:Nat)(b:Nat->Int):aX:=[(18,qd b),(19,vI (n%4)),(6,vI (n/4)),(7,ptr (m7 n)),(5,ptr 3)]
def IM(n:Nat)(a c:Nat->Int):aL:=[(3,.aM (ic c) 32),(m7 n,.aM (bN (a (n/4))).cs 31)]
theorem Pt{n:Nat}{c:Nat->Int}(h:a (n/4)=0\/b (n%4)=0):yg n a b c=c:=by
 funext k
 unfold yg;split
 ·rcases h with h|h<;>rw[h]<;>simp
 ·rfl
theorem Lm:((BA (ct z.natAbs)).toList==(ByteArray.mk #[]).toList)=decide (z=0):=by rw[qJ,sQ];omega
theorem aLk(n:Nat)(hn:n<16){c:Nat->Int}{p:Nat}(ha:∀ i,(a i).natAbs<2^p)(hb:∀ i,(b i).natAbs<2^q)(hc:∀ i,(c i).natAbs<2^r)(Gb:p+q+3<=aD)(hr:r<=aD):
  ai prog Bs 62 (.block 3 (ah f87 3)) (UW n b) (IM n a c) (nx n) ⟨.normal,[],IM n a (yg n a b c),nx n+2⟩:=by
 have qf:aD<=1099511627776:=by decide
 have rQ:∀ m,(sq m).natAbs<2^3:=λm=>by unfold sq;split<;>decide
 have m1:=nL (ha (n/4)) (hb (n%4)) o_ o_;have m2:=nL (rQ ((n/4)&&& (n%4))) (eT (ha (n/4)) (hb (n%4))) o_ o_;have ad:=zX (hc ((n/4) ^^^ (n%4))) (eT (rQ ((n/4)&&& (n%4))) (eT (ha (n/4)) (hb (n%4)))) o_ o_;have so:=kG (z:=sq ((n/4)&&& (n%4))) (mU (rQ _) d_);by_cases h1:a (n/4)=0
 ·rw[Pt (.inl h1)];have e:((BA (ct (a (n/4)).natAbs)).toList==(ByteArray.mk #[]).toList)=true:=by rw[Lm];exact aH h1
  rcases n with _|_|_|_|_|_|_|_|_|_|_|_|_|_|_|_|n
  all_goals first|omega|exact aE [.rw 25 _ b_ (cO Value.bool e)]
 ·by_cases h2:b (n%4)=0
  ·rw[Pt (.inr h2)];have e:((BA (ct (a (n/4)).natAbs)).toList==(ByteArray.mk #[]).toList)=false:=by rw[Lm];exact aP h1
   have e':((BA (ct (b (n%4)).natAbs)).toList==(ByteArray.mk #[]).toList)=true:=by rw[Lm];exact aH h2
   rcases n with _|_|_|_|_|_|_|_|_|_|_|_|_|_|_|_|n
   all_goals first|omega|exact aE [.rw 25 _ a_ (cO Value.bool e),.rw 29 _ b_ (cO Value.bool e')]
  ·have e:((BA (ct (a (n/4)).natAbs)).toList==(ByteArray.mk #[]).toList)=false:=by rw[Lm];exact aP h1
   have e':((BA (ct (b (n%4)).natAbs)).toList==(ByteArray.mk #[]).toList)=false:=by rw[Lm];exact aP h2
   rcases n with _|_|_|_|_|_|_|_|_|_|_|_|_|_|_|_|n
   all_goals first|omega|exact aE [.rw 25 _ a_ (cO Value.bool e),.rw 29 _ a_ (cO Value.bool e'),so.at 37,m1.at 49,m2.at 50,ad.at 51]
theorem UX{p q:Nat}(ha:∀ i,(a i).natAbs<2^p)(hb:∀ i,(b i).natAbs<2^q):∀ n,n<=16->∀ k,(j0 a b n k).natAbs<=n*2^(p+q+3)
 |0,_,k=>by show(0:Int).natAbs<=_;simp
 |n+1,hn,k=>by
  have ih:=UX ha hb n o_ k;show(yg n a b (j0 a b n) k).natAbs<=_;unfold yg;rw[fQ,pv];split
  ·have rQ:∀ m,(sq m).natAbs<2^3:=λm=>by unfold sq;split<;>decide
   have h1:=eT (rQ ((n/4)&&& (n%4))) (eT (ha (n/4)) (hb (n%4)));rw[show 3+(p+q)=p+q+3 by omega]at h1;have:=aBJ (j0 a b n k) (sq ((n/4)&&& (n%4))*(a (n/4)*b (n%4)));exact dq this (Ln ih (jl h1))
  ·exact dq ih (KJ _ _)
end
theorem Lo(f g:Fr):pH (j0 (co f) (co g) 16) (f.d*g.d)=fe f g:=by
 apply Fr.ext'
 ·show j0 (co f) (co g) 16 0=_;simp[j0,yg,sq,co,fe]
 ·show j0 (co f) (co g) 16 1=_;simp[j0,yg,sq,co,fe]
 ·show j0 (co f) (co g) 16 2=_;simp[j0,yg,sq,co,fe]
 ·show j0 (co f) (co g) 16 3=_;simp[j0,yg,sq,co,fe]
 ·rfl
theorem IP{f:Fr}{n:Nat}(h:dU n f):∀ i,(co f i).natAbs<2^n
 |0=>h.1
 |1=>h.2.1
 |2=>h.2.2.1
 |_+3=>h.2.2.2.1
theorem aBZ:ic (λ_=>0)=[.bool false,.string ⟨#[]⟩,.bool false,.string ⟨#[]⟩,.bool false,.string ⟨#[]⟩,.bool false,.string ⟨#[]⟩]:=by unfold ic;rw[D1];rfl
theorem aLl{f g:Fr}{m n:Nat}(hf:dU m f)(hg:dU n g)(wx:f.d≠0)(oS:g.d≠0)(cN:m+n+8<=aD):aF prog 87 [iE f,iE g] (iE (fe f g).low):=by
 have qf:aD<=1099511627776:=by decide
 have ca:=IP hf;have cb:=IP hg;have hl:=D0 (c:=j0 (co f) (co g) 16) (d:=f.d*g.d) (n:=m+n+4) (DY wx oS) (by rw[Lo];exact hf.mul hg) o_;rw[Lo]at hl;have md:=nL hf.2.2.2.2 hg.2.2.2.2 o_ o_;have hs:∀ i,i<=16->∀ k,(j0 (co f) (co g) i k).natAbs<2^(m+n+8):=λi hi k=>by
  have h1:=UX ca cb i hi k;have h2:i*2^(m+n+3)<=16*2^(m+n+3):=eV _ hi;have h3:2^(m+n+8)=32*2^(m+n+3):=by rw[show m+n+8=5+(m+n+3)by omega,eR]
  have h4:0<2^(m+n+3):=cP d_;omega
 have go:∀(w:h_) (i:Nat),i<16->ai prog (aa.at w) 62 (.block 3 (ah f87 3)) (UW i (co g)) (IM i (co f) (j0 (co f) (co g) i)) (nx i) ⟨.normal,[],IM i (co f) (j0 (co f) (co g) (i+1)),nx i+2⟩:=λw i hi=>
  aLk i hi ca cb (hs i o_) o_ o_
 have UY:∀(w:h_),ai prog (aa.at w) 62 (.block 3 (ah f87 3)) (UW 0 (co g)) [(3,.aM [.bool false,.string ⟨#[]⟩,.bool false,.string ⟨#[]⟩,.bool false,.string ⟨#[]⟩,.bool false,.string ⟨#[]⟩] 32),(m7 0,.aM (bN (co f 0)).cs 31)] (nx 0)
   ⟨.normal,[],IM 0 (co f) (j0 (co f) (co g) 1),nx 0+2⟩:=λw=>by
  have h:=go w 0 o_;have e:IM 0 (co f) (j0 (co f) (co g) 0)=[(3,.aM [.bool false,.string ⟨#[]⟩,.bool false,.string ⟨#[]⟩,.bool false,.string ⟨#[]⟩,.bool false,.string ⟨#[]⟩] 32),(m7 0,.aM (bN (co f 0)).cs 31)]:=by show[(3,Obj.aM (ic (λ_=>0)) 32),(m7 0,.aM (bN (co f 0)).cs 31)]=_;rw[aBZ]
  rw[e]at h;exact h
 generalize j0 (co f) (co g)=c at *;exact fW mixed func87 200 (λw=>[.code 3 _ _ _ _ _ (UY w),.code 3 _ _ _ _ _ (go w 1 o_),.code 3 _ _ _ _ _ (go w 2 o_),.code 3 _ _ _ _ _ (go w 3 o_),.code 3 _ _ _ _ _ (go w 4 o_),.code 3 _ _ _ _ _ (go w 5 o_),.code 3 _ _ _ _ _ (go w 6 o_),.code 3 _ _ _ _ _ (go w 7 o_),.code 3 _ _ _ _ _ (go w 8 o_),.code 3 _ _ _ _ _ (go w 9 o_),.code 3 _ _ _ _ _ (go w 10 o_),.code 3 _ _ _ _ _ (go w 11 o_),.code 3 _ _ _ _ _ (go w 12 o_),.code 3 _ _ _ _ _ (go w 13 o_),.code 3 _ _ _ _ _ (go w 14 o_),.code 3 _ _ _ _ _ (go w 15 o_),md.at 60,hl.at 61]) (λ_=>k_) k_ k_
theorem IQ{x y:K}{m n:Nat}(hx:Sz m x)(hy:Sz n y)(cN:m+n+8<=aD):aF prog 87 [bI x,bI y] (bI (x*y)):=by
 have e:bI (x*y)=iE (fe (bT x) (bT y)).low:=by unfold bI de;rw[UI];rfl
 rw[e];exact aLl hx hy (by have:=(kY x).pos;omega) (by have:=(kY y).pos;omega) cN
theorem nO{x y:K}{m n:Nat}(hx:Sz m x)(hy:Sz n y)(cN:m+n+8<=aD):aF prog 38 [bI x,bI y] (bI (x*y)):=
 aN func38 (λ_=>[(kZ hx o_).at 6,(kZ hy o_).at 10,(IQ hx hy cN).at 16])
theorem aLm{x:K}:aF prog 115 [bI x,vI 2] (bI (nN x)):=by
 have e:bI (nN x)=iE (ye (bT x)):=by unfold bI de;rw[aBV];rfl
 rw[e];exact aN func115 (λ_=>[(oY (bT x).c).at 18,(oY (bT x).e).at 18])
theorem aLn{x:K}:aF prog 115 [bI x,vI 1] (bI (mB x)):=by
 have e:bI (mB x)=iE (yf (bT x)):=by unfold bI de;rw[aBW];rfl
 rw[e];exact aN func115 (λ_=>[(oY (bT x).b).at 18,(oY (bT x).e).at 18])
theorem aLo:kI 0=0:=rfl
theorem IU{x y:K}{m n:Nat}(h:y≠0)(hx:Sz m x)(hy:Sz n y)(cN:m+7*n+40<=aD):aF prog 60 [bI x,bI y] (.tuple #[bI (x*y⁻¹),.int .i64 0]):=by
 have h1:Sz (n+n+4) (two y):=hy.mul hy.nN;have h2:Sz (n+n+4+(n+n+4)+4) (rP y):=h1.mul h1.mB;have h3:=Sz.inv h hy;have d1:=IQ hy hy.nN o_;have d2:=IQ h1 h1.mB o_;have d3:=IQ hx hy.nN o_;have d4:=IQ h1.mB h3 o_;have d5:=IQ (hx.mul hy.nN) (h1.mB.mul h3) o_;rw[aBY h]at d5;have hi:=D0 (c:=co (oZ y)) (d:=(oZ y).d) (n:=n+n+4+(n+n+4)+4) (Ps h) (by obtain⟨a1,a2,a3,a4,a5⟩:=h2;have hp:0<2^(n+n+4+(n+n+4)+4):=cP d_;exact⟨a5,hp,hp,hp,a1⟩) o_
 have e:pH (co (oZ y)) (oZ y).d=oZ y:=rfl;have e2:iE (oZ y).low=bI (oZ y).val:=by unfold bI de;rw[F4 (Ps h)];rfl
 rw[e,e2]at hi;have e3:qd (co (oZ y))=.agg #[.bool (bN (bT (rP y)).d).neg,.string (BA (bN (bT (rP y)).d).bw),.bool false,.string ⟨#[]⟩,.bool false,.string ⟨#[]⟩,.bool false,.string ⟨#[]⟩]:=by show Value.agg #[.bool (bN (bT (rP y)).d).neg,.string (BA (bN (bT (rP y)).d).bw),.bool (bN 0).neg,.string (BA (bN 0).bw),.bool (bN 0).neg,.string (BA (bN 0).bw),.bool (bN 0).neg,.string (BA (bN 0).bw)]=_;rw[D1];rfl
 rw[e3]at hi;have e4:(oZ y).d=(bT (rP y)).a:=rfl;rw[e4]at hi;have z:=rO (z:=0) d_;have zs:Sz 1 (kI 0):=qe d_ o_;have ne:de y≠de (kI 0):=λe=>h (by rw[Lk e];rfl);generalize (oZ y).val=v at *;exact aN func60 (λ_=>[(kZ hx o_).at 13,(kZ hy o_).at 17,z.at 23,.step 24 (aw f60 24) _ _ _ _ (Lj (neg:=true) k_ (de y) (de (kI 0)) (ux hy o_) (ux zs d_) (b:=false) (by simp;exact ne)),(aLm (x:=y)).at 27,d1.at 30,(aLn (x:=two y)).at 32,d2.at 35,hi.at 42,d3.at 45,d4.at 48,d5.at 49])
theorem aLp{x:K}{m:Nat}(hx:Sz m x)(hm:m<=aD):aF prog 60 [bI x,bI 0] (.tuple #[.agg #[.bool false,.string ⟨#[]⟩,.bool false,.string ⟨#[]⟩,.bool false,.string ⟨#[]⟩,.bool false,.string ⟨#[]⟩,.bool false,.string ⟨#[]⟩],.int .i64 10]):=by have zs:Sz 1 (kI 0):=qe d_ o_;exact aN func60 (λ_=>[(kZ hx hm).at 13,(kZ (x:=0) zs d_).at 17,(rO (z:=0) d_).at 23,.step 24 (aw f60 24) _ _ _ _ (Lj (neg:=true) k_ (de 0) (de (kI 0)) (ux zs d_) (ux zs d_) (b:=true) (by simp;rfl))])
theorem UZ{a b s:Int}(ha:a.natAbs<=1)(hs:s.natAbs<=1):aF prog 166 [.int .i64 a,.int .i64 b,.int .i64 s] (.int .i64 (ur a b s)):=by
 have hw:IntKind.i64.wrap (a*s)=a*s:=by
  have h1:a=-1\/a=0\/a=1:=by omega
  rcases h1 with h1|h1|h1<;>rw[h1,dh]<;>omega
 unfold ur;by_cases h1:a=b
 ·rw[aB (.inl h1)];exact aN func166 (λ_=>[.rw 10 (.bool (a==b)) b_ (by rw[h1];simp)])
 ·by_cases h2:b=0
  ·rw[aB (.inr h2)];exact aN func166 (λ_=>[.rw 10 (.bool (a==b)) a_ (by congr 1;simpa using h1),.rw 13 (.bool (b==0)) b_ (by rw[h2];rfl)])
  ·rw[av (λh=>h.elim h1 h2)];by_cases h3:a=0
   ·rw[aB h3];exact aN func166 (λ_=>[.rw 10 (.bool (a==b)) a_ (by congr 1;simpa using h1),.rw 13 (.bool (b==0)) a_ (by congr 1;simpa using h2),.rw 18 (.bool (a==0)) b_ (by rw[h3];rfl)])
   ·rw[av h3];exact aN func166 (λ_=>[.rw 10 (.bool (a==b)) a_ (by congr 1;simpa using h1),.rw 13 (.bool (b==0)) a_ (by congr 1;simpa using h2),.rw 18 (.bool (a==0)) a_ (by congr 1;simpa using h3),.wr 22 .i64 (a*s) (a*s) hw])
theorem Gc{k:Int}{x y:Int}{p:Nat}(hk:k.natAbs<2^3)(h1:x.natAbs<2^p)(h2:y.natAbs<2^q)(Gb:p+q+3<=aD):aF prog 168 [.int .i64 k,bf x,bf y] (bf (k*(x*y))):=by
 have qf:aD<=1099511627776:=by decide
 exact aN func168 (λ_=>[(kG (z:=k) (mU hk d_)).at 8,(nL h1 h2 o_ o_).at 11,(nL hk (eT h1 h2) o_ o_).at 12])
theorem IV{k x y:Int}{p:Nat}(hk:k.natAbs<2^3)(h1:x.natAbs<2^p)(h2:y.natAbs<2^q):(k*(x*y)).natAbs<2^(p+q+3):=by have:=eT hk (eT h1 h2);rwa[show 3+(p+q)=p+q+3 by omega]at this
theorem IW{x y:Int}{p:Nat}(h1:x.natAbs<2^p)(h2:y.natAbs<2^p):(x+y).natAbs<2^(p+1):=by have:=aBJ x y;rw[dG];omega
theorem Pu{x y:Int}{p:Nat}(h1:x.natAbs<2^p)(h2:y.natAbs<2^p):(x-y).natAbs<2^(p+1):=by have:=Int.natAbs_sub_le x y;rw[dG];omega
theorem Gd(z:Int):z.sign.natAbs<=1:=by
 rcases Pb z 0 with h|h|h
 ·rw[FT h];decide
 ·rw[h];decide
 ·rw[Cf h];decide
theorem U0{x y:Int}{p:Nat}(h1:x.natAbs<2^p)(h2:y.natAbs<2^q)(hp:p+p+3<=aD)(hq:q+q+3<=aD):aF prog 165 [bf x,bf y] (.int .i64 (qc x y)):=by
 have qf:aD<=1099511627776:=by decide
 exact aN func165 (λ_=>[(pX x).at 6,(pX y).at 8,(nL h1 h1 o_ o_).at 11,(Gc (k:=2) d_ h2 h2 o_).at 14,(Ua (eT h1 h1) (IV (k:=2) d_ h2 h2) o_ o_).at 15,(UZ (b:=y.sign) (s:=(x*x-2*(y*y)).sign) (Gd x) (Gd _)).at 16])
theorem Pv(x y:Int):(qc x y).natAbs<=1:=by
 unfold qc ur;have h1:=Gd x;have h2:=Gd y;have h3:=Gd (x*x-2*(y*y));split
 ·exact h1
 ·split
  ·exact h2
  ·rw[vF];exact dq (qG h1 h3) d_
theorem nP{x:K}{n:Nat}(hx:Sz n x)(hn:4*n+20<=aD):aF prog 126 [bI x] (.int .i64 (OF.aG x)):=by
 have qf:aD<=1099511627776:=by decide
 have hv:=kZ hx o_;rw[aBN];obtain⟨x1,x2,x3,x4,x5⟩:=hx;unfold bI de at *;generalize bT x=f at *;have s1:=U0 x1 x2 o_ o_;have s2:=U0 x3 x4 o_ o_;have t1:=Gc (k:=1) d_ x1 x1 o_;rw[O1]at t1;have t2:=Gc (k:=2) d_ x2 x2 o_;have t3:=Gc (k:=3) d_ x3 x3 o_;have t6:=Gc (k:=6) d_ x4 x4 o_;have z1:(f.a*f.a).natAbs<2^(n+n+3):=cG (eT x1 x1) (df d_ o_);have z2:=IV (k:=2) d_ x2 x2;have z3:=IV (k:=3) d_ x3 x3;have z6:=IV (k:=6) d_ x4 x4;have a1:=zX z1 z2 o_ o_;have a2:=zX z3 z6 o_ o_;have b1:=FV (IW z1 z2) (IW z3 z6) o_ o_;have u2:=Gc (k:=2) d_ x1 x2 o_;have u6:=Gc (k:=6) d_ x3 x4 o_;have y2:=IV (k:=2) d_ x1 x2;have y6:=IV (k:=6) d_ x3 x4;have b2:=FV y2 y6 o_ o_;have s3:=U0 (Pu (IW z1 z2) (IW z3 z6)) (Pu y2 y6) o_ o_;have yi:=Pv f.a f.b;have U1:=Pv ((f.a*f.a+2*(f.b*f.b))-(3*(f.c*f.c)+6*(f.e*f.e))) (2*(f.a*f.b)-6*(f.c*f.e));have mx:=UZ (b:=qc f.c f.e) yi U1;have m0:=UZ (a:=qc f.a f.b) (b:=qc f.c f.e) (s:=0) yi d_;unfold Pn;generalize qc f.a f.b=p at *;generalize qc f.c f.e=q at *;by_cases h:p=q\/q=0\/p=0
 ·have e:ur p q (qc ((f.a*f.a+2*(f.b*f.b))-(3*(f.c*f.c)+6*(f.e*f.e))) (2*(f.a*f.b)-6*(f.c*f.e)))=ur p q 0:=by
   unfold ur;by_cases h1:p=q\/q=0
   ·rw[aB h1,aB h1]
   ·rw[av h1,av h1];have h2:p=0:=by
     rcases h with h|h|h
     ·exact absurd (.inl h) h1
     ·exact absurd (.inr h) h1
     ·exact h
    rw[aB h2,aB h2]
  rw[e];by_cases h1:p=q
  ·exact aN func126 (λ_=>[hv.at 12,s1.at 28,s2.at 31,.rw 34 (.bool (p==q)) b_ (by rw[h1];simp),m0.at 45])
  ·by_cases h2:q=0
   ·exact aN func126 (λ_=>[hv.at 12,s1.at 28,s2.at 31,.rw 34 (.bool (p==q)) a_ (by congr 1;simpa using h1),.rw 37 (.bool (q==0)) b_ (by rw[h2];rfl),m0.at 45])
   ·have h3:p=0:=by
     rcases h with h|h|h
     ·exact absurd h h1
     ·exact absurd h h2
     ·exact h
    exact aN func126 (λ_=>[hv.at 12,s1.at 28,s2.at 31,.rw 34 (.bool (p==q)) a_ (by congr 1;simpa using h1),.rw 37 (.bool (q==0)) a_ (by congr 1;simpa using h2),.rw 41 (.bool (p==0)) b_ (by rw[h3];rfl),m0.at 45])
 ·have h1:p≠q:=λe=>h (.inl e);have h2:q≠0:=λe=>h (.inr (.inl e));have h3:p≠0:=λe=>h (.inr (.inr e));exact aN func126 (λ_=>[hv.at 12,s1.at 28,s2.at 31,.rw 34 (.bool (p==q)) a_ (by congr 1;simpa using h1),.rw 37 (.bool (q==0)) a_ (by congr 1;simpa using h2),.rw 41 (.bool (p==0)) a_ (by congr 1;simpa using h3),t1.at 48,t2.at 51,a1.at 52,t3.at 55,t6.at 58,a2.at 59,b1.at 60,u2.at 63,u6.at 66,b2.at 67,s3.at 72,mx.at 73])
theorem mX{x y:K}{m n:Nat}(hx:Sz m x)(hy:Sz n y)(cN:4*(m+n)+24<=aD):aF prog 75 [bI x,bI y] (.int .i64 (OF.aG (x-y))):=
 aN func75 (λ_=>[(Cp hx hy o_).at 7,(nP (hx.sub hy) o_).at 8])
def iZ(x:K):K:=if OF.aG x<0 then -x else x
theorem U2{x:K}{n:Nat}(hx:Sz n x)(hn:4*n+20<=aD):aF prog 237 [bI x] (bI (iZ x)):=by
 unfold iZ;have n1:=Ad hx o_;have n2:=Ad hx.neg o_;rw[CR.neg_neg]at n2;by_cases h:OF.aG x<0
 ·rw[aB h];exact aN func237 (λ_=>[(nP hx hn).at 4,.rw 5 (.bool (decide (OF.aG x<0))) b_ (by rw[aH h]),n1.at 7])
 ·rw[av h];exact aN func237 (λ_=>[(nP hx hn).at 4,.rw 5 (.bool (decide (OF.aG x<0))) a_ (by rw[aP h]),n1.at 9,n2.at 10])
theorem aB0{b o cap:Nat}{x:Obj}(h:jR ι w (.at b o cap) x)(hx:x.owns=true):∃ cs ty,w.heap[b]?=some (.cells cs ty (0,0)):=by
 cases x with
 |aM cells ty=>
  obtain⟨b',bL,e,_,h2⟩:=h;injection e with e _ _;subst e;exact⟨_,_,h2⟩
 |row cells ty size=>
  rcases h with ⟨h,_⟩|⟨b',aU,cur,e,h2,_⟩
  ·cases h
  ·injection e with e _ _;subst e;exact⟨_,_,h2⟩
 |_=>cases hx
def Obj.soft:Obj->Bool
 |.view _=>true
 |.fact F=>!F.rc
 |_=>false
theorem Pw{x:Obj}(h:x.soft=true)(k:x.owns=true):False:=by cases x<;>simp[Obj.soft,Obj.owns]at h k
theorem Px{F:Fact}(h:(Obj.fact F).soft=true):F.rc=false:=by simpa[Obj.soft]using h
def Else(w:h_)(l:Nat):Prop:=∀ cs ty f,w.heap[l]?≠some (.cells cs ty f)
theorem Py{l:Nat}{r:Loop}(h:w.heap[l]?=some (.loop r)):Else w l:=λcs ty f e=>by rw[h]at e;cases e
theorem aLq{l:Nat}{r:Option (List Deferred)}(h:w.heap[l]?=some (.deferred r)):Else w l:=λcs ty f e=>by rw[h]at e;cases e
theorem Pz{loc:pR}{x:Obj}{l:Nat}(hl:Else w l)(h:jR ι w loc x)(hx:∀ F,x=.fact F->F.rc=false)(hz:w.heap.size<=w'.heap.size)
  (hs:∀ b o cap,x.owns=true\/x.kh=true->loc=.at b o cap->b=l\/w'.heap[b]?=w.heap[b]?) (hf:∀ F v b,x=.fact F->loc=.val v->F.cU v w b->b=l\/w'.heap[b]?=w.heap[b]?):jR ι w' loc x:=by
 cases x with
 |aM cells ty=>
  obtain⟨b,bL,e,h1,h2⟩:=h;rcases hs b 0 0 (.inl rfl) e with rfl|hb
  ·exact absurd h2 (hl _ _ _)
  ·exact⟨b,bL,e,h1,by rw[hb];exact h2⟩
 |row cells ty size=>
  rcases h with h|⟨b,cap,cur,e,h1,h2⟩
  ·exact .inl h
  ·rcases hs b 0 cap (.inl rfl) e with rfl|hb
   ·exact absurd h1 (hl _ _ _)
   ·exact .inr ⟨b,cap,cur,e,by rw[hb];exact h1,h2⟩
 |view cells=>
  rcases h with h|⟨b,o,cap,bL,e,h1,h2⟩
  ·exact .inl h
  ·rcases hs b o cap (.inr rfl) e with rfl|hb
   ·have:bL=[]:=by
     cases bL with
     |nil=>rfl
     |cons u t=>
      have:=h2 0 u rfl;unfold World.cell? at this;dsimp only at this;split at this
      ·rename_i h3;exact absurd h3 (hl _ _ _)
      ·cases this
    subst this;exact .inr ⟨b,o,cap,[],e,h1,λj u hj=>by cases hj⟩
   ·exact .inr ⟨b,o,cap,bL,e,h1,λj u hj=>by rw[World.cell?_of_block (w:=w) (w':=w') (a:=⟨b,o+j,none⟩) hb];exact h2 j u hj⟩
 |fact F=>
  obtain⟨v,e,h1⟩:=h;refine⟨v,e,(F.soft (hx F rfl) v w w' h1 hz λk hk cs ty f hc=>?_).1⟩;rcases hf F v k rfl e hk with rfl|hb
  ·exact absurd hc (hl _ _ _)
  ·rw[hb];exact hc
 |dead=>trivial
theorem PA{B1 B2:aa}{c2:g_}{w1 w2:h_}{L:aL}(h:aO B1 ι c w1)(hL:cY c L)(sL:∀ k x,ag L k=some x->κ k=ι k)
  (aLr:∀ k x l,ag L k=some x->ι k=some l->jR ι w1 l x->jR κ w2 l x) (aLs:B2.G w2) (J4:∀ k x b o cap,ag L k=some x->x.owns=true->ι k=some (.at b o cap)->¬B2.cU b)
  (zi:w1.heap.size<=w2.heap.size) (TC:∀ k,c2 k=none->κ k=none) (dp:∀ k x,c2 k=some x->ag L k=some x\/(x=.dead/\∃ l,κ k=some l)) (U3:∀ k F,ag L k=some (.fact F)->F.rc=true->B2.Fa F) (Ge:∀ k F v b,ag L k=some (.fact F)->ι k=some (.val v)->F.cU v w2 b->F.cU v w1 b)
  (hle:Map.le B2.mp κ):aO B2 κ c2 w2:=by
 have src:∀{k x},c2 k=some x->x≠.dead->c k=some x/\κ k=ι k/\ag L k=some x:=λ{k x} hk hx=>by
  rcases dp k x hk with h1|⟨h1,_⟩
  ·exact⟨hL k x h1,sL k x h1,h1⟩
  ·exact absurd h1 hx
 have nd:∀{x:Obj},x.owns=true->x≠.dead:=λh e=>by subst e;cases h
 have nv:∀{x:Obj},x.kh=true->x≠.dead:=λh e=>by subst e;cases h
 refine⟨aLs,TC,?_,?_,?_,?_,?_,?_,?_,hle⟩
 ·intro k x hk;rcases dp k x hk with h1|⟨rfl,l,hl⟩
  ·obtain⟨l,e1,e2⟩:=h.born k x (hL k x h1);exact⟨l,(sL k x h1).trans e1,aLr k x l h1 e1 e2⟩
  ·exact⟨l,hl,trivial⟩
 ·intro k x b o cap hk hx hl;obtain⟨q1,q2,q3⟩:=src hk (nd hx);rw[q2]at hl;exact⟨cG (h.own k x b o cap q1 hx hl).1 zi,J4 k x b o cap q3 hx hl⟩
 ·intro k j x y b o cap o' aU hk hx hj hy hl cB;obtain⟨q1,q2,_⟩:=src hk (nd hx);obtain⟨p1,p2,_⟩:=src hj (nd hy);exact h.inj k j x y b o cap o' aU q1 hx p1 hy (q2▸hl) (p2▸cB)
 ·intro k j x F b o cap v hk hx hl hj hv;obtain⟨q1,q2,_⟩:=src hk (nd hx);obtain⟨p1,p2,p3⟩:=src hj n_;intro hF;exact h.apart k j x F b o cap v q1 hx (q2▸hl) p1 (p2▸hv) (Ge j F v b p3 (p2▸hv) hF)
 ·intro k x b o cap hk hx hl;obtain⟨q1,q2,_⟩:=src hk (nv hx);obtain⟨s1,s2⟩:=h.seen k x b o cap q1 hx (q2▸hl);refine⟨cG s1 zi,λj y o' aU hj hy hm=>?_⟩;obtain⟨p1,p2,_⟩:=src hj (nd hy);exact s2 j y o' aU p1 hy (p2▸hm)
 ·intro j F hj;exact U3 j F (src hj n_).2.2
 ·intro j k F F' hj hk;exact h.one j k F F' (src hj n_).1 (src hk n_).1
def fG(l:Nat)(r:Loop):Fact where
 G _ W:=W.heap[l]?=some (.loop r)
 cU _ _ k:=k=l
 lt _ w k h hk:=by subst hk;exact(zx.1 h).1
 dep _ w w' h _ hk:=⟨(hk l rfl).trans h,λk h=>h⟩
 rc:=true
 soft h:=by cases h
def k6(W1:h_)(l:Nat)(S:Nat->Prop)(m:Map):aa where
 G W:=tV W1 W/\W.tape=W1.tape/\W.output=W1.output/\W1.heap.size<=W.heap.size/\∀ k,k<W1.heap.size->¬S k->k≠l->W.heap[k]?=W1.heap[k]?
 cU k:=k<W1.heap.size/\¬S k/\k≠l
 Fa F:=∃ r,F=fG l r
 mp:=m
 lt w k h hk:=cG hk.1 h.2.2.2.1
 dep w w' h h1 h2 h3 h4 h5:=⟨h1.trans h.1,h2.trans h.2.1,h3.trans h.2.2.1,dq h.2.2.2.1 h4,λk hk hS hl=>(h5 k ⟨hk,hS,hl⟩).trans (h.2.2.2.2 k hk hS hl)⟩
section
variable{W1 W:h_}{l g:Nat}{S:Nat->Prop}{m ι:Map}{c:g_}{r r':Loop}
theorem Cq{B:aa}(h:aO B ι c W)(hg:c g=some (.fact (fG l r))):W.heap[l]?=some (.loop r):=by obtain⟨lc,hl,v,_,hr⟩:=h.born g _ hg;exact hr
theorem aB1(h:aO (k6 W1 l S m) ι c W)(hg:c g=some (.fact (fG l r))):aO (k6 W1 l S m) ι (bA c g (.fact (fG l r'))) (W.putObj l (.loop r')):=by
 have hr:=Cq h hg;have al:=(zx.1 hr).1;have tn:=Py hr;have ne:∀ b,b≠l->(W.putObj l (.loop r')).heap[b]?=W.heap[b]?:=λb hb=>aB2 hb;have da:∀ j y,j≠g->bA c g (.fact (fG l r')) j=some y->c j=some y:=λj y hj e=>by unfold bA at e;rw[av hj]at e;exact e
 have new:∀ y,bA c g (.fact (fG l r')) g=some y->y=.fact (fG l r'):=λy e=>by unfold bA at e;rw[aB rfl]at e;injection e with e;exact e.symm
 have nf:∀ j y,j≠g->c j=some y->∀ F,y=.fact F->F.rc=false:=λj y hj e F e2=>by
  subst e2;cases hr:F.rc with
  |false=>rfl
  |true=>exact absurd (h.one j g F _ e hg hr rfl) hj
 have og:∀ j y,bA c g (.fact (fG l r')) j=some y->y.owns=true\/y.kh=true->c j=some y:=λj y e hy=>by
  by_cases hj:j=g
  ·subst hj;rw[new y e]at hy;rcases hy with hy|hy<;>cases hy
  ·exact da j y hj e
 refine⟨⟨h.base.1,h.base.2.1,h.base.2.2.1,by rw[vJ];exact h.base.2.2.2.1,λk hk hS hl=>(ne k hl).trans (h.base.2.2.2.2 k hk hS hl)⟩,?_,?_,?_,?_,?_,?_,?_,?_,h.pg⟩
 ·intro j hj;unfold bA at hj;by_cases lS:j=g
  ·rw[aB lS]at hj;cases hj
  ·rw[av lS]at hj;exact h.dF j hj
 ·intro j y hj;by_cases lS:j=g
  ·subst lS;rw[new y hj];obtain⟨lc,hl,v,e,_⟩:=h.born j _ hg;exact⟨lc,hl,v,e,World.putObj_heap_same al⟩
  ·have hc:=da j y lS hj;obtain⟨lc,hl,ho⟩:=h.born j y hc;exact⟨lc,hl,Pz tn ho (nf j y lS hc) (by rw[vJ];exact bC _) (λb o cap _ _=>(Nat.decEq b l).casesOn (λhb=>.inr (ne b hb)) λhb=>.inl hb) λF v b _ _ _=>(Nat.decEq b l).casesOn (λhb=>.inr (ne b hb)) λhb=>.inl hb⟩
 ·intro k x b o cap hk hx hl;rw[vJ];exact h.own k x b o cap (og k x hk (.inl hx)) hx hl
 ·intro k j x y b o cap o' aU hk hx hj hy;exact h.inj k j x y b o cap o' aU (og k x hk (.inl hx)) hx (og j y hj (.inl hy)) hy
 ·intro k j x F b o cap v hk hx hl hj hv hF;have gN:=og k x hk (.inl hx);by_cases lS:j=g
  ·subst lS;have e:=new _ hj;injection e with e;subst e;exact h.apart k j x _ b o cap v gN hx hl hg hv hF
  ·have gM:=da j _ lS hj;obtain⟨lc,q1,v',q2,q3⟩:=h.born j _ gM;rw[hv]at q1;injection q1 with q1;subst q1;injection q2 with q2;subst q2;refine h.apart k j x F b o cap v gN hx hl gM hv ((F.soft (nf j _ lS gM F rfl) v W _ q3 (by rw[vJ];exact bC _) λk2 fP cs ty f hc=>?_).2 b hF);rw[ne k2 (λe=>by subst e;exact tn _ _ _ hc)];exact hc
 ·intro k x b o cap hk hx hl;rw[vJ];obtain⟨q1,q2⟩:=h.seen k x b o cap (og k x hk (.inr hx)) hx hl;exact⟨q1,λj y o' aU hj hy=>q2 j y o' aU (og j y hj (.inl hy)) hy⟩
 ·intro j F hj;by_cases lS:j=g
  ·subst lS;have e:=new _ hj;injection e with e;exact λ_=>⟨r',e⟩
  ·exact h.fa j F (da j _ lS hj)
 ·intro j k F F' hj hk hr ph;by_cases lS:j=g
  ·by_cases mC:k=g
   ·rw[lS,mC]
   ·have:=nf k _ mC (da k _ mC hk) F' rfl;rw[ph]at this;cases this
  ·have:=nf j _ lS (da j _ lS hj) F rfl;rw[hr]at this;cases this
end
section
variable{P:j_}{W1 W W4:h_}{l g next:Nat}{S:Nat->Prop}{m ι:Map}{c:g_}{r r2:Loop}
def wQ(ι:Map)(next:Nat):Map:=λk=>if k<next then ι k else none
def pI(c:g_)(next:Nat)(L:aL):g_:=λk=>if k<next then(match ag L k with|some x=>some x|none=>(c k).map λ_=>.dead)else none
theorem yj{k:Nat}(h:k<next):wQ ι next k=ι k:=by unfold wQ;rw[aB h]
theorem aLt(h:aO (k6 W1 l S m) ι c W)(hg:c g=some (.fact (fG l r)))(U4:g<next){L:aL}(hL:cY c L)(Gf:ag L g=none)(dJ:∀ k x,ag L k=some x->k<next/\fV next x)
  (qv:∀ k F,ag L k=some (.fact F)->F.rc=false) (hS:∀ k x b o cap,ag L k=some x->x.owns=true->ι k=some (.at b o cap)->S b) :
  aO (k6 W l S (wQ ι next)) (wQ ι next) (pI c next ((g,.fact (fG l r))::L)) W/\cY (pI c next ((g,.fact (fG l r))::L)) L/\pI c next ((g,.fact (fG l r))::L) g=some (.fact (fG l r))/\eF (pI c next ((g,.fact (fG l r))::L)) next:=by
 have hr:=Cq h hg;have U5:∀ k,ag ((g,.fact (fG l r))::L) k=if g=k then some (.fact (fG l r))else ag L k:=λk=>by
  show(if Nat.beq g k then _ else _)=_;by_cases e:g=k
  ·subst e;simp
  ·rw[av e,oQ e];rfl
 have ju:∀ k x,ag ((g,.fact (fG l r))::L) k=some x->k<next/\c k=some x/\(x=.fact (fG l r)/\k=g\/ag L k=some x):=λk x e=>by
  rw[U5]at e;by_cases hk:g=k
  ·subst hk;rw[aB rfl]at e;injection e with e;subst e;exact⟨U4,hg,.inl ⟨rfl,rfl⟩⟩
  ·rw[av hk]at e;exact⟨(dJ k x e).1,hL k x e,.inr e⟩
 refine⟨PA (L:=(g,.fact (fG l r))::L) h (λk x e=>(ju k x e).2.1) (λk x e=>yj (ju k x e).1) (λk x lc e _ ho=>?_) ⟨.refl _,rfl,rfl,bC _,λ_ _ _ _=>rfl⟩ (λk x b o cap e hx hb hF=>?_) (bC _) (λk e=>?_) (λk x e=>?_) (λk F e=>?_) (λ_ _ _ _ _ _ h=>h) (Map.le.refl _),λk x e=>?_,?_,λk hk=>?_⟩
 ·rcases(ju k x e).2.2 with ⟨rfl,_⟩|e
  ·exact ho
  ·exact ho.below (λk hk l e=>by rw[yj hk];exact e) (dJ k x e).2
 ·rcases(ju k x e).2.2 with ⟨rfl,_⟩|e
  ·cases hx
  ·exact hF.2.1 (hS k x b o cap e hx hb)
 ·unfold pI at e;unfold wQ;split at e
  ·rename_i hk;rw[aB hk];split at e
   ·cases e
   ·cases hc:c k with
    |none=>exact h.dF k hc
    |some x=>rw[hc]at e;cases e
  ·rename_i hk;rw[av hk]
 ·unfold pI at e;split at e
  ·rename_i hk;split at e
   ·rename_i y hy;injection e with e;subst e;exact .inl hy
   ·cases hc:c k with
    |none=>rw[hc]at e;cases e
    |some y=>
     rw[hc]at e;injection e with e;obtain⟨lc,q,_⟩:=h.born k y hc;exact .inr ⟨e.symm,lc,by rw[yj hk];exact q⟩
  ·cases e
 ·rcases(ju k _ e).2.2 with ⟨e,_⟩|e
  ·injection e with e;exact λ_=>⟨r,e⟩
  ·exact λhr=>by rw[qv k F e]at hr;cases hr
 ·unfold pI;rw[aB (dJ k x e).1,U5,av (λh=>by subst h;rw[Gf]at e;cases e),e]
 ·unfold pI;rw[aB U4,U5,aB rfl]
 ·unfold pI;rw[av o_]
theorem aLu(h:aO (k6 W1 l S m) ι c W)(hg:c g=some (.fact (fG l r))){Os cx:aL}(hO:cY c Os)(U6:ag Os g=none)(dX:∀ k x,ag Os k=some x->x.owns=true)(tu:∀ k x,ag cx k=some x->x.owns=true)
  (ko:∀ k,ag cx k=none↔ag Os k=none) (hS:∀ b,S b->∃ k x o cap,ag Os k=some x/\ι k=some (.at b o cap)) (jU:∀ k x,ag cx k=some x->fV next x)
  {az:Map} {c':g_} {aLv:Map} (hm:aO (k6 W l S aLv) az c' W4) (PB:c' g=some (.fact (fG l r2))) (tx:cY c' cx) (dJ:∀ k,k<next->∀ lc,az k=some lc->ι k=some lc)
  (U4:g<next) (oU:∀ k x,ag cx k=some x->k<next):aO (k6 W1 l S m) ι (l9 c ((g,.fact (fG l r2))::cx)) W4:=by
 have hr:=Cq h hg;have hr4:=Cq hm PB;have tn:=Py hr;have aLw:=Py hr4;have bH:W.heap.size<=W4.heap.size:=hm.base.2.2.2.1;have aM:∀ b,b<W.heap.size->¬S b->b≠l->W4.heap[b]?=W.heap[b]?:=hm.base.2.2.2.2
 -- ya kinds of marks
 have kinds:∀ k x,l9 c ((g,.fact (fG l r2))::cx) k=some x->(k=g/\x=.fact (fG l r2))\/(k≠g/\ag cx k=some x/\c' k=some x/\x.owns=true)\/(k≠g/\ag Os k=none/\c k=some x/\∀ F,x=.fact F->F.rc=false):=λk x e=>by
  rw[wB]at e;by_cases hk:k=g
  ·subst hk;have:ag ((k,Obj.fact (fG l r2))::cx) k=some (.fact (fG l r2)):=by show(if Nat.beq k k then _ else _)=_;simp
   rw[this]at e;injection e with e;exact .inl ⟨rfl,e.symm⟩
  ·have:ag ((g,Obj.fact (fG l r2))::cx) k=ag cx k:=by show(if Nat.beq g k then _ else _)=_;rw[oQ (kR hk)];rfl
   rw[this]at e;cases ho:ag cx k with
   |some y=>rw[ho]at e;injection e with e;subst e;exact .inr (.inl ⟨hk,rfl,tx k y ho,tu k y ho⟩)
   |none=>
    rw[ho]at e;refine .inr (.inr ⟨hk,(ko k).1 ho,e,λF ef=>?_⟩);subst ef;cases hr:F.rc with
    |false=>rfl
    |true=>exact absurd (h.one k g F _ e hg hr rfl) hk
 -- the map is the same at the marks of the list
 have same:∀ k x,ag cx k=some x->az k=ι k:=λk x e=>by obtain⟨lc,q,_⟩:=hm.born k x (tx k x e);rw[q,dJ k (oU k x e) lc q]
 have D2:∀ k x b o cap,ag Os k=none->c k=some x->x.owns=true->ι k=some (.at b o cap)->¬S b:=λk x b o cap hn hc hx hl hs=>by obtain⟨k',x',o',aU,e1,e2⟩:=hS b hs;have:=h.inj k k' x x' b o cap o' aU hc hx (hO k' x' e1) (dX k' x' e1) hl e2;subst this;rw[hn]at e1;cases e1
 have D3:∀ k x b o cap,c k=some x->x.kh=true->ι k=some (.at b o cap)->¬S b:=λk x b o cap hc hx hl hs=>by obtain⟨k',x',o',aU,e1,e2⟩:=hS b hs;exact(h.seen k x b o cap hc hx hl).2 k' x' o' aU (hO k' x' e1) (dX k' x' e1) e2
 have yk:∀ k F v b,c k=some (.fact F)->ι k=some (.val v)->F.cU v W b->¬S b:=λk F v b hc hl hF hs=>by obtain⟨k',x',o',aU,e1,e2⟩:=hS b hs;exact h.apart k' k x' F b o' aU v (hO k' x' e1) (dX k' x' e1) e2 hc hl hF
 have aB3:∀ k x b o cap,c k=some x->x.owns=true->ι k=some (.at b o cap)->b≠l:=λk x b o cap hc hx hl e=>by obtain⟨lc,q1,q2⟩:=h.born k x hc;rw[hl]at q1;injection q1 with q1;subst q1;obtain⟨cs,ty,q⟩:=aB0 q2 hx;subst e;exact tn _ _ _ q
 have U7:∀ k x b o cap,c' k=some x->x.owns=true->az k=some (.at b o cap)->b≠l:=λk x b o cap hc hx hl e=>by obtain⟨lc,q1,q2⟩:=hm.born k x hc;rw[hl]at q1;injection q1 with q1;subst q1;obtain⟨cs,ty,q⟩:=aB0 q2 hx;subst e;exact aLw _ _ _ q
 -- a block of the aWD is none of the aWE
 have part:∀ k x b o cap j y o' aU,ag cx k=some x->ι k=some (.at b o cap)->ag Os j=none->c j=some y->y.owns=true->ι j=some (.at b o' aU)->False:=λk x b o cap j y o' aU hk hl hj hc hy cB=>by
  rcases e7 b W.heap.size with al|ep
  ·have hx:=tu k x hk;have q:=(hm.own k x b o cap (tx k x hk) hx (by rw[same k x hk];exact hl)).2;have h1:=D2 j y b o' aU hj hc hy cB;have h2:=aB3 j y b o' aU hc hy cB;exact q ⟨al,h1,h2⟩
  ·have:=(h.own j y b o' aU hc hy cB).1;omega
 refine⟨?_,?_,?_,?_,?_,?_,?_,?_,?_,h.pg⟩
 ·refine⟨hm.base.1.trans h.base.1,hm.base.2.1.trans h.base.2.1,hm.base.2.2.1.trans h.base.2.2.1,dq h.base.2.2.2.1 bH,λk hk hs hl=>?_⟩;exact(aM k (cG hk h.base.2.2.2.1) hs hl).trans (h.base.2.2.2.2 k hk hs hl)
 ·intro k hk;rw[wB]at hk;cases ho:ag ((g,Obj.fact (fG l r2))::cx) k with
  |some y=>rw[ho]at hk;cases hk
  |none=>rw[ho]at hk;exact h.dF k hk
 ·intro k x hk;rcases kinds k x hk with ⟨rfl,rfl⟩|⟨mC,h1,h2,h3⟩|⟨mC,h1,h2,h3⟩
  ·obtain⟨lc,q1,v,q2,_⟩:=h.born k _ hg;exact⟨lc,q1,v,q2,hr4⟩
  ·obtain⟨lc,q1,q2⟩:=hm.born k x h2;exact⟨lc,by rw[<-same k x h1];exact q1,q2.below dJ (jU k x h1)⟩
  ·obtain⟨lc,q1,q2⟩:=h.born k x h2;refine⟨lc,q1,Pz tn q2 h3 bH (λb o cap hx e=>?_) λF v b e1 e2 hF=>?_⟩;rotate_left
   ·by_cases gm:b=l
    ·exact .inl gm
    ·subst e1;subst e2;exact .inr (aM b (q2.xu rfl hF) (yk k F v b h2 q1 hF) gm)
   by_cases gm:b=l
   ·exact .inl gm
   ·right;subst e;rcases hx with hx|hx
    ·exact aM b (h.own k x b o cap h2 hx q1).1 (D2 k x b o cap h1 h2 hx q1) gm
    ·exact aM b (h.seen k x b o cap h2 hx q1).1 (D3 k x b o cap h2 hx q1) gm
 ·intro k x b o cap hk hx hl;rcases kinds k x hk with ⟨rfl,rfl⟩|⟨mC,h1,h2,h3⟩|⟨mC,h1,h2,h3⟩
  ·cases hx
  ·obtain⟨q1,q2⟩:=hm.own k x b o cap h2 hx (by rw[same k x h1];exact hl);exact⟨q1,λhF=>q2 ⟨cG hF.1 h.base.2.2.2.1,hF.2⟩⟩
  ·obtain⟨q1,q2⟩:=h.own k x b o cap h2 hx hl;exact⟨cG q1 bH,q2⟩
 ·intro k j x y b o cap o' aU hk hx hj hy hl cB;rcases kinds k x hk with ⟨rfl,rfl⟩|⟨mC,h1,h2,h3⟩|⟨mC,h1,h2,h3⟩
  ·cases hx
  ·rcases kinds j y hj with ⟨rfl,rfl⟩|⟨lS,p1,p2,p3⟩|⟨lS,p1,p2,p3⟩
   ·cases hy
   ·exact hm.inj k j x y b o cap o' aU h2 hx p2 hy (by rw[same k x h1];exact hl) (by rw[same j y p1];exact cB)
   ·exact(part k x b o cap j y o' aU h1 hl p1 p2 hy cB).elim
  ·rcases kinds j y hj with ⟨rfl,rfl⟩|⟨lS,p1,p2,p3⟩|⟨lS,p1,p2,p3⟩
   ·cases hy
   ·exact(part j y b o' aU k x o cap p1 cB h1 h2 hx hl).elim
   ·exact h.inj k j x y b o cap o' aU h2 hx p2 hy hl cB
 ·intro k j x F b o cap v hk hx hl hj hv hF;rcases kinds j _ hj with ⟨rfl,e⟩|⟨lS,p1,p2,p3⟩|⟨lS,p1,p2,p3⟩
  ·injection e with e;subst e;have wR:b=l:=hF;rcases kinds k x hk with ⟨rfl,rfl⟩|⟨mC,h1,h2,h3⟩|⟨mC,h1,h2,h3⟩
   ·cases hx
   ·exact U7 k x b o cap h2 hx (by rw[same k x h1];exact hl) wR
   ·exact aB3 k x b o cap h2 hx hl wR
  ·cases p3
  ·have hF:F.cU v W b:=by obtain⟨lc,q1,v',q2,q3⟩:=h.born j _ p2;rw[hv]at q1;injection q1 with q1;subst q1;injection q2 with q2;subst q2;refine(F.soft (p3 F rfl) v W W4 q3 bH λk2 fP cs ty f hc=>?_).2 b hF;rw[aM k2 (F.lt v W k2 q3 fP) (yk j F v k2 p2 hv fP) (λe=>by subst e;exact tn _ _ _ hc)];exact hc
   rcases kinds k x hk with ⟨rfl,rfl⟩|⟨mC,h1,h2,h3⟩|⟨mC,h1,h2,h3⟩
   ·cases hx
   ·have cB:az k=some (.at b o cap):=by rw[same k x h1];exact hl
    have hb:b<W.heap.size:=by obtain⟨lc,q1,q2⟩:=h.born j _ p2;rw[hv]at q1;injection q1 with q1;subst q1;exact q2.xu rfl hF
    exact(hm.own k x b o cap h2 hx cB).2 ⟨hb,yk j F v b p2 hv hF,U7 k x b o cap h2 hx cB⟩
   ·exact h.apart k j x F b o cap v h2 hx hl p2 hv hF
 ·intro k x b o cap hk hx hl;rcases kinds k x hk with ⟨rfl,rfl⟩|⟨mC,h1,h2,h3⟩|⟨mC,h1,h2,h3⟩
  ·cases hx
  ·cases x<;>simp[Obj.owns,Obj.kh]at h3 hx
  ·obtain⟨q1,q2⟩:=h.seen k x b o cap h2 hx hl;refine⟨cG q1 bH,λj y o' aU hj hy cB=>?_⟩;rcases kinds j y hj with ⟨rfl,rfl⟩|⟨lS,p1,p2,p3⟩|⟨lS,p1,p2,p3⟩
   ·cases hy
   ·have ju:az j=some (.at b o' aU):=by rw[same j y p1];exact cB
    exact(hm.own j y b o' aU p2 hy ju).2 ⟨q1,D3 k x b o cap h2 hx hl,U7 j y b o' aU p2 hy ju⟩
   ·exact q2 j y o' aU p2 hy cB
 ·intro j F hj;rcases kinds j _ hj with ⟨_,e⟩|⟨_,_,_,h3⟩|⟨_,_,_,h3⟩
  ·injection e with e;exact λ_=>⟨r2,e⟩
  ·cases h3
  ·exact λhr=>by rw[h3 F rfl]at hr;cases hr
 ·intro j k F F' hj hk hr ph;rcases kinds j _ hj with ⟨e1,_⟩|⟨_,_,_,h3⟩|⟨_,_,_,h3⟩
  ·rcases kinds k _ hk with ⟨e2,_⟩|⟨_,_,_,h3⟩|⟨_,_,_,h3⟩
   ·rw[e1,e2]
   ·cases h3
   ·rw[h3 F' rfl]at ph;cases ph
  ·cases h3
  ·rw[h3 F rfl]at hr;cases hr
end
def PC:aX->aX->aX
 |[],fr=>fr
 |p::l,fr=>PC l (p::fr)
theorem aB4{m:Map}{N:Nat}:∀(l:aX) {fr:aX} {T:p_},T.size=N->(∀ t,n9 m (bJ fr t) (T.getD t undef))->(∀ p∈l,p.1<N/\flat p.2=true)->
  (l.foldl (λt p=>t.setIfInBounds p.1 p.2) T).size=N/\∀ t,n9 m (bJ (PC l fr) t) ((l.foldl (λt p=>t.setIfInBounds p.1 p.2) T).getD t undef)
 |[],fr,T,hT,h,_=>⟨hT,h⟩
 |(p,v)::l,fr,T,hT,h,hl=>by
  obtain⟨h1,h2⟩:=hl (p,v) (aT ..);dsimp only at h1 h2;refine aB4 l (fr:=(p,v)::fr) (T:=T.setIfInBounds p v) (by simpa using hT) (λt=>?_) λq hq=>hl q (bF _ hq);by_cases e:p=t
  ·subst e;have e1:bJ ((p,v)::fr) p=v:=by simp[bJ]
   have e2:(T.setIfInBounds p v).getD p undef=v:=by rw[qC,Array.getElem?_setIfInBounds_self_of_lt o_];rfl
   rw[e1,e2];exact .inr (.same h2)
  ·have e1:bJ ((p,v)::fr) t=bJ fr t:=by show(if Nat.beq p t then _ else _)=_;rw[oQ e];rfl
   have e2:(T.setIfInBounds p v).getD t undef=T.getD t undef:=by rw[qC,qC,SI e]
   rw[e1,e2];exact h t
def exJ:Ex->Option Code
 |.normal=>none
 |.ret=>some .ret
 |.exit id=>some (.exit id)
def j4(cS:FuncId)(T:p_)(ps:Array Tmp)(iR fY:Code)(D:Nat):Loop:={ state:=.ready,pending:=none,fn:=cS,tmps:=T,params:=ps,assign:=iR,body:=fY,defers:=D }
def D4(r:Loop)(j:Option Code):Loop:={ r with state:=if j.isNone then .ready else .done,pending:=j }
section
variable{P:j_}{W1:h_}{l g next N D:Nat}{S:Nat->Prop}{m:Map}
theorem PD{L:aL}(h:∀ p∈L.map (λp=>(p.1,some p.2)),c p.1=p.2):cY c L:=λk x e=>h (k,some x) (db.2 ⟨(k,x),kD e,rfl⟩)
structure Lp(P:j_)(next N:Nat)(ps:Array Tmp)(iR fY:Code)(fr:aX)(Os Vs cx:aL)(eU:ak)(j:Option Code):Prop where
 flat:∀ v∈eU,flat v=true
 len:eU.length=ps.size
 jh:∀ p∈ps,p<N
 low:∀ k x,ag (Os++Vs) k=some x->k<next/\fV (next+1) x
 aB5:∀ k x,ag cx k=some x->fV (next+1) x
 own:∀ k x,ag Os k=some x->x.owns=true
 aB6:∀ k x,ag cx k=some x->x.owns=true
 view:∀ k x,ag Vs k=some x->x.soft=true
 keys:∀ k,ag cx k=none↔ag Os k=none
 run:∃ rA rB:mQ,(∀ B,ai P B N iR (PC (ps.toList.zip eU) fr) (Os++Vs) (next+1) rA)/\rA.ex=.normal/\next+1<=rA.next/\ag rA.M next=none/\
  (∀ B,ai P B N fY rA.fr rA.M rA.next rB)/\(∀ k x,ag cx k=some x->ag rB.M k=some x)/\exJ rB.ex=j
theorem Lq{ps:Array Tmp}{iR fY:Code}{fr:aX}{Os Vs cx:aL}{eU:ak}{j:Option Code}(aC:Lp P next N ps iR fY fr Os Vs cx eU j)
  {o:Oper} {x:m_} (ho:dD o.op=some x) {T:p_} {cS:FuncId} (hT:T.size=N) (hTs:∀ t,n9 m (bJ fr t) (T.getD t undef)) (cN:∀ k lc,m k=some lc->k<next)
  (hS:∀ b,S b↔∃ k x o cap,ag Os k=some x/\m k=some (.at b o cap)) (hSm:∀ k x,ag Os k=some x->m k≠none) :
  cI P (k6 W1 l S m) o (.func (.yield l) #[] #[]::eU) ((next,some (.fact (fG l (j4 cS T ps iR fY D))))::(Os++Vs).map (λp=>(p.1,some p.2))) (.bool j.isNone)
   ((next,.fact (fG l (D4 (j4 cS T ps iR fY D) j)))::cx):=by
 intro R ι c a w hv hm hn K Q hK;obtain⟨rA,rB,hA,U8,hAn,PE,hB,U9,Va⟩:=aC.run;have hg:c next=some (.fact (fG l (j4 cS T ps iR fY D))):=hn (next,_) (aT ..);have hL:cY c (Os++Vs):=PD λp hp=>hn p (bF _ hp);have hO:cY c Os:=λk x e=>hL k x (by rw[iH,e]);have Gf:ag (Os++Vs) next=none:=by
  cases e:ag (Os++Vs) next with
  |none=>rfl
  |some x=>have:=(aC.low _ _ e).1;omega
 have U6:ag Os next=none:=by
  rw[iH]at Gf;cases e:ag Os next with
  |none=>rfl
  |some x=>rw[e]at Gf;cases Gf
 have aLx:ag cx next=none:=(aC.keys next).2 U6;have PF:∀ k x,ag (Os++Vs) k=some x->x.owns=true->ag Os k=some x:=λk x e hx=>by
  rw[iH]at e;cases e1:ag Os k with
  |some y=>rw[e1]at e;exact e
  |none=>
   rw[e1]at e;exact(Pw (aC.view k x e) hx).elim
 have hr:=Cq hm hg;obtain⟨dst,op,ty,pos,after,guard⟩:=o;dsimp only at ho hv;unfold dD at ho;split at ho
 ·rename_i x' lN xA;injection ho with ho;subst ho;have zk:(Op.operands (.call ⟨.value x',lN,xA⟩)).toList=x'::lN.toList:=by simp[Op.operands,Call.operands]
  rw[zk]at hv;cases hv with
  |cons hx sG=>
  obtain⟨kg,eh,he,h1,h2⟩:=hx.Bo;have ef:kg=#[]:=by
   cases jA:kg.toList with
   |nil=>exact IX.1 jA
   |cons _ _=>rw[jA]at h1;cases h1
  have ec:eh=#[]:=by
   cases jA:eh.toList with
   |nil=>exact IX.1 jA
   |cons _ _=>rw[jA]at h2;cases h2
  subst ef;subst ec;have aZ:lN.toList.map a.eval=eU:=oc sG aC.flat;have e3:execOp a.eval ⟨dst,.call ⟨.value x',lN,xA⟩,ty,pos,after,guard⟩=Instr.yield l eU.toArray:=by
   have:execOp a.eval ⟨dst,.call ⟨.value x',lN,xA⟩,ty,pos,after,guard⟩=(do let d <-Deferred.ofValue (a.eval x') (lN.map a.eval);invoke d.target d.args):=rfl;rw[this,he,<-aZ];have:lN.map a.eval=(lN.toList.map a.eval).toArray:=by apply E9;simp
   rw[this];simp[Deferred.ofValue,invoke,go_sem]
  have hy:=run_yield (P:=P) (args:=eU.toArray) hr (by simpa[j4]using aC.len);have aLy:((j4 cS T ps iR fY D).params.zip eU.toArray).foldl (λtmps (t,a)=>tmps.setIfInBounds t a) (j4 cS T ps iR fY D).tmps=(ps.toList.zip eU).foldl (λt p=>t.setIfInBounds p.1 p.2) T:=by rw[<-aB7];simp[j4]
  rw[aLy]at hy;obtain⟨f1,f2⟩:=aB4 (ps.toList.zip eU) hT hTs λp hp=>by have:=List.of_mem_zip hp;exact⟨aC.jh _ (by simpa using this.1),aC.flat _ this.2⟩
  refine⟨λ_ _=>trivial,?_⟩;rw[Nv _ _ _ n_,e3,hy,Oper.uponIn_round];refine⟨λe=>(by cases e),roundIn_of_wpIn trivial ?_⟩
  -- the aWF own memory
  obtain⟨Lr,Lt,PG,vH⟩:=aLt (next:=next+1) hm hg (B5 _) hL Gf (λk x e=>⟨aB8 (aC.low k x e).1,(aC.low k x e).2⟩)
   (λk F e=>by
    rw[iH]at e;cases e1:ag Os k with
    |some y=>rw[e1]at e;injection e with e;subst e;have:=aC.own k _ e1;cases this
    |none=>rw[e1]at e;exact Px (aC.view k _ e))
   (λk x b o cap e hx hb=>by
    have e1:=PF k x e hx;refine(hS b).2 ⟨k,x,o,cap,e1,?_⟩;cases e2:m k with
    |none=>exact absurd e2 (hSm k x e1)
    |some lc=>rw[hm.pg k lc e2]at hb;exact hb)
  refine hA _ (some l) _ _ _ _ _ ⟨rfl,f1,λt=>(f2 t).mono λk lc e=>by rw[yj (aB8 (cN k lc e))];exact hm.pg k lc e⟩ Lr Lt vH λbX gG a1 w1 jx iI c8 eG dT iA _=>?_;rw[U8];have uy:gG next=some (.fact (fG l (j4 cS T ps iR fY D))):=(iA next (B5 _) Gf).trans PG;refine⟨_,run_beginRound (Cq c8 uy) rfl,?_⟩;have dH:=aB1 (r':={ j4 cS T ps iR fY D with state:=.busy }) c8 uy;refine hB _ (some l) _ _ _ _ _ iI dH (λk x e=>?_) (λk hk=>?_) λdP rF a2 w2 lk _ wm Cr Vb Vc _=>?_
  ·unfold bA;by_cases mC:k=next
   ·subst mC;rw[PE]at e;cases e
   ·rw[av mC];exact eG k x e
  ·unfold bA;rw[av o_];exact dT k hk
  ·have hg3:rF next=some (.fact (fG l { j4 cS T ps iR fY D with state:=.busy })):=(Vc next o_ PE).trans (by unfold bA;rw[aB rfl]);have Vd:=aB1 (r':=D4 (j4 cS T ps iR fY D) j) wm hg3;have vK:=run_endRound (P:=P) j (Cq wm hg3);have Gg:∀ k,k<next+1->∀ lc,dP k=some lc->ι k=some lc:=λk hk lc e=>by
    cases rl:ι k with
    |some Ae=>
     have:=lk k Ae (jx k Ae (by rw[yj hk];exact rl));rw[e]at this;exact this.symm
    |none=>
     exfalso;have hc:c k=none:=by
      cases hc:c k with
      |none=>rfl
      |some y=>obtain⟨Ae,q,_⟩:=hm.born k y hc;rw[rl]at q;cases q
     have mC:k≠next:=λe=>by subst e;rw[hg]at hc;cases hc
     have wF:ag (Os++Vs) k=none:=by
      cases e1:ag (Os++Vs) k with
      |none=>rfl
      |some y=>rw[hL k y e1]at hc;cases hc
     have q1:gG k=none:=by
      rw[iA k hk wF];unfold pI;rw[aB hk];have:ag ((next,Obj.fact (fG l (j4 cS T ps iR fY D)))::(Os++Vs)) k=none:=by show(if Nat.beq next k then _ else _)=_;rw[oQ (kR mC)];exact wF
      rw[this,hc];rfl
     have hAk:ag rA.M k=none:=by
      cases e1:ag rA.M k with
      |none=>rfl
      |some y=>rw[eG k y e1]at q1;cases q1
     have q2:rF k=none:=by rw[Vc k o_ hAk];unfold bA;rw[av mC];exact q1
     rw[wm.dF k q2]at e;cases e
   have hmm:=aLu (next:=next+1) (Os:=Os) (cx:=cx) hm hg hO U6 aC.own aC.aB6 aC.keys (λb hb=>by
     obtain⟨k,x,o,cap,e1,e2⟩:=(hS b).1 hb;exact⟨k,x,o,cap,e1,hm.pg k _ e2⟩) aC.aB5 Vd (by unfold bA;rw[aB rfl])
    (λk x e=>by
     unfold bA;by_cases mC:k=next
     ·subst mC;rw[aLx]at e;cases e
     ·rw[av mC];exact Cr k x (U9 k x e)) Gg (B5 _) (λk x e=>by
     cases e1:ag Os k with
     |none=>rw[(aC.keys k).2 e1]at e;cases e
     |some y=>exact aB8 (aC.low k y (by rw[iH,e1])).1)
   have fin:=hK ι (.bool j.isNone) _ (Map.le.refl _) (.same rfl) hmm;subst Va;cases hx:rB.ex with
   |normal=>rw[hx]at vK fin;exact⟨_,_,vK,fin⟩
   |ret=>rw[hx]at vK fin;exact⟨_,_,vK,fin⟩
   |exit id=>rw[hx]at vK fin;exact⟨_,_,vK,fin⟩
 ·cases ho
end
variable{M cx Vs:aL}{eU:ak}
def Gh(D:Nat):Deferred:={ target:=.collected D,args:=#[]}
def aa.held(B:aa)(D:Nat):aa where
 G w:=B.G w/\w.heap[D]?=some (.deferred (some []))
 cU k:=B.cU k\/k=D
 ds:=Gh D::B.ds
 Fa:=B.Fa
 mp:=B.mp
 lt w k h hk:=by
  rcases hk with hk|rfl
  ·exact B.lt w k h.1 hk
  ·exact(zx.1 h.2).1
 dep w w' h h1 h2 h3 h4 h5:=⟨B.dep w w' h.1 h1 h2 h3 h4 λk hk=>h5 k (.inl hk),(h5 D (.inr rfl)).trans h.2⟩
section
variable{P:j_}{B:aa}{N next:Nat}
structure Af(P:j_)(next N:Nat)(fr:aX)(Os:aL)(m:Map)(S:Nat->Prop)(T:p_):Prop where
 size:T.size=N
 jh:∀ t,n9 m (bJ fr t) (T.getD t undef)
 low:∀ k lc,m k=some lc->k<next
 set:∀ b,S b↔∃ k x o cap,ag Os k=some x/\m k=some (.at b o cap)
 born:∀ k x,ag Os k=some x->m k≠none
def aLz(P:j_)(Q:Exit->Act->World->Prop)(j:Option Code)(a:Act)(w:h_):Prop:=
 match j with
 |none=>Q .normal a w
 |some c=>c.wpIn (FW none) 0 P Q a w
theorem Ve{fr:aX}{Os:aL}{cc:g_}{a:Act}{g:m_}{gf:FuncId}{ps:Array Tmp}{iR fY:Code}{j:Option Code}{Q:Exit->Act->World->Prop}
  (hf:fR B ι (bJ fr) N a) (hm:aO B ι cc w) (hL:cY cc (Os++Vs)) (hu:eF cc next) (dX:∀ k x,ag Os k=some x->x.owns=true) (qw:∀ k x,ag Vs k=some x->x.soft=true)
  (hg:gE (bJ fr) g=.func (.func gf) #[] ca.toArray) (aLA:NG g=true) (e8:gO P gf=true)
  (ko:∀ k,ag cx k=none↔ag Os k=none) (tu:∀ k x,ag cx k=some x->x.owns=true) (dJ:∀ k x,ag (cx++Vs) k=some x->fV next x)
  (zw:∀(cS l D:Nat) (W1:h_) (S:Nat->Prop),Af P next N fr Os ι S a.tmps->∀(κ:Map) (c:g_) (W:h_) (eh:ak),aO (k6 W1 l S ι) κ c W->cY c ((next,.fact (fG l (j4 cS a.tmps ps iR fY D)))::(Os++Vs))->eF c (next+1)->bW (aK κ) ca eh->Calls P gf (.func (.yield l) #[] #[]::eh).toArray W λe W'=>∃ v qO c',e=.returned v/\Map.le κ qO/\aO (k6 W1 l S ι) qO c' W'/\cY c' ((next,.fact (fG l (D4 (j4 cS a.tmps ps iR fY D) j)))::(cx++Vs))/\∀ k,k<next->c k=none->c' k=none)
  (hQ:∀ D cr w',(∀ k,B.cU k->k≠D)->w.heap.size<=D->fR (B.held D) ι (bJ fr) N { a with defers:=Gh D::a.defers }->aO (B.held D) ι cr w'->cY cr (cx++Vs)->eF cr next->aLz P Q j { a with defers:=Gh D::a.defers } w'):(Code.rangeFunc g ps iR fY).wpIn (FW none) 0 P Q a w:=by
 have hO:cY cc Os:=λk x e=>hL k x (by rw[iH,e]);have PF:∀ k x,ag (Os++Vs) k=some x->x.owns=true->ag Os k=some x:=λk x e hx=>by
  rw[iH]at e;cases e1:ag Os k with
  |some y=>rw[e1]at e;exact e
  |none=>
   rw[e1]at e;exact(Pw (qw k x e) hx).elim
 have aB9:∀ k F,ag (Os++Vs) k=some (.fact F)->F.rc=false:=λk F e=>by
  rw[iH]at e;cases e1:ag Os k with
  |some y=>rw[e1]at e;injection e with e;subst e;have:=dX k _ e1;cases this
  |none=>rw[e1]at e;exact Px (qw k _ e)
 have aLB:∀ k lc,ι k=some lc->k<next:=λk lc e=>by
  rcases e7 k next with h|h
  ·exact h
  ·rw[hm.dF k (hu k h)]at e;cases e
 have Fl:=Zc hf aLA (by rw[hg];rfl);rw[hg]at Fl;obtain⟨kg,eh,he,h1,h2⟩:=Fl.Bo;have ef:kg=#[]:=by
  cases jA:kg.toList with
  |nil=>exact IX.1 jA
  |cons _ _=>rw[jA]at h1;cases h1
 subst ef;refine wpIn_rangeFunc ?_;intro cS _;obtain⟨W1,Lu⟩:∃ W1,(w.alloc (.deferred (some []))).alloc (.loop (j4 cS a.tmps ps iR fY w.heap.size))=W1:=⟨_,rfl⟩;have DA:=run_enterLoop_outer (P:=P) (w:=w) cS a.tmps ps iR fY;rw[show({ state:=.ready,pending:=none,fn:=cS,tmps:=a.tmps,params:=ps,assign:=iR,body:=fY,defers:=w.heap.size }:Loop)=j4 cS a.tmps ps iR fY w.heap.size from rfl,Lu]at DA;have nB:Below w.heap.size w W1:=by rw[<-Lu];exact((Below.refl _ w).alloc (bC _) _).alloc s_ _
 have aCa:W1.heap.size=w.heap.size+2:=by rw[<-Lu];simp
 have hL1:W1.heap[w.heap.size+1]?=some (.loop (j4 cS a.tmps ps iR fY w.heap.size)):=by rw[<-Lu];have:=World.alloc_heap_new (w.alloc (.deferred (some []))) (.loop (j4 cS a.tmps ps iR fY w.heap.size));rwa[World.size_alloc]at this
 have hK1:W1.heap[w.heap.size]?=some (.deferred (some [])):=by rw[<-Lu];exact(Ss _ _ _ s_).trans (World.alloc_heap_new w _)
 obtain⟨S,hS⟩:∃ S:Nat->Prop,∀ b,S b↔∃ k x o cap,ag Os k=some x/\ι k=some (.at b o cap):=⟨_,λb=>Iff.rfl⟩;have Vf:∀ b,S b->b<w.heap.size/\¬B.cU b:=λb hb=>by obtain⟨k,x,o,cap,e1,e2⟩:=(hS b).1 hb;exact hm.own k x b o cap (hO k x e1) (dX k x e1) e2
 have aCb:∀ k x,ag (Os++Vs) k=some x->∃ lc,ι k=some lc:=λk x e=>by obtain⟨lc,q,_⟩:=hm.born k x (hL k x e);exact⟨lc,q⟩
 refine⟨w.heap.size+1,[{ target:=.collected w.heap.size,args:=#[]}],W1,{ target:=.fn (.func gf) eh,args:=#[.func (.yield (w.heap.size+1)) #[] #[]]},W1,gf,#[.func (.yield (w.heap.size+1)) #[] #[]]++eh,W1,DA,?_,λ_ _=>trivial,?_,λe=>(by cases e),?_⟩
 ·simp only[resolve,he];simp[go_sem]
 ·have:=NK (P:=P) e8 (#[.func (.yield (w.heap.size+1)) #[] #[]]++eh) W1;simpa[invoke,go_sem]using this
 ·have hmW:=hm.call nB
  -- the aWG memory
  have c8:aO (k6 W1 (w.heap.size+1) S ι) ι (λk=>match ag (Os++Vs) k with|some x=>some x|none=>(cc k).map λ_=>.dead) W1:=by
   refine PA (L:=Os++Vs) hmW hL (λ_ _ _=>rfl) (λk x lc _ _ h=>h) ⟨.refl _,rfl,rfl,bC _,λ_ _ _ _=>rfl⟩ (λk x b o cap e hx hl hF=>?_) (bC _) (λk e=>?_) (λk x e=>?_) (λk F e hr=>by rw[aB9 k F e]at hr;cases hr) (λ_ _ _ _ _ _ h=>h) (Map.le.refl _)
   ·exact hF.2.1 ((hS b).2 ⟨k,x,o,cap,PF k x e hx,hl⟩)
   ·split at e
    ·cases e
    ·cases hc:cc k with
     |none=>exact hm.dF k hc
     |some y=>rw[hc]at e;cases e
   ·split at e
    ·rename_i y hy;injection e with e;subst e;exact .inl hy
    ·cases hc:cc k with
     |none=>rw[hc]at e;cases e
     |some y=>
      rw[hc]at e;injection e with e;obtain⟨lc,q,_⟩:=hm.born k y hc;exact .inr ⟨e.symm,lc,q⟩
  generalize gP:(λk=>match ag (Os++Vs) k with|some x=>some x|none=>(cc k).map λ_=>Obj.dead:g_)=c1 at c8;have Lv:ag (Os++Vs) next=none:=by
   cases e:ag (Os++Vs) next with
   |none=>rfl
   |some x=>have:=hL _ _ e;rw[hu next (bC _)]at this;cases this
  have aCc:∀ k,next<=k->c1 k=none:=λk hk=>by
   rw[<-gP];have:ag (Os++Vs) k=none:=by
    cases e:ag (Os++Vs) k with
    |none=>rfl
    |some x=>have:=hL _ _ e;rw[hu k hk]at this;cases this
   simp only[this,hu k hk,aCd]
  have aLC:∀ k x,ag (Os++Vs) k=some x->c1 k=some x:=λk x e=>by rw[<-gP];simp only[e]
  have aLD:∀ k F,c1 k=some (.fact F)->F.rc=false:=λk F e=>by
   rw[<-gP]at e;dsimp only at e;split at e
   ·rename_i y hy;injection e with e;subst e;exact aB9 k F hy
   ·cases hc:cc k with
    |none=>rw[hc]at e;cases e
    |some y=>rw[hc]at e;cases e
  have dH:=c8.add (k:=next) (x:=.fact (fG (w.heap.size+1) (j4 cS a.tmps ps iR fY w.heap.size))) (l:=.val undef) (aCc next (bC _)) ⟨undef,rfl,hL1⟩ n_
   (λF v b e _ hF jj y o' aU hj hy hl=>by
    injection e with e;subst e;have hF:b=w.heap.size+1:=hF;obtain⟨q1,q2⟩:=c8.own jj y b o' aU hj hy hl;have:∃ lc,ι jj=some lc:=⟨_,hl⟩;have gm:b<w.heap.size:=by
     refine(Vf b ?_).1;have oC:=hj;rw[<-gP]at oC;dsimp only at oC;split at oC
     ·rename_i z hz;injection oC with oC;subst oC;exact(hS b).2 ⟨jj,z,o',aU,PF jj z hz hy,hl⟩
     ·cases hc:cc jj with
      |none=>rw[hc]at oC;cases oC
      |some z=>rw[hc]at oC;injection oC with oC;subst oC;cases hy
    omega)
   n_ (λF e _=>⟨by injection e with e;exact⟨_,e.symm⟩,λjj F' hj=>aLD jj F' hj⟩)
  have lk:Map.le ι (dS ι next (.val undef)):=ij (hm.dF next (hu next (bC _)));have fU:Af P next N fr Os ι S a.tmps:=⟨hf.size,hf.slot,aLB,hS,λk x e h=>by obtain⟨lc,q⟩:=aCb k x (by rw[iH,e]);rw[h]at q;cases q⟩
  have iG:=zw cS (w.heap.size+1) w.heap.size W1 S fU (dS ι next (.val undef)) (bA c1 next (.fact (fG (w.heap.size+1) (j4 cS a.tmps ps iR fY w.heap.size)))) W1 eh.toList dH
   (λk x e=>by
    unfold bA;by_cases hk:k=next
    ·subst hk;rw[aB rfl];have:ag ((k,Obj.fact (fG (w.heap.size+1) (j4 cS a.tmps ps iR fY w.heap.size)))::(Os++Vs)) k=some (.fact (fG (w.heap.size+1) (j4 cS a.tmps ps iR fY w.heap.size))):=by show(if Nat.beq k k then _ else _)=_;simp
     rw[this]at e;exact e
    ·rw[av hk];have:ag ((next,Obj.fact (fG (w.heap.size+1) (j4 cS a.tmps ps iR fY w.heap.size)))::(Os++Vs)) k=ag (Os++Vs) k:=by show(if Nat.beq next k then _ else _)=_;rw[oQ (kR hk)];rfl
     rw[this]at e;exact aLC k x e)
   (λk hk=>by unfold bA;rw[av o_];exact aCc k o_) (by
    have:bW (aK ι) ca eh.toList:=by simpa using h2
    exact oM lk this)
  have aLE:(.func (.yield (w.heap.size+1)) #[] #[]::eh.toList:ak).toArray=#[.func (.yield (w.heap.size+1)) #[] #[]]++eh:=by apply E9;simp
  rw[aLE]at iG;refine Kd.2 (iG.mono ?_)
  rintro e W2 ⟨v,qO,c',rfl,u7,bE,jk,gN⟩
  have PB:c' next=some (.fact (fG (w.heap.size+1) (D4 (j4 cS a.tmps ps iR fY w.heap.size) j))):=jk next _ (by show(if Nat.beq next next then _ else _)=_;simp);have hO2:ag Os next=none:=by
   rw[iH]at Lv;cases e:ag Os next with
   |none=>rfl
   |some x=>rw[e]at Lv;cases Lv
  have hV2:ag Vs next=none:=by rw[iH,hO2]at Lv;exact Lv
  have aLF:ag (cx++Vs) next=none:=by rw[iH,(ko next).2 hO2];exact hV2
  have gV:cY c' (cx++Vs):=λk x e=>jk k x (by
   by_cases hk:k=next
   ·subst hk;rw[aLF]at e;cases e
   ·show(if Nat.beq next k then _ else _)=_;rw[oQ (kR hk)];exact e)
  have vK:=run_endLoop (P:=P) (Cq bE PB) (by cases j<;>simp[D4]);refine⟨j,_,vK,?_⟩
  -- the marks of the list
  have Vg:∀ k x,ag (cx++Vs) k=some x->∃ y,ag (Os++Vs) k=some y/\(x.owns=true->y.owns=true/\ag Os k=some y):=λk x e=>by
   rw[iH]at e;cases e1:ag cx k with
   |some z=>
    cases e2:ag Os k with
    |none=>rw[(ko k).2 e2]at e1;cases e1
    |some y=>exact⟨y,by rw[iH,e2],λ_=>⟨dX k y e2,rfl⟩⟩
   |none=>
    rw[e1]at e;have e2:=(ko k).1 e1;refine⟨x,by rw[iH,e2];exact e,λhx=>?_⟩;exact(Pw (qw k x e) hx).elim
  have aCe:∀ k x,ag (cx++Vs) k=some x->ι k=qO k:=λk x e=>by obtain⟨y,e1,_⟩:=Vg k x e;obtain⟨lc,q⟩:=aCb k y e1;rw[q,u7 k lc (lk k lc q)]
  have aLG:∀ k,k<next->∀ lc,qO k=some lc->ι k=some lc:=λk hk lc e=>by
   cases q:ι k with
   |some Ae=>have:=u7 k Ae (lk k Ae q);rw[e]at this;exact this.symm
   |none=>
    exfalso;have Ag:cc k=none:=by
     cases hc:cc k with
     |none=>rfl
     |some y=>obtain⟨Ae,q',_⟩:=hm.born k y hc;rw[q]at q';cases q'
    have wF:ag (Os++Vs) k=none:=by
     cases e1:ag (Os++Vs) k with
     |none=>rfl
     |some y=>rw[hL k y e1]at Ag;cases Ag
    have:c' k=none:=gN k hk (by unfold bA;rw[av o_,<-gP];simp only[wF,Ag,aCd])
    rw[bE.dF k this]at e;cases e
  have tn:=Py (Cq bE PB);have hDS:¬S w.heap.size:=λh=>by have:=(Vf _ h).1;omega
  have aCf:∀ b,b<w.heap.size+2->¬S b->b≠w.heap.size+1->W2.heap[b]?=W1.heap[b]?:=λb hb hs hl=>bE.base.2.2.2.2 b (by rw[aCa];exact hb) hs hl;have aWH:w.heap.size+2<=W2.heap.size:=by rw[<-aCa];exact bE.base.2.2.2.1
  have Lw:∀(o:Go.Obj) b,b≠w.heap.size+1->(W2.putObj (w.heap.size+1) o).heap[b]?=W2.heap[b]?:=λo b hb=>aB2 hb;have D5:∀ k,B.cU k->k≠w.heap.size:=λk hk=>by have:=B.lt w k hm.base hk;omega
  have Vh:∀ k F,ag (cx++Vs) k=some (.fact F)->F.rc=false:=λk F e=>by
   rw[iH]at e;cases e1:ag cx k with
   |some y=>rw[e1]at e;injection e with e;subst e;have:=tu k _ e1;cases this
   |none=>rw[e1]at e;exact Px (qw k _ e)
  have wm:∀ o:Go.Obj,aO (B.held w.heap.size) ι (λk=>match ag (cx++Vs) k with|some x=>some x|none=>(cc k).map λ_=>.dead) (W2.putObj (w.heap.size+1) o):=λo=>by
   refine PA (L:=cx++Vs) bE gV aCe (λk x lc e q ho=>?_) ⟨?_,?_⟩ (λk x b oo cap e hx hl hF=>?_) (by rw[vJ];exact bC _) (λk e=>?_) (λk x e=>?_) (λk F e hr=>by rw[Vh k F e]at hr;cases hr) (λk F v b e q hF=>?_) hm.pg
   ·exact Pz tn (ho.below aLG (dJ k x e)) (λF ef=>Vh k F (ef▸e)) (by rw[vJ];exact bC _) (λb _ _ _ _=>(Nat.decEq b (w.heap.size+1)).casesOn (λhb=>.inr (Lw o b hb)) λhb=>.inl hb) λF v b _ _ _=>(Nat.decEq b (w.heap.size+1)).casesOn (λhb=>.inr (Lw o b hb)) λhb=>.inl hb
   ·refine B.dep w _ hm.base ?_ ?_ ?_ ?_ λk hk=>?_
    ·exact bE.base.1.trans nB.os
    ·exact bE.base.2.1.trans nB.tape
    ·exact bE.base.2.2.1.trans nB.output
    ·rw[vJ];omega
    ·have hkl:=B.lt w k hm.base hk;rw[Lw o k o_,aCf k o_ (λhs=>(Vf k hs).2 hk) o_];exact nB.block k hkl
   ·rw[Lw o _ o_,aCf _ o_ hDS o_];exact hK1
   ·obtain⟨y,e1,e2⟩:=Vg k x e;obtain⟨hy,e3⟩:=e2 hx;have cB:ι k=some (.at b oo cap):=(aCe k x e).trans hl;have q:=hm.own k y b oo cap (hO k y e3) hy cB;rcases hF with hF|rfl
    ·exact q.2 hF
    ·omega
   ·split at e
    ·cases e
    ·cases hc:cc k with
     |none=>exact hm.dF k hc
     |some y=>rw[hc]at e;cases e
   ·split at e
    ·rename_i y hy;injection e with e;subst e;exact .inl hy
    ·cases hc:cc k with
     |none=>rw[hc]at e;cases e
     |some y=>
      rw[hc]at e;injection e with e;obtain⟨lc,q,_⟩:=hm.born k y hc;exact .inr ⟨e.symm,lc,q⟩
   ·obtain⟨lc,q1,v',q2,q3⟩:=bE.born k _ (gV k _ e);rw[q]at q1;injection q1 with q1;subst q1;injection q2 with q2;subst q2;refine(F.soft (Vh k F e) v W2 _ q3 (by rw[vJ];exact bC _) λk2 fP cs ty f hc=>?_).2 b hF;rw[Lw o k2 (λe=>by subst e;exact tn _ _ _ hc)];exact hc
  have fin:=hQ w.heap.size _ _ D5 (bC _) ⟨by show Gh _::a.defers=Gh _::B.ds;rw[hf.defers],hf.size,hf.slot⟩ (wm (.loop { D4 (j4 cS a.tmps ps iR fY w.heap.size) j with state:=.exhausted })) (λk x e=>by simp only[e]) (λk hk=>by
   have:ag (cx++Vs) k=none:=by
    cases e:ag (cx++Vs) k with
    |none=>rfl
    |some x=>obtain⟨y,e1,_⟩:=Vg k x e;have:=hL _ _ e1;rw[hu k hk]at this;cases this
   simp only[this,hu k hk,aCd])
  cases j with
  |none=>exact fin
  |some cj=>exact fin
theorem aCg{W:h_}(h:aO (B.held D) ι c W)(qv:∀ F,¬B.Fa F)(hD:∀ k,B.cU k->k≠D):aO B ι c (W.putObj D (.deferred none)):=by
 have tn:=aLq h.base.2;have ne:∀ b,b≠D->(W.putObj D (.deferred none)).heap[b]?=W.heap[b]?:=λb hb=>aB2 hb;refine⟨B.dep W _ h.base.1 ⟨rfl,bC _⟩ rfl rfl (by rw[vJ];exact bC _) λk hk=>ne k (hD k hk),h.dF,?_,?_,h.inj,?_,?_,h.fa,h.one,h.pg⟩
 ·intro k x hk;obtain⟨l,q1,q2⟩:=h.born k x hk;refine⟨l,q1,Pz tn q2 (λF e=>?_) (by rw[vJ];exact bC _) (λb _ _ _ _=>(Nat.decEq b D).casesOn (λhb=>.inr (ne b hb)) λhb=>.inl hb) λF v b _ _ _=>(Nat.decEq b D).casesOn (λhb=>.inr (ne b hb)) λhb=>.inl hb⟩;subst e;cases hr:F.rc with
  |false=>rfl
  |true=>exact absurd (h.fa k F hk hr) (qv F)
 ·intro k x b o cap hk hx hl;rw[vJ];exact⟨(h.own k x b o cap hk hx hl).1,λhF=>(h.own k x b o cap hk hx hl).2 (.inl hF)⟩
 ·intro k j x F b o cap v hk hx hl hj hv hF;obtain⟨lc,q1,v',q2,q3⟩:=h.born j _ hj;rw[hv]at q1;injection q1 with q1;subst q1;injection q2 with q2;subst q2;have hr:F.rc=false:=by
   cases hr:F.rc with
   |false=>rfl
   |true=>exact absurd (h.fa j F hj hr) (qv F)
  refine h.apart k j x F b o cap v hk hx hl hj hv ((F.soft hr v W _ q3 (by rw[vJ];exact bC _) λk2 fP cs ty f hc=>?_).2 b hF);rw[ne k2 (λe=>by subst e;exact tn _ _ _ hc)];exact hc
 ·intro k x b o cap hk hx hl;rw[vJ];exact h.seen k x b o cap hk hx hl
theorem aCh{c:Code}{fr:aX}{r:mQ}{v:i_}{R:Ending->World->Prop}(vA:∀ B,ai P B N c fr M next r)(hex:(match r.ex with|.exit _=>false|_=>true)=true)(hv:BI P fn r.fr r.M=some v)
  {ι:Map} {cc:g_} {a:Act} {w:h_} (hf:fR (B.held D) ι (bJ fr) N a) (hm:aO (B.held D) ι cc w) (ha:cY cc M) (hu:eF cc next) (nD:B.ds=[]) (qv:∀ F,¬B.Fa F) (hD:∀ k,B.cU k->k≠D)
  (hR:∀ az v' w',aK az v v'->B.G w'->R (.returned v') w'):c.wpIn (FW none) 0 P (bodyPostM (FW none) 0 P fn R) a w:=by
 refine vA _ none ι cc a w _ hf hm ha hu λaz cr a' w' hle xF bE jk _ _ _=>?_;have dH:=aCg bE qv hD;obtain⟨v',hc,qy⟩:=N1 (fn:=fn) (B:=B) (N:=N) (a:={ a' with defers:=[]}) ⟨nD.symm,xF.size,xF.slot⟩ dH jk hv;have hl:LeavesInM (FW none) 0 P fn a'.tmps R a'.defers .returning w':=by rw[xF.defers];show LeavesInM (FW none) 0 P fn a'.tmps R (Gh D::B.ds) .returning w';rw[nD];exact⟨λe=>(by cases e),.inl ⟨D,_,rfl,run_takeDeferred bE.base.2,v',qy,hR az v' _ hc dH.base⟩⟩
 cases hx:r.ex with
 |normal=>exact hl
 |ret=>exact hl
 |exit id=>rw[hx]at hex;cases hex
end
variable{k:Nat}{o:Oper}{fr:aX}{Os:aL}
def Ah:Code->Nat->Option Code
 |.region i ops d,k=>if Nat.beq i k then some (.region i ops d)else none
 |.seq x y,k=>match Ah x k with|some o=>some o|none=>Ah y k
 |.cond _ x y,k=>match Ah x k with|some o=>some o|none=>Ah y k
 |.block _ b,k=>Ah b k
 |.loop b,k=>Ah b k
 |.scope b,k=>Ah b k
 |.rangeFunc _ _ x y,k=>match Ah x k with|some o=>some o|none=>Ah y k
 |_,_=>none
def Ai(fn:Func)(k:Nat):Code:=match fn.body with|some c=>(match Ah c k with|some o=>o|none=>.skip)|none=>.skip
def D6:Code->Option Code
 |.seq x y=>match D6 x with|some o=>some o|none=>D6 y
 |.cond _ x y=>match D6 x with|some o=>some o|none=>D6 y
 |.block _ b=>D6 b
 |.loop b=>D6 b
 |.scope b=>D6 b
 |.rangeFunc g p x y=>some (.rangeFunc g p x y)
 |_=>none
def tz(fn:Func):Code:=match fn.body with|some c=>(match D6 c with|some o=>o|none=>.skip)|none=>.skip
def D7:Code->Code|.rangeFunc _ _ x _=>x|c=>c
def D8:Code->Code|.rangeFunc _ _ _ y=>y|c=>c
def cq(k:Nat):Value:=.pointer (some ⟨k,0,some 7⟩)
section
variable{P:j_}{B:aa}{N next:Nat}
theorem lT{L:aL}{p:Nat×Obj->Bool}(h:L.all p=true){x:Obj}(hk:ag L k=some x):p (k,x)=true:=bB.1 h _ (kD hk)
theorem Vi:∀{L:aL} {k:Nat},ag L k=none↔k∉L.map (·.1)
 |[],k=>by simp[ag]
 |(j,x)::L,k=>by
  by_cases h:j=k
  ·subst h;simp[ag]
  ·have e:ag ((j,x)::L) k=ag L k:=by show(if Nat.beq j k then _ else _)=_;rw[oQ h];rfl
   rw[e,Vi];simp[kR h]
theorem Aj{L L':aL}(h:L'.map (·.1)=L.map (·.1))(k:Nat):ag L' k=none↔ag L k=none:=by rw[Vi,Vi,h]
def mY(next:Nat)(p:Nat×Obj):Bool:=p.2.cells.all (om next)
theorem Ak{next:Nat}{p:Nat×Obj}(h:mY next p=true):fV next p.2:=λv hv=>bB.1 h v hv
theorem Lx{ps:Array Tmp}{iR fY:Code}{j:Option Code}(cR:eU.all flat=true)(hlen:eU.length=ps.size)(zv:(ps.toList.all λp=>Nat.blt p N)=true)
  (dJ:((Os++Vs).all λp=>Nat.blt p.1 next&&mY (next+1) p)=true) (Ly:(cx.all (mY (next+1)))=true) (dX:(Os.all λp=>p.2.owns)=true) (tu:(cx.all λp=>p.2.owns)=true) (qw:(Vs.all λp=>p.2.soft)=true) (ko:cx.map (·.1)=Os.map (·.1))
  {rA rB:mQ} (hA:∀ B,ai P B N iR (PC (ps.toList.zip eU) fr) (Os++Vs) (next+1) rA) (U8:rA.ex=.normal) (hAn:Nat.ble (next+1) rA.next=true) (PE:ag rA.M next=none)
  (hB:∀ B,ai P B N fY rA.fr rA.M rA.next rB) (U9:∀ k x,ag cx k=some x->ag rB.M k=some x) (Va:exJ rB.ex=j):Lp P next N ps iR fY fr Os Vs cx eU j where
 flat:=bB.1 cR
 len:=hlen
 jh p hp:=by have:=bB.1 zv p (by simpa using hp);simpa[BB]using this
 low k x h:=by have:=lT dJ h;simp only[dr,BB]at this;exact⟨this.1,Ak this.2⟩
 aB5 k x h:=Ak (lT Ly h)
 own k x h:=lT dX h
 aB6 k x h:=lT tu h
 view k x h:=lT qw h
 keys:=Aj ko
 run:=⟨rA,rB,hA,U8,sF hAn,PE,hB,U9,Va⟩
theorem aCi(du:bW (aK ι) args args')(hN:N=args.length+(fn.ntmps-args.length))(nD:B.ds=[]):
  fR B ι (bJ (jh 0 args)) N { tmps:=args'.toArray++Array.replicate (fn.ntmps-args'.toArray.size) undef,defers:=[]}:=by
 refine⟨nD.symm,by simp[hN,du.length],λt=>?_⟩;rcases N2 du 0 t (List.replicate (fn.ntmps-args'.length) undef)with h|h
 ·simp only[lM,rm,HL]at h;have e:(args'.toArray++Array.replicate (fn.ntmps-args'.toArray.size) undef).getD t undef=(args'++List.replicate (fn.ntmps-args'.length) undef).getD t undef:=by simp[qC,Ff,<-Array.getElem?_toList]
  dsimp only;rw[e];exact h
 ·exact .inl h
theorem aCj{v:i_}{R:Ending->World->Prop}(hv:BI P fn fr M=some v)
  {ι:Map} {cc:g_} {a:Act} {w:h_} (hf:fR (B.held D) ι (bJ fr) N a) (hm:aO (B.held D) ι cc w) (ha:cY cc M) (nD:B.ds=[]) (qv:∀ F,¬B.Fa F) (hD:∀ k,B.cU k->k≠D)
  (hR:∀ az v' w',aK az v v'->B.G w'->R (.returned v') w'):LeavesInM (FW none) 0 P fn a.tmps R a.defers .returning w:=by
 have dH:=aCg hm qv hD;obtain⟨v',hc,qy⟩:=N1 (fn:=fn) (B:=B) (N:=N) (a:={ a with defers:=[]}) ⟨nD.symm,hf.size,hf.slot⟩ dH ha hv;rw[hf.defers];show LeavesInM (FW none) 0 P fn a.tmps R (Gh D::B.ds) .returning w;rw[nD];exact⟨λe=>(by cases e),.inl ⟨D,_,rfl,run_takeDeferred hm.base.2,v',qy,hR ι v' _ hc dH.base⟩⟩
theorem aCk{c:Code}{v:i_}(hf:P.funcs[f]?=some fn)(hb:fn.body=some c)(hN:N=args.length+(fn.ntmps-args.length))(du:args.all flat=true)
  (h:∀ w a,fR (aa.at w) (λ_=>none) (bJ (jh 0 args)) N a->aO (aa.at w) (λ_=>none) (λ_=>none) w->c.wpIn (FW none) 0 P (bodyPostM (FW none) 0 P fn λe w'=>e=.returned v/\Below w.heap.size w w') a w):aF P f args v:=by
 intro w;rw[bB]at du;exact Kd.1 (callsIn_of_wp_marks (F:=FW none) (n:=0) hf hb trivial (h w _ (aCi (kO du) hN rfl) (rG w)))
theorem aCl{gf:FuncId}{cells:ak}{x:m_}(gW:P.follows .mixedOrders=true)(hf:P.funcs[f]?=some fn)(ho:dD o.op=some x)(e8:gO P f=true)(n:Nat)
  (rs:∀ w,bM P (aa.at w) (args.length+(fn.ntmps-args.length)))
  (h:∀ w,oq (gv (P:=P) fn n args [] 0 (rs w)) [(0,.aM cells ty)]=ou (gv fn n args [] 0 (rs w)) (.func (.func gf) #[] #[.pointer (some ⟨0,0,some 7⟩)]) [(0,.aM cells ty)]) (du:args.all flat=true) (cR:cells.all flat=true) :
  cI P B o (.func (.func f) #[] #[]::args) [(k,none)] (.func (.func gf) #[] #[.pointer (some ⟨k,0,some 7⟩)]) [(k,.aM cells ty)]:=by
 have:=jV (P:=P) (B:=B) (o:=o) (x:=x) (f:=f) (fi:=[]) (args:=args) (ca:=[]) (need:=[(k,none)]) (val:=.func (.func gf) #[] #[.pointer (some ⟨k,0,some 7⟩)]) (cZ:=[(k,.aM cells ty)]) ho e8 ?_
 ·simpa using this
 ·intro ι c w hm hn args' ha;have hk:c k=none:=hn (k,none) (aT ..);rw[bB]at du cR;have e:args'=args:=oc (by simpa using ha) du;subst e;refine sO gW hf rfl n (h w) (kO du) (rG w) n_ (λ_ _=>rfl) λaz cr v' w' _ hc bE dQ=>?_;obtain⟨kg,eh,rfl,h1,h2⟩:=hc.Bo;have h0:cr 0=some (.aM cells ty):=dQ (0,_) (aT ..);obtain⟨l,q1,b,bL,rfl,q2,q3⟩:=bE.born 0 _ h0;obtain⟨q4,q5⟩:=bE.own 0 _ b 0 0 h0 rfl q1;have hbn:w.heap.size<=b:=PH q5;have ec:bL=cells:=oc q2 cR;subst ec;have ef:kg=#[]:=by
   cases jA:kg.toList with
   |nil=>exact IX.1 jA
   |cons _ _=>rw[jA]at h1;cases h1
  subst ef;have fA:eh.toList=[.pointer (some ⟨b,0,none⟩)]:=by
   have h2:bW (aK az) [.pointer (some ⟨0,0,some 7⟩)] eh.toList:=h2;generalize eh.toList=l at h2;cases h2 with
   |cons p q=>
    cases q;obtain⟨b',o',aU,e1,e2⟩:=p.xt rfl;rw[q1]at e1;injection e1 with e1;injection e1 with e1 e3 _;subst e1;subst e3;rw[e2];simp
  have dH:=hm.new (k:=k) (x:=.aM bL ty) (l:=.at b 0 0) bE.base hk ⟨b,bL,rfl,kO cR,q3⟩ (λb' o' aU _ e=>by injection e with e _ _;subst e;exact⟨hbn,q4⟩) n_ rfl;refine⟨dS ι k (.at b 0 0),_,rfl,ij (hm.dF k hk),?_,dH⟩;refine .fn .nil ?_;rw[fA];exact .cons (.ptr (gg _ _ _)) .nil
theorem D9{gf:FuncId}{PI:Func}{W1 W:h_}{l:Nat}{S:Nat->Prop}{m:Map}{eh:ak}{M':aL}{v:i_}(gW:P.follows .mixedOrders=true)(hf:P.funcs[gf]?=some PI)
  (hN:N=(ca.length+1)+(PI.ntmps-(ca.length+1))) (n:Nat) {rs:bM P (k6 W1 l S m) N} (hm:aO (k6 W1 l S m) κ c W) (ha:cY c M) (hu:eF c (next+1)) (fA:bW (aK κ) ca eh)
  (h:oq (gv (P:=P) PI n (.func (.yield l) #[] #[]::ca) M (next+1) rs) M'=ou (gv PI n (.func (.yield l) #[] #[]::ca) M (next+1) rs) v M') :
  Calls P gf (.func (.yield l) #[] #[]::eh).toArray W λe W'=>∃ v qO c',e=.returned v/\Map.le κ qO/\aO (k6 W1 l S m) qO c' W'/\cY c' M'/\∀ k,k<next->c k=none->c' k=none:=by
 refine Ta gW hf (by simpa using hN) n h (.cons (.same rfl) fA) hm ha hu λaz cr v' w' hle hc bE dQ hk=>⟨v',az,cr,rfl,hle,bE,λk x e=>dQ (k,x) (kD e),λk gN Ag=>?_⟩;rw[hk k o_ (by
  cases e:ag M k with
  |none=>rfl
  |some x=>rw[ha k x e]at Ag;cases Ag)]
 exact Ag
end
end Go.Proofs.YtmocejjfkdcgkaaGreatDoor
