/- Area vectors of a solid's faces: the proof of MeasureClosedCardSaid (the law's function answers true at every record it can be given; theorem measureClosed_card, last part), part 2 of 7; no condition. -/
import Derived.Test.YthjhinbiabcfiaaGreatDoorCK1
namespace Go.Proofs.YthjhinbiabcfiaaGreatDoor
open Go Go.RowKit Tryz
abbrev q_:=List (Nat×Option Obj)
abbrev g_:=Nat->Option Obj
variable{i m k a q b j size e d off cc r cap L k1 n2 k2 D A m1 m2:Nat}{w w':h_}{ι κ aA bZ:Map}{o:Oper}{c:g_}{f:FuncId}{B:aa}{fr:aT}{M Os cz Vs ms:aM}{ty:TypeId}{xs args ca cells' args' eW post:ak}{fn:Func}{v' va res:i_}{P:j_}{z:Int}{σ:List (Option Nat)}{Q:Ending->World->Prop}{x1 x2:Obj}{cur:p_}
section
variable{P:j_}{B:aa}{N:Nat}
theorem jV.aJb{dO:Map}{w0 w1:h_}{l:pI}{x:Obj}(h0:jV aA w0 l x)(h1:jV bZ w1 l x)(vi:Map.le aA bZ)(Dr:Map.le aA dO):jV dO w1 l x:=by
 cases x with
 |aK cells ty=>
  obtain⟨b,cs,e1,e2,_⟩:=h0;obtain⟨b',cr,Ds,Dg,Dh⟩:=h1;rw[Ff Dg (ow vi e2)]at Dh;rw[e1]at Ds;injection Ds with Ds _ _;subst Ds;exact⟨b,cs,e1,ow Dr e2,Dh⟩
 |row cells ty size=>
  rcases h0 with h0|⟨b,cap,cur,e1,e2,e3,e4,e5⟩
  ·exact .inl h0
  ·rcases h1 with h1|⟨b',aQ,gp,Ds,Dg,Dh,e4',e5'⟩
   ·exact .inl h1
   ·refine .inr ⟨b',aQ,gp,Ds,Dg,Dh,e4',?_⟩;rw[Ff e5' (ow vi e5)];exact ow Dr e5
 |view cells=>
  rcases h0 with h0|⟨b,o,cap,cs,e1,e2,e3⟩
  ·exact .inl h0
  ·rcases h1 with h1|⟨b',o',aQ,cr,Ds,Dg,Dh⟩
   ·exact .inl h1
   ·refine .inr ⟨b',o',aQ,cr,Ds,?_,Dh⟩;rw[Ff Dg (ow vi e2)];exact ow Dr e2
 |fact F=>exact h1
 |dead=>trivial
def mg(ι:Map)(next:Nat)(σ:List (Option Nat)):Map:=λk=>if k<next then ι k else match σ[k-next]? with
 |some (some m)=>ι m
 |some none=>some .nil
 |none=>none
def BI(c0:g_)(next:Nat)(X:List Obj):g_:=λk=>if k<next then c0 k else X[k-next]?
def marks:Nat->List Obj->aM
 |_,[]=>[]
 |k,x::l=>(k,x)::marks (k+1) l
def dT:List (Option Nat)->List Obj->aM
 |some m::σ,x::l=>(m,x)::dT σ l
 |none::σ,_::l=>dT σ l
 |_,_=>[]
def Obj.isNil:Obj->Bool
 |.row [] _ _=>true
 |.view []=>true
 |_=>false
def xC(next:Nat)(σ:List (Option Nat)):Value->Value
 |.slice (some ad) n c=>if Nat.ble next ad.block&&mY ad then(match σ[ad.block-next]? with
   |some (some m)=>.slice (some ⟨m,ad.off,some 7⟩) n c
   |some none=>.slice none 0 0
   |none=>.slice (some ad) n c)else .slice (some ad) n c
 |v=>v
def HK(next:Nat)(σ:List (Option Nat)):Value->Bool
 |.slice (some ad) n c=>if Nat.ble next ad.block&&mY ad then(match σ[ad.block-next]? with
   |some (some _)=>true
   |some none=>Nat.beq ad.off 0&&(Nat.beq n 0&&Nat.beq c 0)
   |none=>false)else l5 next (.slice (some ad) n c)
 |v=>l5 next v
def gH(next:Nat)(σ:List (Option Nat))(fr:aT):aT:=fr.map λp=>(p.1,xC next σ p.2)
theorem Kv{next:Nat}(h:k<next):mg ι next σ k=ι k:=by unfold mg;rw[aB h]
theorem Tn{next:Nat}(h:σ[j]?=some (some m)):mg ι next σ (next+j)=ι m:=by unfold mg;rw[az o_,Fy,h]
theorem aAc{next:Nat}(h:σ[j]?=some none):mg ι next σ (next+j)=some .nil:=by unfold mg;rw[az o_,Fy,h]
theorem aAd{next:Nat}{v:i_}(aC:HK next σ v=true)(h:aL ι (xC next σ v) v'):aL (mg ι next σ) v v':=by
 have low:∀ k,k<next->∀ l,ι k=some l->mg ι next σ k=some l:=λk hk l e=>by rw[Kv hk];exact e
 have jJ:∀{v:i_},l5 next v=true->aL ι v v'->aL (mg ι next σ) v v':=λhb h=>h.low low hb;cases v with
 |slice oa n c=>
  cases oa with
  |none=>exact jJ aC h
  |some ad=>
   unfold HK at aC;unfold xC at h;dsimp only at aC h;split at aC
   ·rename_i hc;rw[aB hc]at h;simp only[de]at hc;have ga:=sE hc.1;obtain⟨j,hj⟩:∃ j,ad.block=next+j:=⟨ad.block-next,by omega⟩;have xz:ad.block-next=j:=by omega
    rw[xz]at aC h;have eta:=CZ hc.2;cases HL:σ[j]? with
    |none=>rw[HL]at aC;cases aC
    |some o=>
     cases o with
     |none=>
      rw[HL]at aC h;simp only[de]at aC;have h1:=k9 aC.1;have h2:=k9 aC.2.1;have h3:=k9 aC.2.2;rw[h.fD rfl,eta,h1,h2,h3,hj];exact .slcN (aAc HL)
     |some m=>
      rw[HL]at h;dsimp only at h;rw[eta,hj];rcases h.iC rfl with ⟨q1,q2,q3,q4,q5⟩|⟨b,o,cap,c',q1,q2,q3,q5⟩
      ·dsimp only at q1 q4;rw[q5,q2,q3,q4];exact .slcN (by rw[Tn HL];exact q1)
      ·dsimp only at q1 q5;rw[q5];exact .slc (by rw[Tn HL];exact q1) q2 q3
   ·rename_i hc;rw[az hc]at h;exact jJ aC h
 |_=>exact jJ aC h
theorem To:∀(X:List Obj) (next k:Nat),ai (marks next X) k=if k<next then none else X[k-next]?
 |[],next,k=>by unfold marks ai;split<;>simp
 |x::X,next,k=>by
  unfold marks ai;by_cases h:next=k
  ·subst h;have:Nat.beq next next=true:=Hu next;rw[aB this,az (Nat.lt_irrefl _),wi];rfl
  ·rw[oA h];simp only[vj,vk];rw[To X (next+1) k];by_cases h2:k<next
   ·rw[aB o_,aB h2]
   ·rw[az o_,az h2];obtain⟨d,rfl⟩:∃ d,k=next+1+d:=⟨k-next-1,by omega⟩;rw[Fy,show next+1+d-next=d+1 by omega];rfl
theorem aAe:∀{σ:List (Option Nat)} {X:List Obj} {j m:Nat} {x:Obj},σ[j]?=some (some m)->X[j]?=some x->(m,x)∈dT σ X
 |o::σ,y::X,0,m,x,h1,h2=>by simp at h1 h2;subst h1;subst h2;exact aR ..
 |o::σ,y::X,j+1,m,x,h1,h2=>by
  have:=aAe (σ:=σ) (X:=X) (j:=j) (by simpa using h1) (by simpa using h2);cases o with
  |none=>exact this
  |some q=>exact bI _ this
 |[],_,j,m,x,h1,_=>by simp at h1
 |_::_,[],j,m,x,_,h2=>by simp at h2
structure HM(M:aM)(next:Nat)(σ:List (Option Nat))(fr:aT)(F:aM)(X:List Obj):Prop where
 len:X.length=σ.length
 nodup:∀ i j m:Nat,σ[i]?=some (some m)->σ[j]?=some (some m)->i=j
 low:∀ i m:Nat,σ[i]?=some (some m)->m<next->ai F m=none/\ai M m≠none
 nil:∀(i:Nat) (x:Obj),σ[i]?=some none->X[i]?=some x->x.isNil=true
 jh:∀ p∈fr,HK next σ p.2=true
 keys:∀ p∈F,p.1<next/\ai M p.1≠none
 aJc:∀ p∈F,fE next p.2
 news:∀ x∈X,fE next x
theorem rename{c0 c1:g_}{w0 w1:h_}{next:Nat}{F:aM}{X:List Obj}(ok:HM M next σ fr F X)
  (h0:aO B aA c0 w0) (zO:eK c0 next) (nT:cY c0 M) (vi:Map.le aA bZ) (h1:aO B bZ c1 w1) (hF:cY c1 F) (hX:∀ p∈dT σ X,c1 p.1=some p.2) (hk:∀ k,k<next->ai M k=none->c1 k=c0 k) :
  ∃ c2,Map.le aA (mg bZ next σ)/\aO B (mg bZ next σ) c2 w1/\cY c2 (F++marks next X)/\eK c2 (next+X.length)/\(∀ k,k<next->ai M k=none->c2 k=c0 k):=by
 have Tp:∀ k l,aA k=some l->k<next:=λk l e=>by
  rcases e9 k next with h|h
  ·exact h
  ·rw[h0.dE k (zO k h)]at e;cases e
 have hle:Map.le aA (mg bZ next σ):=λk l e=>by rw[Kv (Tp k l e)];exact vi k l e
 have low:∀ k,k<next->∀ l,bZ k=some l->mg bZ next σ k=some l:=λk hk l e=>by rw[Kv hk];exact e
 -- the objects
 let cl:g_:=λk=>match ai F k with
  |some x=>some x
  |none=>match ai M k with
   |none=>c1 k
   |some _=>some .dead
 have iD:∀ k x,cl k=some x->(x=.dead/\ai M k≠none)\/(c1 k=some x/\(ai F k=some x\/(ai F k=none/\ai M k=none))):=by
  intro k x hx;have hx:(match ai F k with|some x=>some x|none=>match ai M k with|none=>c1 k|some _=>some Obj.dead)=some x:=hx;cases hf:ai F k with
  |some y=>rw[hf]at hx;injection hx with hx;subst hx;exact .inr ⟨hF k y hf,.inl rfl⟩
  |none=>
   rw[hf]at hx;dsimp only at hx;cases hm:ai M k with
   |none=>rw[hm]at hx;exact .inr ⟨hx,.inr ⟨rfl,rfl⟩⟩
   |some y=>rw[hm]at hx;injection hx with hx;exact .inl ⟨hx.symm,λe=>by cases e⟩
 have aJd:∀(j:Nat) (x:Obj),X[j]?=some x->(σ[j]?=some none/\x.isNil=true)\/∃ m,σ[j]?=some (some m)/\c1 m=some x:=by
  intro j x hx;have hj:j<σ.length:=by rw[<-ok.len];exact(dZ.1 hx).1
  cases hs:σ[j]? with
  |none=>rw[aAf]at hs;omega
  |some o=>
   cases o with
   |none=>exact .inl ⟨rfl,ok.nil j x hs hx⟩
   |some m=>exact .inr ⟨m,rfl,hX _ (aAe hs hx)⟩
 -- where a mark that is not dead comes from
 have src:∀ k x,BI cl next X k=some x->(x=.dead/\k<next/\ai M k≠none)\/(x.isNil=true/\mg bZ next σ k=some .nil/\¬k<next)\/
   ∃ m,c1 m=some x/\mg bZ next σ k=bZ m/\((k<next/\m=k/\(ai F k=some x\/(ai F k=none/\ai M k=none)))\/(¬k<next/\σ[k-next]?=some (some m)/\X[k-next]?=some x)):=by
  intro k x hx;unfold BI at hx;split at hx
  ·rename_i al;rcases iD k x hx with h|⟨h1,h2⟩
   ·exact .inl ⟨h.1,al,h.2⟩
   ·exact .inr (.inr ⟨k,h1,Kv al,.inl ⟨al,rfl,h2⟩⟩)
  ·rename_i ga;obtain⟨j,rfl⟩:∃ j,k=next+j:=⟨k-next,by omega⟩;rw[Fy]at hx ⊢;rcases aJd j x hx with ⟨h1,h2⟩|⟨m,h1,h2⟩
   ·exact .inr (.inl ⟨h2,aAc h1,ga⟩)
   ·exact .inr (.inr ⟨m,h2,Tn h1,.inr ⟨ga,h1,hx⟩⟩)
 have aVR:∀{x:Obj},x.isNil=true->∀ b o cap,mg bZ next σ=mg bZ next σ->(some pI.nil:Option pI)=some (.at b o cap)->False:=λ_ b o cap _ e=>by cases e
 -- an owner comes from an owner
 have own:∀ k x b o cap,BI cl next X k=some x->x.owns=true->mg bZ next σ k=some (.at b o cap)->∃ m,c1 m=some x/\bZ m=some (.at b o cap)/\((k<next/\m=k/\(ai F k=some x\/(ai F k=none/\ai M k=none)))\/(¬k<next/\σ[k-next]?=some (some m)/\X[k-next]?=some x)):=by
  intro k x b o cap hx ho hl;rcases src k x hx with ⟨rfl,_⟩|⟨_,h,_⟩|⟨m,h1,h2,h3⟩
  ·cases ho
  ·rw[h]at hl;cases hl
  ·exact⟨m,h1,by rw[<-h2];exact hl,h3⟩
 have view:∀ k x b o cap,BI cl next X k=some x->x.kh=true->mg bZ next σ k=some (.at b o cap)->∃ m,c1 m=some x/\bZ m=some (.at b o cap):=by
  intro k x b o cap hx ho hl;rcases src k x hx with ⟨rfl,_⟩|⟨_,h,_⟩|⟨m,h1,h2,h3⟩
  ·cases ho
  ·rw[h]at hl;cases hl
  ·exact⟨m,h1,by rw[<-h2];exact hl⟩
 refine⟨BI cl next X,hle,⟨h1.base,?_,?_,?_,?_,?_,?_,?_,?_,h0.oT.trans hle⟩,?_,?_,?_⟩
 ·intro k hk;unfold BI at hk;split at hk
  ·rename_i al;rw[Kv al];have hk:(match ai F k with|some x=>some x|none=>match ai M k with|none=>c1 k|some _=>some Obj.dead)=none:=hk;cases hf:ai F k with
   |some y=>rw[hf]at hk;cases hk
   |none=>
    rw[hf]at hk;dsimp only at hk;cases hm:ai M k with
    |none=>rw[hm]at hk;exact h1.dE k hk
    |some y=>rw[hm]at hk;cases hk
  ·rename_i ga;unfold mg;rw[az ga];have:σ[k-next]?=none:=by rw[aAf]at hk ⊢;rw[<-ok.len];exact hk
   rw[this]
 ·intro k x hx;rcases src k x hx with ⟨rfl,al,hM⟩|⟨hn,h,_⟩|⟨m,q1,q2,q3⟩
  ·cases hm:ai M k with
   |none=>exact absurd hm hM
   |some y=>
    obtain⟨l,e1,_⟩:=h0.born k y (nT k y hm);exact⟨l,hle k l e1,trivial⟩
  ·refine⟨.nil,h,?_⟩;cases x with
   |row cells ty size=>cases cells with
    |nil=>exact .inl ⟨rfl,rfl⟩
    |cons _ _=>cases hn
   |view cells=>cases cells with
    |nil=>exact .inl ⟨rfl,rfl⟩
    |cons _ _=>cases hn
   |_=>cases hn
  ·obtain⟨l,e1,e2⟩:=h1.born m x q1;refine⟨l,by rw[q2];exact e1,?_⟩;rcases q3 with ⟨al,rfl,h|⟨hf,hm⟩⟩|⟨ga,hs,xD⟩
   ·exact e2.below low (ok.aJc _ (kE h))
   ·have e:=hk m al hm;rw[q1]at e;obtain⟨l',f1,f2⟩:=h0.born m x e.symm;have:=vi m l' f1;rw[e1]at this;injection this with this;subst this;exact f2.aJb e2 vi hle
   ·exact e2.below low (ok.news _ (cL xD))
 ·intro k x b o cap hx ho hl;obtain⟨m,q1,q2,_⟩:=own k x b o cap hx ho hl;exact h1.own m x b o cap q1 ho q2
 ·intro k j x y b o cap o' aQ hx ES hy EV hl cA;obtain⟨m,q1,q2,q3⟩:=own k x b o cap hx ES hl;obtain⟨m',Be,q2',qE⟩:=own j y b o' aQ hy EV cA;have e:=h1.inj m m' x y b o cap o' aQ q1 ES Be EV q2 q2';subst e;have Kw:∀ k j x y,(k<next/\m=k/\(ai F k=some x\/(ai F k=none/\ai M k=none)))->(¬j<next/\σ[j-next]?=some (some m)/\X[j-next]?=some y)->False:=by
   rintro k j x y ⟨al,rfl,h⟩ ⟨_,hs,_⟩
   obtain⟨p1,p2⟩:=ok.low _ _ hs al;rcases h with h|h
   ·rw[p1]at h;cases h
   ·exact p2 h.2
  rcases q3 with q3|q3<;>rcases qE with qE|qE
  ·rw[<-q3.2.1,qE.2.1]
  ·exact(Kw _ _ _ _ q3 qE).elim
  ·exact(Kw _ _ _ _ qE q3).elim
  ·have:=ok.nodup _ _ _ q3.2.1 qE.2.1;have:=q3.1;have:=qE.1;omega
 ·intro k j x F' b o cap v hx ES hl hj hv hf;obtain⟨m,q1,q2,_⟩:=own k x b o cap hx ES hl;rcases src j (.fact F') hj with ⟨e,_⟩|⟨hn,_⟩|⟨m',p1,p2,_⟩
  ·cases e
  ·cases hn
  ·exact h1.apart m m' x F' b o cap v q1 ES q2 p1 (by rw[<-p2];exact hv) hf
 ·intro k x b o cap hx Kx hl;obtain⟨m,q1,q2⟩:=view k x b o cap hx Kx hl;obtain⟨p1,p2⟩:=h1.seen m x b o cap q1 Kx q2;refine⟨p1,λj y o' aQ hy EV hj=>?_⟩;obtain⟨m',s1,s2,_⟩:=own j y b o' aQ hy EV hj;exact p2 m' y o' aQ s1 EV s2
 ·intro j F' hj;rcases src j (.fact F') hj with ⟨e,_⟩|⟨hn,_⟩|⟨m',p1,_,_⟩
  ·cases e
  ·cases hn
  ·exact h1.fa m' F' p1
 ·intro k j F' F'' hx hy hr sD;rcases src k (.fact F') hx with ⟨e,_⟩|⟨hn,_⟩|⟨m,q1,q2,q3⟩
  ·cases e
  ·cases hn
  rcases src j (.fact F'') hy with ⟨e,_⟩|⟨hn,_⟩|⟨m',Be,q2',qE⟩
  ·cases e
  ·cases hn
  have e:=h1.one m m' F' F'' q1 Be hr sD;subst e;have Kw:∀ k j x y,(k<next/\m=k/\(ai F k=some x\/(ai F k=none/\ai M k=none)))->(¬j<next/\σ[j-next]?=some (some m)/\X[j-next]?=some y)->False:=by
   rintro k j x y ⟨al,rfl,h⟩ ⟨_,hs,_⟩
   obtain⟨p1,p2⟩:=ok.low _ _ hs al;rcases h with h|h
   ·rw[p1]at h;cases h
   ·exact p2 h.2
  rcases q3 with q3|q3<;>rcases qE with qE|qE
  ·rw[<-q3.2.1,qE.2.1]
  ·exact(Kw _ _ _ _ q3 qE).elim
  ·exact(Kw _ _ _ _ qE q3).elim
  ·have:=ok.nodup _ _ _ q3.2.1 qE.2.1;have:=q3.1;have:=qE.1;omega
 ·intro k x hx;rw[iE]at hx;unfold BI;cases hf:ai F k with
  |some y=>
   rw[hf]at hx;injection hx with hx;subst hx;have al:=(ok.keys _ (kE hf)).1;dsimp only at al;rw[aB al];show(match ai F k with|some x=>some x|none=>match ai M k with|none=>c1 k|some _=>some Obj.dead)=some y;rw[hf]
  |none=>
   rw[hf]at hx;dsimp only at hx;rw[To]at hx;by_cases al:k<next
   ·rw[aB al]at hx;cases hx
   ·rw[az al]at hx ⊢;exact hx
 ·intro k gL;unfold BI;rw[az o_,aAf];omega
 ·intro k al hm;unfold BI;rw[aB al];show(match ai F k with|some x=>some x|none=>match ai M k with|none=>c1 k|some _=>some Obj.dead)=c0 k;cases hf:ai F k with
  |some y=>exact absurd hm (ok.keys _ (kE hf)).2
  |none=>rw[hm];exact hk k al hm
theorem aJe{Bq:aT}{a:Act}{next:Nat}(hf:fQ B ι (bK Bq) N a)(aC:∀ p∈fr,HK next σ p.2=true)(h:∀ p∈gH next σ fr,bK Bq p.1=p.2)(BJ:∀ p∈fr,mZ (xC next σ p.2)=false):
  fQ B (mg ι next σ) (bK fr) N a:=by
 refine⟨hf.defers,hf.size,λt=>?_⟩;have key:∀(l:aT),(∀ p∈l,p∈fr)->nO (mg ι next σ) (bK l t) (a.tmps.getD t undef):=by
  intro l;induction l with
  |nil=>intro _;exact .inl rfl
  |cons p l ih=>
   intro hl;obtain⟨s,v⟩:=p;show nO _ (if Nat.beq s t then v else bK l t) _;by_cases hs:Nat.beq s t=true
   ·rw[aB hs];have hm:=hl _ (aR ..);have h1:=h (s,xC next σ v) (db.2 ⟨(s,v),hm,rfl⟩);dsimp only at h1;have e:=k9 hs;subst e;have h2:=hf.slot s;rw[h1]at h2;exact .inr (aAd (aC _ hm) (h2.Bc (BJ _ hm)))
   ·rw[az hs];exact ih λq hq=>hl q (bI _ hq)
 exact key fr λ_ h=>h
theorem Tq:∀{σ:List (Option Nat)} {X:List Obj} {m:Nat} {x:Obj},(∀ i j m:Nat,σ[i]?=some (some m)->σ[j]?=some (some m)->i=j)->(m,x)∈dT σ X->ai (dT σ X) m=some x
 |[],_,m,x,_,h=>by simp[dT]at h
 |none::_,[],m,x,_,h=>by simp[dT]at h
 |some _::_,[],m,x,_,h=>by simp[dT]at h
 |none::σ,y::X,m,x,hn,h=>Tq (σ:=σ) (X:=X) (λi j m h1 h2=>by have:=hn (i+1) (j+1) m (by simpa using h1) (by simpa using h2);omega) h
 |some q::σ,y::X,m,x,hn,h=>by
  have oV:∀ i j m:Nat,σ[i]?=some (some m)->σ[j]?=some (some m)->i=j:=λi j m h1 h2=>by have:=hn (i+1) (j+1) m (by simpa using h1) (by simpa using h2);omega
  show(if Nat.beq q m then some y else ai (dT σ X) m)=some x;rcases cD.1 h with e|h'
  ·injection e with e1 e2;subst e1;subst e2;rw[aB (Hu m)]
  ·have bw:q≠m:=by
    rintro rfl
    have idx:∀{σ:List (Option Nat)} {X:List Obj},(q,x)∈dT σ X->∃ j:Nat,σ[j]?=some (some q):=by
     intro σ;induction σ with
     |nil=>intro X h;simp[dT]at h
     |cons o σ ih=>
      intro X h;cases X with
      |nil=>cases o<;>simp[dT]at h
      |cons z X=>
       cases o with
       |none=>obtain⟨j,hj⟩:=ih (X:=X) h;exact⟨j+1,by simpa using hj⟩
       |some t=>
        rcases cD.1 h with e|h
        ·injection e with e1 _;exact⟨0,by simp[e1]⟩
        ·obtain⟨j,hj⟩:=ih (X:=X) h;exact⟨j+1,by simpa using hj⟩
    obtain⟨j,hj⟩:=idx h';have:=hn 0 (j+1) q s_ (by simpa using hj);omega
   rw[oA bw];simp only[vj,vk];exact Tq oV h'
theorem Tr:∀{σ:List (Option Nat)} {X:List Obj} {m:Nat} {x:Obj},(m,x)∈dT σ X->∃ j:Nat,σ[j]?=some (some m)
 |[],_,_,_,h=>by simp[dT]at h
 |none::_,[],_,_,h=>by simp[dT]at h
 |some _::_,[],_,_,h=>by simp[dT]at h
 |none::σ,_::X,_,_,h=>by obtain⟨j,hj⟩:=Tr (σ:=σ) (X:=X) h;exact⟨j+1,by simpa using hj⟩
 |some t::σ,_::X,m,x,h=>by
  rcases cD.1 h with e|h
  ·injection e with e1 _;exact⟨0,by simp[e1]⟩
  ·obtain⟨j,hj⟩:=Tr (σ:=σ) (X:=X) h;exact⟨j+1,by simpa using hj⟩
theorem HM.agr{next:Nat}{F:aM}{X:List Obj}(ok:HM M next σ fr F X)(h:cY c (F++dT σ X)):
  cY c F/\∀ p∈dT σ X,c p.1=some p.2:=by
 refine⟨λk x hx=>h k x (by rw[iE,hx]),λp hp=>?_⟩;obtain⟨m,x⟩:=p;have hf:ai F m=none:=by
  obtain⟨j,hj⟩:=Tr hp;rcases e9 m next with al|ga
  ·exact(ok.low j m hj al).1
  ·cases hF:ai F m with
   |none=>rfl
   |some y=>have:=(ok.keys _ (kE hF)).1;dsimp only at this;omega
 exact h m x (by rw[iE,hf];exact Tq ok.nodup hp)
theorem aJf{a:Act}{next:Nat}(hf:fQ B ι (bK (gH next σ fr)) N a)(aC:∀ p∈fr,HK next σ p.2=true)(BJ:∀ p∈fr,mZ (xC next σ p.2)=false):
  fQ B (mg ι next σ) (bK fr) N a:=by
 refine⟨hf.defers,hf.size,λt=>?_⟩;have key:∀(l:aT),(∀ p∈l,p∈fr)->nO ι (bK (gH next σ l) t) (a.tmps.getD t undef)->nO (mg ι next σ) (bK l t) (a.tmps.getD t undef):=by
  intro l;induction l with
  |nil=>intro _ _;exact .inl rfl
  |cons p l ih=>
   intro hl h;obtain⟨s,v⟩:=p;have h:nO ι (if Nat.beq s t then xC next σ v else bK (gH next σ l) t) (a.tmps.getD t undef):=h;show nO _ (if Nat.beq s t then v else bK l t) _;by_cases hs:Nat.beq s t=true
   ·rw[aB hs]at h ⊢;have hm:=hl _ (aR ..);exact .inr (aAd (aC _ hm) (h.Bc (BJ _ hm)))
   ·rw[az hs]at h ⊢;exact ih (λq hq=>hl q (bI _ hq)) h
 exact key fr (λ_ h=>h) (hf.slot t)
theorem aJg{b:Code}{next p:Nat}{r:mF}(n:Nat)(I:Nat->aT)(F:Nat->aM)(X:Nat->List Obj)(hp:∀ i,i<=n->(X i).length=p)
  (start:∃ σ,HM M next σ (I 0) (F 0) (X 0)/\(∀ q∈I 0,mZ (xC next σ q.2)=false)/\(∀ q∈gH next σ (I 0),bK fr q.1=q.2)/\(∀ k x,ai (F 0++dT σ (X 0)) k=some x->ai M k=some x))
  (body:∀ i,i<n->∃ σ gN,HM M next σ (I (i+1)) (F (i+1)) (X (i+1))/\(∀ q∈I (i+1),mZ (xC next σ q.2)=false)/\ah P B N b (I i) (F i++marks next (X i)) (next+p) ⟨.normal,gH next σ (I (i+1)),F (i+1)++dT σ (X (i+1)),gN⟩)
  (last:ah P B N b (I n) (F n++marks next (X n)) (next+p) r) (hr:r.ex≠.normal):ah P B N (.loop b) fr M next r:=by
 intro R ui c0 a0 w0 Q Br kD nT zO hQ;refine SN (n+1) ?_;have key:∀ d i,i+d=n->∀(bZ:Map) (c1:g_) (a1:Act) (w1:h_),Map.le ui bZ->fQ B bZ (bK (I i)) N a1->aO B bZ c1 w1->cY c1 (F i++marks next (X i))->eK c1 (next+p)->
   (∀ k,k<next->ai M k=none->ai (F i) k=none)->(∀ k,k<next->ai M k=none->c1 k=c0 k)->
   (∀ t,uZ (.loop b) t=false->a1.tmps.getD t undef=a0.tmps.getD t undef)->Code.roundsIn (FW R) 0 P b Q (d+1) a1 w1:=by
  have uY:∀(i k:Nat),k<next->ai M k=none->ai (F i) k=none->ai (F i++marks next (X i)) k=none:=λi k hk _ hf=>by rw[iE,hf];dsimp only;rw[To,aB hk]
  intro d;induction d with
  |zero=>
   intro i hi bZ c1 a1 w1 jv iG c7 eL dS Ts iq iZ;have:i=n:=by omega
   subst this;rw[Fc];refine last R bZ c1 a1 w1 _ iG c7 eL dS λdO c2 a2 w2 lf je dI gR e8 fO oD=>?_;have:=hQ dO c2 a2 w2 (jv.trans lf) je dI gR e8 (λk hk h0=>(fO k o_ (uY i k hk h0 (Ts k hk h0))).trans (iq k hk h0)) λt ht=>(oD t ht).trans (iZ t ht);show Exit.then _ Q r.ex.Bk a2 w2;cases hx:r.ex with
   |normal=>exact absurd hx hr
   |exit id=>rw[hx]at this;exact this
   |ret=>rw[hx]at this;exact this
  |succ d ih=>
   intro i hi bZ c1 a1 w1 jv iG c7 eL dS Ts iq iZ;rw[Fc];obtain⟨σ,gN,ok,BJ,hb⟩:=body i o_;refine hb R bZ c1 a1 w1 _ iG c7 eL dS λdO c2 a2 w2 lf je dI gR e8 fO oD=>?_;obtain⟨q1,q2⟩:=ok.agr gR;have gL:∀ k,k<next->ai M k=none->c2 k=c0 k:=λk hk h0=>(fO k o_ (uY i k hk h0 (Ts k hk h0))).trans (iq k hk h0);obtain⟨c3,e1,e2,e3,e4,e5⟩:=rename ok kD zO nT (jv.trans lf) dI q1 q2 gL;rw[hp (i+1) o_]at e4;refine ih (i+1) o_ _ c3 a2 w2 e1 (aJf je ok.jh BJ) e2 e3 e4 (λk hk h0=>?_) e5 λt ht=>(oD t ht).trans (iZ t ht);cases hF:ai (F (i+1)) k with
   |none=>rfl
   |some y=>exact absurd h0 (ok.keys _ (kE hF)).2
 obtain⟨σ,ok,BJ,nk,hM⟩:=start;obtain⟨q1,q2⟩:=ok.agr (c:=c0) λk x hx=>nT k x (hM k x hx);obtain⟨c3,e1,e2,e3,e4,e5⟩:=rename ok kD zO nT (Map.le.refl _) kD q1 q2 (λ_ _ _=>rfl);rw[hp 0 o_]at e4;refine key n 0 o_ _ c3 a0 w0 e1 (aJe Br ok.jh nk BJ) e2 e3 e4 (λk hk h0=>?_) e5 λ_ _=>rfl;cases hF:ai (F 0) k with
 |none=>rfl
 |some y=>exact absurd h0 (ok.keys _ (kE hF)).2
end
def gT(n a:Nat):List UInt8:=(List.range n).map λi=>UInt8.ofNat (a/256^(n-1-i)%256)
theorem Ky(n a:Nat):(gT n a).length=n:=by simp[gT]
theorem xE(n a:Nat):gT (n+1) a=UInt8.ofNat (a/256^n%256)::gT n a:=by
 unfold gT;rw[List.range_succ_eq_map,oZ,Tt]
 congr 1
 refine xj λi hi=>?_;have hi:=ki.1 hi;show UInt8.ofNat (a/256^(n+1-1-(i+1))%256)=_;rw[show n+1-1-(i+1)=n-1-i by omega]
theorem N9(a:Nat):gT 0 a=[]:=rfl
theorem aAg(n a m:Nat)(h:n<=m):gT n (a%256^m)=gT n a:=by
 unfold gT;refine xj λi hi=>?_;have hi:=ki.1 hi
 congr 1
 obtain⟨s,hs⟩:∃ s,m=(n-1-i)+1+s:=⟨m-(n-1-i)-1,by omega⟩;have e:256^m=256^(n-1-i)*(256*256^s):=by rw[hs,eU,dH,gh]
 rw[e,BC,Kp]
theorem aAh(m n a:Nat):gT (m+n) a=gT m (a/256^n)++gT n a:=by
 induction m with
 |zero=>simp[N9]
 |succ m ih=>
  rw[show m+1+n=(m+n)+1 by omega,xE,xE,ih,Dt,lg,<-eU,nr n m]
theorem aJh(n a:Nat):gv (gT n a)=a%256^n:=by
 induction n with
 |zero=>simp[N9,gv,uf]
 |succ n ih=>
  rw[xE,Ko,ih,Ky];have h1:(UInt8.ofNat (a/256^n%256)).toNat=a/256^n%256:=by rw[Oa];exact dW (cP _ d_)
  rw[h1,dH,NM,cX (256^n),nr]
def cM(a:Nat):List UInt8:=gT (nd 256 a) a
theorem Fz(a:Nat):gv (cM a)=a:=by unfold cM;rw[aJh,dW (eB d_ a)]
theorem Du:cM 0=[]:=by unfold cM;rw[oG];rfl
theorem uj(a:Nat):(cM a).length=nd 256 a:=Ky _ _
theorem aJi:cM a=[]↔a=0:=by
 constructor
 ·intro h;have:=Fz a;rw[h]at this;exact this.symm
 ·rintro rfl;exact Du
theorem aJj(h:cM a=cM b):a=b:=by rw[<-Fz a,h,Fz]
theorem Ob(h:a≠0):∃ c l,cM a=c::l/\c≠0:=by
 have hp:=xq (B:=256) d_ h;obtain⟨n,hn⟩:∃ n,nd 256 a=n+1:=⟨nd 256 a-1,by omega⟩;have al:=eB (B:=256) d_ a;rw[hn]at al;refine⟨_,_,by unfold cM;rw[hn,xE],λe=>?_⟩;have h1:(UInt8.ofNat (a/256^n%256)).toNat=a/256^n%256:=by rw[Oa];exact dW (cP _ d_)
 rw[e]at h1;have h2:a<256^n:=(Hy d_ al).1 h1.symm;have:=jw (B:=256) d_ h2;omega
theorem aJk(k:Nat)(l:List UInt8):j4 (List.replicate k 0++l)=k+j4 l:=by
 induction k with
 |zero=>simp
 |succ k ih=>
  have e:j4 (0::(List.replicate k 0++l))=j4 (List.replicate k 0++l)+1:=rfl;rw[List.replicate_succ,Dt,e,ih];omega
theorem aAi{n:Nat}(h:a<256^n):gT (k+n) a=List.replicate k 0++gT n a:=by
 rw[aAh,mH h]
 congr 1
 induction k with
 |zero=>rfl
 |succ k ih=>rw[xE,ih,List.replicate_succ,Nat.zero_div];rfl
theorem aJl{n:Nat}(h:a<256^n):Kr (gT n a)=cM a:=by
 have hle:=jw (B:=256) d_ h;obtain⟨k,hk⟩:∃ k,n=k+nd 256 a:=⟨n-nd 256 a,by omega⟩;have hz:j4 (gT (nd 256 a) a)=0:=by
  by_cases h0:a=0
  ·subst h0;rw[oG];rfl
  ·obtain⟨c,l,e,hc⟩:=Ob h0;unfold cM at e;rw[e];unfold j4;rw[az hc]
 unfold Kr;rw[hk,aAi (eB d_ a),aJk,hz,jg,List.drop_append_of_le_length s_];simp[cM]
theorem aAj{c:UInt8}{l:List UInt8}(h:c≠0):256^l.length<=gv (c::l):=by
 rw[Ko];have:1<=c.toNat:=by
  rcases nU c.toNat with e|e
  ·exact absurd (N3.1 (by rw[e];rfl)) h
  ·exact e
 have:=eE (256^l.length) this;omega
theorem aJm{l:List UInt8}(h:∀ c r,l=c::r->c≠0):cM (gv l)=l:=by
 have hlen:nd 256 (gv l)=l.length:=by
  refine aAk (jw d_ (BB l)) ?_;cases l with
  |nil=>simp
  |cons c r=>
   have h1:=aAj (l:=r) (h c r rfl);rcases e9 (nd 256 (gv (c::r))) (r.length+1)with h2|h2
   ·have h3:=eB (B:=256) d_ (gv (c::r));have h4:256^nd 256 (gv (c::r))<=256^r.length:=di d_ o_;omega
   ·exact h2
 unfold cM;rw[hlen];clear hlen h;induction l with
 |nil=>rfl
 |cons c r ih=>
  have hv:=BB r;have hp:0<256^r.length:=cO d_;rw[qm,xE,Ko]
  congr 1
  ·rw[nr,pN _ _ hp,mH hv,kB];have hc:c.toNat<256:=c.toNat_lt;rw[dW hc];simp
  ·rw[<-aAg _ _ _ (bF r.length),nr,Dv,dW hv,ih]
theorem aJn(d:Nat):gT 4 d=[UInt8.ofNat (d/16777216%256),UInt8.ofNat (d/65536%256),UInt8.ofNat (d/256%256),UInt8.ofNat (d%256)]:=by rw[xE,xE,xE,xE,N9];simp
section
variable{P:j_}{B:aa}{N:Nat}
def aY.mkc(fn:Func)(key k cp e size bytes:Nat)(z:i_)(hb:bytes*cp<=281474976710656)(hn:cp<=maxLen)(ho:NJ P (au fn key)=some (e,size,bytes,z)):aY P B N:=
 .step key (au fn key) [vI 0,vI cp] [(k,none)] (.slice (some ⟨k,0,some 7⟩) 0 0) [(k,.row [] e size)] (by
  unfold NJ at ho;split at ho
  ·rename_i t a b ck;split at ho
   ·rename_i e' ht;split at ho
    ·rename_i i hi;split at ho
     ·rename_i z' ox;injection ho with ho;injection ho with h1 ho;injection ho with h2 ho;injection ho with h3 h4;subst h1;subst h4;have:=YJ (P:=P) (B:=B) ck ht hi ox (kl:=.i64) (kc:=.i64) (l:=0) (cp:=cp) (lG _) (by rw[h3];exact hb) hn (cells:=[]) (by rw[kQ,aAl]) s_ n_ k;rw[h2]at this;exact this.step
     ·cases ho
    ·cases ho
   ·cases ho
  ·cases ho)
def aY.pP(fn:Func)(key k j n m nm e size bytes:Nat)(cells:ak)(q:Nat)(x:Obj)(new:ak)(kF:n+m=nm)(hx:x.reads=true)(hlen:x.cells.length=m*size)(jt:cells.length=n*size)(lE:cells++x.cells=new)
  (h1:∀ v∈x.cells,v.oneCell'=true) (bH:0<size) (h63:nm<=maxLen) (hb:nm*bytes<=140737488355328) (ho:Fx P (au fn key)=some (e,size,bytes,size,true)):aY P B N:=
 .step key (au fn key) [.slice (some ⟨j,0,some 7⟩) n 0,.slice (some ⟨q,0,some 7⟩) m 0] [(k,none),(j,some (.row cells e size)),(q,some x)] (.slice (some ⟨k,0,some 7⟩) nm 0) [(k,.row new e size),(j,.dead)] (by
  subst kF;have hs:CX B (.slice (some ⟨q,0,some 7⟩) m 0) m x.cells [(q,some x)]:=by have:=M9 (B:=B) (k:=q) (off:=0) (m:=m) (cc:=0) hx (len:=m*size) (λh=>by rw[h,kQ]);rw[mI,kG (vT hlen)]at this;exact this
  have:=aAa (B:=B) ho bH hs hlen h1 (j:=j) (n:=n) (cells:=cells) (vT jt.symm) h63 hb k;rw[kG (vT jt),lE]at this;exact this)
def hY(l:List UInt8):ak:=l.map λc=>.int .u8 (c.toNat:Int)
theorem aJo(l:List UInt8):∀ u∈hY l,flat u=true:=λu hu=>by obtain⟨x,_,rfl⟩:=db.1 hu;rfl
theorem aAm(l:List UInt8):∀ acc:List UInt8,(l.map λc=>(c.toNat:Int)).foldl (λ(r:ByteArray) (n:Int)=>r.push (UInt8.ofNat n.toNat)) (BA acc)=BA (acc++l):=by
 induction l with
 |nil=>intro acc;simp
 |cons c l ih=>
  intro acc;rw[oZ,v8];have e:(BA acc).push (UInt8.ofNat ((c.toNat:Int)).toNat)=BA (acc++[c]):=by unfold BA;simp[ByteArray.push]
  rw[e,ih,E9];rfl
def Oc(P:j_)(o:Oper):Bool:=match o.op with
 |.convert src dst _=>match P.underlying src,P.underlying dst with
  |some (.slice e),some .string=>(match P.underlying e with|some (.int .u8)=>true|_=>false)
  |_,_=>false
 |_=>false
def aY.Tu(fn:Func)(key k n:Nat)(l:List UInt8)(x:Obj)(hx:x.reads=true)(hc:x.cells=hY l)(hn:l.length=n)(ho:Oc P (au fn key)=true):aY P B N:=
 .step key (au fn key) [.slice (some ⟨k,0,some 7⟩) n 0] [(k,some x)] (.string (BA l)) [] (by
  unfold Oc at ho;split at ho
  ·rename_i src dst y ck;split at ho
   ·rename_i e hs hd;split at ho
    ·rename_i he;have:=YL (P:=P) (B:=B) ck hs he hd (k:=k) (off:=0) (n:=n) (cc:=0) (y:=x) (ns:=l.map λc=>(c.toNat:Int)) hx (by rw[hc,mI,kG (by simp[hY,hn])];simp[hY,Function.comp_def]) (by simpa using hn)
     have e2:=aAm l [];rw[ju]at e2;rw[show ByteArray.empty=BA []from rfl,e2]at this;exact this.step
    ·cases ho
   ·cases ho
  ·cases ho)
end
section
variable{P:j_}{B:aa}{N:Nat}
theorem HN{x:Obj}(h:∀ u∈x.cells,flat u=true):fE m x:=λu hu=>iH (h u hu)
def HO:List (Option Nat)->Bool
 |[]=>true
 |none::l=>HO l
 |some m::l=>(l.all λo=>match o with|some k=>!Nat.beq m k|none=>true)&&HO l
theorem aAn:∀{σ:List (Option Nat)},HO σ=true->∀ i j m:Nat,σ[i]?=some (some m)->σ[j]?=some (some m)->i=j
 |[],_,i,j,m,h,_=>by simp at h
 |o::l,h,i,j,m,h1,h2=>by
  have hl:HO l=true/\∀ k,o=some k->∀ j:Nat,l[j]?≠some (some k):=by
   cases o with
   |none=>exact⟨h,λk e=>by cases e⟩
   |some q=>
    simp only[HO,de,bB]at h;refine⟨h.2,λk e j hj=>?_⟩;injection e with e;subst e;have:=h.1 _ (cL hj);simp at this
  cases i with
  |zero=>
   cases j with
   |zero=>rfl
   |succ j=>
    simp at h1 h2;exact absurd h2 (hl.2 m h1 j)
  |succ i=>
   cases j with
   |zero=>
    simp at h1 h2;exact absurd h1 (hl.2 m h2 i)
   |succ j=>
    simp at h1 h2;rw[aAn hl.1 i j m h1 h2]
def aAo(M:aM)(F:aM)(next:Nat)(σ:List (Option Nat)):Bool:=σ.all λo=>match o with
 |some m=>Nat.ble next m||((match ai F m with|none=>true|some _=>false)&&(match ai M m with|none=>false|some _=>true))
 |none=>true
def HP:List (Option Nat)->List Obj->Bool
 |none::σ,x::X=>x.isNil&&HP σ X
 |some _::σ,_::X=>HP σ X
 |_,_=>true
theorem aAp:∀{σ:List (Option Nat)} {X:List Obj},HP σ X=true->∀(i:Nat) (x:Obj),σ[i]?=some none->X[i]?=some x->x.isNil=true
 |[],_,_,i,x,h,_=>by simp at h
 |_::_,[],_,i,x,_,h=>by simp at h
 |o::σ,y::X,h,i,x,h1,h2=>by
  cases i with
  |zero=>
   simp at h1 h2;subst h1;subst h2;simp only[HP,de]at h;exact h.1
  |succ i=>
   simp at h1 h2;refine aAp (σ:=σ) (X:=X) ?_ i x h1 h2;cases o with
   |none=>simp only[HP,de]at h;exact h.2
   |some _=>exact h
def Dw(M:aM)(next:Nat)(σ:List (Option Nat))(fr:aT)(F:aM)(X:List Obj):Bool:=
 Nat.beq X.length σ.length&&(HO σ&&(aAo M F next σ&&(HP σ X&&((fr.all λp=>HK next σ p.2&&!mZ (xC next σ p.2))&&(F.all λp=>Nat.blt p.1 next&&(match ai M p.1 with|none=>false|some _=>true))))))
theorem aAq{next:Nat}{F:aM}{X:List Obj}(h:Dw M next σ fr F X=true)(hF:∀ p∈F,fE next p.2)(hX:∀ x∈X,fE next x):
  HM M next σ fr F X/\∀ q∈fr,mZ (xC next σ q.2)=false:=by
 simp only[Dw,de,bB,zn]at h;obtain⟨h1,h2,h3,h4,h5,h6⟩:=h;refine⟨⟨k9 h1,aAn h2,λi m hi hm=>?_,aAp h4,λp hp=>(h5 p hp).1,λp hp=>?_,hF,hX⟩,λq hq=>(h5 q hq).2⟩
 ·unfold aAo at h3;rw[bB]at h3;have:=h3 _ (cL hi);simp only[u5,de]at this;rcases this with this|⟨p1,p2⟩
  ·have:=sE this;omega
  ·constructor
   ·cases hf:ai F m with
    |none=>rfl
    |some y=>rw[hf]at p1;cases p1
   ·intro e;rw[e]at p2;cases p2
 ·obtain⟨q1,q2⟩:=h6 p hp;refine⟨Nat.lt_of_succ_le (by simpa[Nat.blt]using q1),λe=>?_⟩;rw[e]at q2;cases q2
theorem qF{b:Code}{next p:Nat}{r:mF}(n:Nat)(I:Nat->aT)(F:Nat->aM)(X:Nat->List Obj)(BK:List (Option Nat))(hp:∀ i,i<=n->(X i).length=p)
  (Dx:∀ i,i<=n->(∀ q∈F i,fE next q.2)/\∀ x∈X i,fE next x) (h0:Dw (F 0++dT BK (X 0)) next BK (I 0) (F 0) (X 0)=true)
  (hs:((gH next BK (I 0)).map λq=>bK (gH next BK (I 0)) q.1)=(gH next BK (I 0)).map λq=>q.2)
  (body:∀ i,i<n->∃ σ gN,Dw (F 0++dT BK (X 0)) next σ (I (i+1)) (F (i+1)) (X (i+1))=true/\ah P B N b (I i) (F i++marks next (X i)) (next+p) ⟨.normal,gH next σ (I (i+1)),F (i+1)++dT σ (X (i+1)),gN⟩)
  (last:ah P B N b (I n) (F n++marks next (X n)) (next+p) r) (hr:r.ex≠.normal):ah P B N (.loop b) (gH next BK (I 0)) (F 0++dT BK (X 0)) next r:=by
 refine aJg n I F X hp ?_ ?_ last hr
 ·obtain⟨q1,q2⟩:=aAq h0 (Dx 0 (lG _)).1 (Dx 0 (lG _)).2;exact⟨BK,q1,q2,NH hs,λ_ _ h=>h⟩
 ·intro i hi;obtain⟨σ,gN,e1,e2⟩:=body i hi;obtain⟨q1,q2⟩:=aAq e1 (Dx (i+1) o_).1 (Dx (i+1) o_).2;exact⟨σ,gN,q1,q2,e2⟩
end
def vb(m:Nat):Value:=.int .u8 (m:Int)
theorem aJp(d:Nat):hY (gT 4 d)=[vb (d/16777216%256),vb (d/65536%256),vb (d/256%256),vb (d%256)]:=by
 have e:∀ m,Value.int .u8 ((UInt8.ofNat (m%256)).toNat:Int)=vb (m%256):=λm=>by rw[Oa,dW (cP _ d_)];rfl
 rw[aJn];simp only[hY,oZ,Tv,e]
theorem Od(l m:List UInt8):hY (l++m)=hY l++hY m:=by simp[hY]
theorem FA(l:List UInt8):(hY l).length=l.length:=by simp[hY]
section
variable{Bs:aa}{n a:Nat}
def HQ(n j m:Nat):aT:=[(4,dr j),(0,sl 0 n),(3,sl 2 (4*m))]
def FB(n a:Nat):aM:=[(0,.view (ao (ae base n a)))]
def FC(a j m:Nat):List Obj:=[.row (hY (gT (4*m) (a/base^j))) 5 1]
theorem aJq(hn:n=m+1+j)(h63:n<35184372088832):
  ah prog Bs 45 (aI (ag f200 0)) (HQ n (j+1) m) (FB n a++marks 2 (FC a (j+1) m)) 3 ⟨.normal,gH 2 [some 4] (HQ n j (m+1)),FB n a++dT [some 4] (FC a j (m+1)),5⟩:=by
 have hj:j<n:=by omega
 obtain⟨d,hd⟩:∃ d,d=a/base^j%base:=⟨_,rfl⟩;have nu:d<base:=by rw[hd];exact iu d_ a j
 have jl:(ao (ae base n a))[j]?=some (aV d):=by rw[hd];exact lj (eR hj)
 have sh:∀ k:Nat,(d:Int).fdiv ((2:Int)^k)=((d/2^k:Nat):Int):=λk=>by rw[sR _ (HR d_),ug,HT];rfl
 have w8:∀ m:Nat,IntKind.u8.wrap ((m:Nat):Int)=((m%256:Nat):Int):=λm=>by rw[aAr];omega
 have lE:hY (gT (4*m) (a/base^(j+1)))++[vb (d/2^24%256),vb (d/2^16%256),vb (d/2^8%256),vb (d%256)]=hY (gT (4*(m+1)) (a/base^j)):=by
  have e1:a/base^j/256^4=a/base^(j+1):=by rw[show(256:Nat)^4=base by decide,lg,<-dH]
  rw[show 4*(m+1)=4*m+4 by omega,aAh,e1,Od,<-aAg 4 (a/base^j) 4 (bF _),show a/base^j%256^4=d from hd.symm,aJp]
 exact aD [.rw 12 (dr (j+1)) (vI j) (eF j),.ge 13 j 0 true s_,.rw 18 (dr (j+1)) (vI j) (eF j),.ix f200 19 0 n j hj k_,.ld f200 20 179 0 j (.view (ao (ae base n a))) (aV d) rfl (by rw[gi];exact jl) k_,.quo 21 .u32 ((d:Int).fdiv ((2:Int)^24)) ((d/2^24:Nat):Int) (sh 24),.wr 22 .u8 ((d/2^24:Nat):Int) ((d/2^24%256:Nat):Int) (w8 _),.rw 24 (dr (j+1)) (vI j) (eF j),.ix f200 25 0 n j hj k_,.ld f200 26 179 0 j (.view (ao (ae base n a))) (aV d) rfl (by rw[gi];exact jl) k_,.quo 27 .u32 ((d:Int).fdiv ((2:Int)^16)) ((d/2^16:Nat):Int) (sh 16),.wr 28 .u8 ((d/2^16:Nat):Int) ((d/2^16%256:Nat):Int) (w8 _),.rw 30 (dr (j+1)) (vI j) (eF j),.ix f200 31 0 n j hj k_,.ld f200 32 179 0 j (.view (ao (ae base n a))) (aV d) rfl (by rw[gi];exact jl) k_,.quo 33 .u32 ((d:Int).fdiv ((2:Int)^8)) ((d/2^8:Nat):Int) (sh 8),.wr 34 .u8 ((d/2^8:Nat):Int) ((d/2^8%256:Nat):Int) (w8 _),.rw 36 (dr (j+1)) (vI j) (eF j),.ix f200 37 0 n j hj k_,.ld f200 38 179 0 j (.view (ao (ae base n a))) (aV d) rfl (by rw[gi];exact jl) k_,.wr 39 .u8 (d:Int) ((d%256:Nat):Int) (w8 _),.bs f200 40 3 4 5 1 [0,1,2,3] (vb 0) [vb (d/2^24%256),vb (d/2^16%256),vb (d/2^8%256),vb (d%256)] #[vb (d/2^24%256),vb (d/2^16%256),vb (d/2^8%256),vb (d%256)]
   (.row [vb (d/2^24%256),vb (d/2^16%256),vb (d/2^8%256),vb (d%256)] 5 1) rfl (λv hv=>by simp at hv;rcases hv with rfl|rfl|rfl|rfl<;>rfl) (λv hv=>by simp at hv;rcases hv with rfl|rfl|rfl|rfl<;>rfl) k_ rfl o_ o_ k_,
  .pP f200 41 4 2 (4*m) 4 (4*(m+1)) 5 1 1 (hY (gT (4*m) (a/base^(j+1)))) 3 (.row [vb (d/2^24%256),vb (d/2^16%256),vb (d/2^8%256),vb (d%256)] 5 1) (hY (gT (4*(m+1)) (a/base^j)))
   o_ rfl rfl (by rw[FA,Ky];omega) lE (λv hv=>by simp[Obj.cells]at hv;rcases hv with rfl|rfl|rfl|rfl<;>rfl) o_ (by simp[maxLen];omega) o_ k_,
  .rw 14 (dr (j+1)) (vI j) (eF j),.wr 15 .i64 ((j:Int)-1) ((j:Int)-1) (pd o_)]
theorem aJr(h63:n<35184372088832):
  ah prog Bs 45 (.block 0 (ag f200 0)) (gH 2 [some 1] (HQ n n 0)) (FB n a++dT [some 1] (FC a n 0)) 2 ⟨.normal,HQ n 0 n,FB n a++marks 2 (FC a 0 n),3⟩:=by
 have:=qF (P:=prog) (B:=Bs) (N:=45) (b:=aI (ag f200 0)) (next:=2) (p:=1) (r:=⟨.exit 0,HQ n 0 n,FB n a++marks 2 (FC a 0 n),3⟩) n (λi=>HQ n (n-i) i) (λ_=>FB n a) (λi=>FC a (n-i) i) [some 1] (λ_ _=>rfl)
  (λi _=>⟨λq hq=>by simp[FB]at hq;subst hq;exact HN (fR _),λx hx=>by simp[FC]at hx;subst hx;exact HN (aJo _)⟩) k_ k_
  (λi hi=>⟨[some 4],5,k_,by
   obtain⟨j,hj⟩:∃ j,n=i+1+j:=⟨n-(i+1),by omega⟩;have e1:n-i=j+1:=by omega
   have e2:n-(i+1)=j:=by omega
   simp only[e1,e2];exact aJq hj h63⟩)
  (by simp only[wi];exact aD [.rw 13 (.bool (decide (((0:Nat):Int)-1>=0))) a_ rfl]) n_
 simp only[Hw]at this;exact cd (id:=0) this
end
theorem aAs(gG:iR w va a)(h1:nd base a<35184372088832):
  Calls prog 200 #[va] w λe w'=>e=.returned (.string (BA (cM a)))/\Below w.heap.size w w':=by
 have al:=eB (B:=base) d_ a;have hl:∀ s∈[cG.row va (nd base a) (ao (ae base (nd base a) a))],s.OK w:=by intro s hs;simp at hs;subst hs;exact⟨gG,fR _⟩
 unfold iR at gG;generalize nd base a=n at *;have ht:Kr (gT (4*n) (a/base^0))=cM a:=by rw[sS,Fv];refine aJl ?_;rw[sT];exact al
 have tl:=aIY (gT (4*n) (a/base^0));rw[ht]at tl
 refine l9 (Q:=λe w'=>e=.returned (.string (BA (cM a)))/\Below w.heap.size w w') mixed func200 [cG.row va n (ao (ae base n a))] hl 100 (N:=45) k_
  (rs:=[(aY.wr 7 .i64 (4*(n:Int)) ((4*n:Nat):Int) (by rw[eh];omega):aY prog (aa.at w) 45),.mkc f200 8 1 (4*n) 5 1 1 (vb 0) o_ (by simp[maxLen];omega) k_,.wr 11 .i64 ((n:Int)-1) ((n:Int)-1) (pd o_),.code 0 _ _ _ _ _ (aJr (n:=n) (a:=a) h1),.Tu f200 43 2 (4*n) (gT (4*n) (a/base^0)) (.row (hY (gT (4*n) (a/base^0))) 5 1) rfl rfl (Ky _ _) k_,tl.at 44])
  (v:=.string (BA (cM a))) (ms:=[]) k_ λaA ct v' w' hc bJ _ _=>⟨by rw[hc.fD rfl],bJ.base⟩
section
variable{P:j_}{B:aa}{N:Nat}
def cG.apart(g:Nat):cG->Prop
 |.plain _=>True
 |.row v n _=>∀ b o c',v=.slice (some ⟨b,o,none⟩) n c'->b≠g
theorem Tw{w:h_}{g:Nat}:∀(l:List cG) (k:Nat) (ι:Map) (c:g_),aO B ι c w->(∀ j x b o cap,c j=some x->x.owns=true->ι j=some (.at b o cap)->b=g)->eK c k->(∀ s∈l,cG.OK w s)->(∀ s∈l,cG.apart g s)->
  ∃ aA c',Map.le ι aA/\aO B aA c' w/\eK c' (uc k l)/\cY c' (vf k l)/\(∀ j,j<k->c' j=c j)/\bY (aL aA) (sP k l) (l.map cG.real)/\k<=uc k l
 |[],k,ι,c,hm,ho,hu,_,_=>⟨ι,c,Map.le.refl _,hm,hu,λk x h=>(by cases h),λ_ _=>rfl,.nil,bF _⟩
 |.plain v::l,k,ι,c,hm,ho,hu,hl,bw=>by obtain⟨aA,c',h1,h2,h3,h4,h5,h6,h7⟩:=Tw l k ι c hm ho hu (λs hs=>hl s (bI _ hs)) (λs hs=>bw s (bI _ hs));have hv:flat v=true:=hl _ (aR ..);exact⟨aA,c',h1,h2,h3,h4,h5,.cons (.same hv) h6,h7⟩
 |.row v n xs::l,k,ι,c,hm,ho,hu,hl,bw=>by
  obtain⟨hv,cR⟩:dp w v n xs/\∀ u∈xs,flat u=true:=hl _ (aR ..);have hap:∀ b o c',v=.slice (some ⟨b,o,none⟩) n c'->b≠g:=bw _ (aR ..);obtain⟨bZ,q1,q2,q3⟩:=zu hm (k:=k) (hu k (bF _)) hv cR (λb o c' hb j y o' aQ hj hy he=>hap b o c' hb (ho j y b o' aQ hj hy he));have xF:∀ j x b o cap,bt c k (.view xs) j=some x->x.owns=true->bZ j=some (.at b o cap)->b=g:=by
   intro j x b o cap hj hx hb;unfold bt at hj;by_cases cg:j=k
   ·rw[aB cg]at hj;injection hj with hj;subst hj;cases hx
   ·rw[az cg]at hj;obtain⟨lo,e1,_⟩:=hm.born j x hj;have:=q1 j lo e1;rw[hb]at this;injection this with this;subst this;exact ho j x b o cap hj hx e1
  have dS:eK (bt c k (.view xs)) (k+1):=λj hj=>by unfold bt;rw[az o_];exact hu j o_
  obtain⟨aA,c',h1,h2,h3,h4,h5,h6,h7⟩:=Tw l (k+1) bZ _ q2 xF dS (λs hs=>hl s (bI _ hs)) (λs hs=>bw s (bI _ hs));refine⟨aA,c',q1.trans h1,h2,h3,λj x hj=>?_,λj hj=>?_,.cons (q3.mono h1) h6,by show k<=uc (k+1) l;omega⟩
  ·unfold vf ai at hj;split at hj
   ·rename_i hb;injection hj with hj;subst hj;rw[<-k9 hb,h5 k o_];unfold bt;rw[aB rfl]
   ·exact h4 j x hj
  ·rw[h5 j o_];unfold bt;rw[az o_]
theorem aJs{g:Nat}{cells:ak}{c':Nat}{v:i_}(iO:P.follows .mixedOrders=true)(hf:P.funcs[f]?=some fn)
  (hg:w.heap[g]?=some (.cells cur ty (0,0))) (jW:cap<=maxLen) (bH:cur.size=cap*size) (hc:cur.toList.take cells.length=cells) (cR:∀ v∈cells,flat v=true) (Bz:∀ v∈cells',flat v=true) (hn:m<=c') (ni:cc+c'=cap)
  (l:List cG) (hl:∀ s∈l,cG.OK w s) (bw:∀ s∈l,cG.apart g s) (n:Nat) {N:Nat} (hN:N=((.slice (some ⟨0,off,some 7⟩) m cc:i_)::sP 1 l).length+(fn.ntmps-((.slice (some ⟨0,off,some 7⟩) m cc:i_)::sP 1 l).length))
  {rs:bM P (aa.we w g) N}
  (h:oX (hJ (P:=P) fn n (.slice (some ⟨0,off,some 7⟩) m cc::sP 1 l) ((0,.row cells ty size)::vf 1 l) (uc 1 l) rs) ((0,.row cells' ty size)::ms)=oY (hJ fn n (.slice (some ⟨0,off,some 7⟩) m cc::sP 1 l) ((0,.row cells ty size)::vf 1 l) (uc 1 l) rs) v ((0,.row cells' ty size)::ms))
  (hQ:∀ aA Tx v' w',aA 0=some (.at g 0 cap)->aL aA v v'->Bx g w w'->(∃ gp,w'.heap[g]?=some (.cells gp ty (0,0))/\gp.size=cap*size/\gp.toList.take cells'.length=cells')->aO (aa.we w g) aA Tx w'->(∀ p∈ms,Tx p.1=some p.2)->Q (.returned v') w') :
  Calls P f (.slice (some ⟨g,off,none⟩) m c'::l.map cG.real).toArray w Q:=by
 have kD:=S8 hg jW bH hc cR;have aAt:dR (λ_=>none) 0 (.at g 0 cap) 0=some (.at g 0 cap):=fX _ _ _;obtain⟨ι,c,h1,h2,h3,h4,h5,h6,h7⟩:=Tw (g:=g) l 1 _ _ kD (λj x b o cp hj _ hb=>by
   by_cases BL:j=0
   ·subst BL;rw[aAt]at hb;injection hb with hb;injection hb with hb _ _;exact hb.symm
   ·unfold dR at hb;rw[az BL]at hb;cases hb) (λk hk=>by unfold bt;rw[az o_]) hl bw
 have ry:ι 0=some (.at g 0 cap):=h1 0 _ aAt;have ha:cY c ((0,.row cells ty size)::vf 1 l):=λk x hk=>by
  unfold ai at hk;split at hk
  ·rename_i hb;injection hk with hk;subst hk;rw[<-k9 hb,h5 0 o_];unfold bt;rw[aB rfl]
  ·exact h4 k x hk
 have aJt:aL ι (.slice (some ⟨0,off,some 7⟩) m cc) (.slice (some ⟨g,off,none⟩) m c'):=by have:=aL.slc (off:=off) ry hn ni;rwa[kB]at this
 refine u9 iO hf hN n h (.cons aJt h6) h2 ha h3 λaA ct v' w' hle kA hm dP=>?_;obtain⟨e1,e2⟩:=S9 hm (hle 0 _ ry) (dP _ (aR ..)) Bz;exact hQ aA ct v' w' (hle 0 _ ry) kA e1 e2 hm λp hp=>dP p (bI _ hp)
theorem aJu{x:m_}{Ty:Nat}{cells:ak}{val:i_}(ho:dF o.op=some x)(fe:gg P f=true)(hkk:k2≠k)(kD:0<m)
  (cR:∀ v∈cells,flat v=true) (Bz:∀ v∈cells',flat v=true) (lK:flat val=true) (ij:x2.reads=true) (aJv:∀ v∈x2.cells,flat v=true) (aJw:n2=0->Ty=0)
  (h:∀ w g cap cur c' v2,w.heap[g]?=some (.cells cur ty (0,0))->m<=c'->cc+c'=cap->cap<=maxLen->cur.size=cap*size->cur.toList.take cells.length=cells->dp w v2 n2 (x2.cells.take Ty)->(∀ b o c,v2=.slice (some ⟨b,o,none⟩) n2 c->b≠g)->Calls P f #[.slice (some ⟨g,off,none⟩) m c',v2] w λe w'=>e=.returned val/\Bx g w w'/\∃ gp,w'.heap[g]?=some (.cells gp ty (0,0))/\gp.size=cap*size/\gp.toList.take cells'.length=cells') :
  cI P B o [.func (.func f) #[] #[],.slice (some ⟨k,off,some 7⟩) m cc,.slice (some ⟨k2,0,some 7⟩) n2 0] [(k,some (.row cells ty size)),(k2,some x2)] val [(k,.row cells' ty size)]:=by
 refine jY (fi:=[]) (ca:=[]) ho fe λι c w hm fv args' bh=>?_;have hk:c k=some (.row cells ty size):=fv _ (aR ..);have fO:c k2=some x2:=fv _ (bI _ (aR ..));obtain⟨v,v2,rfl,hv,il⟩:=js bh;have hr:=o7 hm fO ij aJv aJw il;rw[mI]at hr;rcases hv.iC rfl with ⟨_,h0,_⟩|⟨g,oo,cap,c',hb,k7,ni,he⟩
 ·omega
 ·dsimp only at hb he;obtain⟨l,q1,q2⟩:=hm.born k _ hk;rw[hb]at q1;injection q1 with q1;subst q1;rcases q2 with q2|⟨b,aQ,cur,e1,mD,dN,fZ,jt⟩
  ·cases q2.1
  ·injection e1 with e1 e2 e3;subst e1;subst e2;subst e3;rw[kB]at he;rw[he];have bw:∀ b o c,v2=.slice (some ⟨b,o,none⟩) n2 c->b≠g:=by
    rintro b o c1 rfl rfl
    rcases il.iC rfl with ⟨_,_,_,_,e⟩|⟨b',o',aQ,c2,gE,_,_,e⟩
    ·cases e
    ·injection e with e _ _;injection e with e;injection e with e _ _;subst e;simp only[Obj.reads,u5]at ij;rcases ij with ij|ij
     ·exact hkk (hm.inj k2 k x2 _ _ _ _ _ _ fO ij hk rfl gE hb)
     ·exact(hm.seen k2 x2 _ _ _ fO ij gE).2 k _ _ _ hk rfl hb
   refine(h w g cap cur c' v2 mD k7 ni dN fZ (nQ jt cR) hr bw).mono ?_
   rintro e w' ⟨rfl,qC,gp,p1,p2,p3⟩
   refine⟨ι,val,rfl,Map.le.refl _,.same lK,hm.write hk rfl hb qC.os qC.tape qC.output qC.size (λj hj Fp=>qC.block j hj Fp) (.inr ⟨g,cap,gp,rfl,p1,dN,p2,?_⟩) n_ rfl⟩;rw[p3];exact k6 Bz
end
section
variable{B U V n T v1 v2 u2:Nat}
structure mK(B n U V T u2 v1 v2:Nat):Prop where
 hB:2<=B
 hU:U<V*B
 hT:T=U/B^(n+1)
 hu:u2=U/B^n%B
 kC:v1=V/B^(n+1)
 il:v2=V/B^n%B
 top:B<=2*v1
 Dy:v1<B
theorem mK.pow(h:mK B n U V T u2 v1 v2):0<B^n:=cO (by have:=h.hB;omega)
theorem mK.two(h:mK B n U V T u2 v1 v2):U/B^n=T*B+u2/\V/B^n=v1*B+v2:=by rw[h.hT,h.hu,h.kC,h.il];exact⟨xw U n,xw V n⟩
theorem mK.aJx(h:mK B n U V T u2 v1 v2)(hq:q*v1<=T->False):U/V<q:=by
 have rK:0<V:=by
  rcases nU V with e|e
  ·have:=h.hU;rw[e]at this;omega
  ·exact e
 refine Nat.lt_of_not_le λhle=>hq ?_;have h1:q*V<=U:=(Dz rK).1 hle;rw[h.hT,h.kC];have hp:0<B^(n+1):=cO (by have:=h.hB;omega);rw[Dz hp];have h2:V/B^(n+1)*B^(n+1)<=V:=DA _ _
 calc q*(V/B^(n+1))*B^(n+1)=q*(V/B^(n+1)*B^(n+1)):=by rw[gh]
  _<=q*V:=jN _ h2
  _<=U:=h1
structure BM(U V T v1 q r:Nat):Prop where
 eq:q*v1+r=T
 le:U/V<=q
theorem mK.start(h:mK B n U V T u2 v1 v2):BM U V T v1 (T/v1) (T%v1):=by
 refine⟨by rw[cX];exact jy T v1,?_⟩;have hv:0<v1:=by have:=h.top;have:=h.hB;omega
 have:=h.aJx (q:=T/v1+1) λhle=>by have:=(Dz hv).2 hle;omega
 omega
theorem mK.small(h:mK B n U V T u2 v1 v2):U/V<B:=by
 have rK:0<V:=by
  rcases nU V with e|e
  ·have:=h.hU;rw[e]at this;omega
  ·exact e
 exact(iQ rK).2 (by rw[cX];exact h.hU)
theorem mK.aJy(h:mK B n U V T u2 v1 v2)(g:BM U V T v1 q r)(hc:B<=q\/r*B+u2<q*v2):U/V<q:=by
 rcases hc with hc|hc
 ·exact cF h.small hc
 ·have rK:0<V:=by
   rcases nU V with e|e
   ·have:=h.hU;rw[e]at this;omega
   ·exact e
  rw[iQ rK];obtain⟨e1,e2⟩:=h.two;have hp:=h.pow;have h1:U/B^n<q*(V/B^n):=by rw[e1,e2,<-g.eq,o9,fP,<-gh];omega
  have h2:U<q*(V/B^n)*B^n:=(iQ hp).1 h1;rw[gh]at h2;exact cF h2 (jN _ (DA _ _))
theorem mK.less(h:mK B n U V T u2 v1 v2)(g:BM U V T v1 q r)(hc:B<=q\/r*B+u2<q*v2):0<q/\BM U V T v1 (q-1) (r+v1):=by have al:=h.aJy g hc;obtain⟨p,rfl⟩:∃ p,q=p+1:=⟨q-1,(Nat.sub_add_cancel (Nat.one_le_of_lt al)).symm⟩;refine⟨by omega,?_,Nat.le_of_lt_succ al⟩;have:=g.eq;rw[fP,qB]at this;rw[Oe];omega
theorem mK.fin(h:mK B n U V T u2 v1 v2)(g:BM U V T v1 q r)(hc:(q<B/\q*v2<=r*B+u2)\/B<=r):q<B/\q*V<U+V:=by
 obtain⟨e1,e2⟩:=h.two;have hp:=h.pow;have iY:B^(n+1)=B^n*B:=dH ..;have hVd:=jy V (B^n);have hVm:=cP V hp;rcases hc with ⟨hq,hc⟩|hr
 ·refine⟨hq,?_⟩;have h1:q*(V/B^n)<=U/B^n:=by rw[e1,e2,<-g.eq,o9,fP,<-gh];omega
  have h2:q*(V/B^n)*B^n<=U:=(Dz hp).1 h1;have h3:q*V=q*(V/B^n)*B^n+q*(V%B^n):=by rw[gh,<-o9,cX (V/B^n),hVd]
  have h4:q*(V%B^n)<V:=by
   have h5:q*(V%B^n)<=(B-1)*B^n:=xB o_ (j5 hVm);have h6:v1*B^(n+1)<=V:=by rw[h.kC];exact DA _ _
   have h7:1*B^(n+1)<=v1*B^(n+1):=eE _ (by have:=h.top;have:=h.hB;omega);have h8:(B-1)*B^n<B^(n+1):=by rw[iY,cX (B^n)];exact BN (by have:=h.hB;omega) hp
   omega
  omega
 ·have xG:V<(v1+1)*B^(n+1):=by rw[h.kC];have fG:0<B^(n+1):=cO (by have:=h.hB;omega);exact(iQ fG).1 (BO _)
  have fG:0<B^(n+1):=cO (by have:=h.hB;omega);have hTU:T*B^(n+1)<=U:=by rw[h.hT];exact DA _ _
  have aAu:T<(v1+1)*B:=by rw[h.hT,iQ fG];refine cF h.hU ?_;rw[gh,cX B,<-gh];exact eE _ (j5 xG)
  have hqB:q<B:=by
   have h1:q*v1<B*v1:=by have:=g.eq;rw[fP,qB,cX v1]at aAu;omega
   exact aJz h1
  refine⟨hqB,?_⟩;have h2:q*V<=q*((v1+1)*B^(n+1)):=jN _ (j5 xG);have h3:q*((v1+1)*B^(n+1))<=T*B^(n+1):=by rw[<-gh];refine eE _ ?_;have:=g.eq;rw[o9,gP];omega
  have rK:0<V:=by
   rcases nU V with e|e
   ·have:=h.hU;rw[e]at this;omega
   ·exact e
  omega
theorem mK.aJA(h:mK B n U V T u2 v1 v2)(r:Nat):B<=r+v1+v1:=by have:=h.top;omega
theorem mK.aJB(h:mK B n U V T u2 v1 v2)(g:BM U V T v1 q r):q<=B*2+1:=by
 have fG:0<B^(n+1):=cO (by have:=h.hB;omega);have xG:V<(v1+1)*B^(n+1):=by rw[h.kC];exact(iQ fG).1 (BO _)
 have aAu:T<(v1+1)*B:=by rw[h.hT,iQ fG];refine cF h.hU ?_;rw[gh,cX B,<-gh];exact eE _ (j5 xG)
 have hv:0<v1:=by have:=h.top;have:=h.hB;omega
 have h1:q*v1<(B*2)*v1:=by
  have:=g.eq;have h2:(v1+1)*B<=(B*2)*v1:=by
   rw[fP,qB,gh,cX v1];have:B*1<=B*v1:=jN _ hv;have e:B*(2*v1)=B*v1+B*v1:=by rw[Nat.two_mul,o9]
   omega
  omega
 have:=aJz h1;omega
def oH(B q V i:Nat):Nat:=q*(V%B^i)/B^i
theorem aJC:oH B q V 0=0:=by simp[oH,uf]
theorem aAv(hB:0<B)(q V i:Nat):oH B q V i+q*(V/B^i%B)=q*(V%B^(i+1))/B^i:=by have hp:0<B^i:=cO hB;rw[pM,o9,<-gh,pN _ _ hp];rfl
theorem aJD(hB:0<B)(q V i:Nat):(oH B q V i+q*(V/B^i%B))/B=oH B q V (i+1):=by rw[aAv hB,lg,<-dH];rfl
theorem aAw(hB:0<B)(q V i:Nat):(oH B q V i+q*(V/B^i%B))%B=q*V/B^i%B:=by
 have hp:0<B^i:=cO hB;rw[aAv hB];have e:q*V=q*(V%B^(i+1))+(q*(V/B^(i+1))*B)*B^i:=by
  have h1:=jy V (B^(i+1));have h2:q*(V/B^(i+1))*B*B^i=q*(B^(i+1)*(V/B^(i+1))):=by rw[dH];simp only[cX,nt,gh]
  rw[h2,<-o9,nr,h1]
 rw[e,pN _ _ hp,Dv]
theorem aAx(hB:0<B)(hq:q<B)(V i:Nat):oH B q V i<B:=by have hp:0<B^i:=cO hB;unfold oH;rw[iQ hp];have h1:q*(V%B^i)<=q*B^i:=jN _ (j5 (cP _ hp));exact eZ h1 (BN hq hp)
end
section
variable{B:Nat}
def gJ(B j R D:Nat):Nat:=R%B^j+D*B^j
theorem xH(hB:0<B)(j R D i:Nat):gJ B j R D/B^(j+i)%B=D/B^i%B:=by have hp:0<B^j:=cO hB;unfold gJ;rw[eU,<-lg,pN _ _ hp,mH (cP _ hp),kB]
theorem Tz(hB:0<B){t:Nat}(ht:t<j)(R D:Nat):gJ B j R D/B^t%B=R/B^t%B:=by
 unfold gJ;obtain⟨s,rfl⟩:∃ s,j=t+1+s:=⟨j-(t+1),by omega⟩;have hp:0<B^t:=cO hB;have e1:R%B^(t+1+s)/B^t%B=R/B^t%B:=by
  have e:B^(t+1+s)=B^t*(B*B^s):=by rw[eU,dH,gh]
  rw[e,BC,Kp]
 have e2:D*B^(t+1+s)=(D*B^s*B)*B^t:=by rw[eU,dH];simp only[cX,nt,gh]
 rw[e2,pN _ _ hp,Dv,e1]
theorem HU(hB:0<B)(R:Nat)(h:D<B^m):gJ B j R D<B^(j+m):=by have hp:0<B^j:=cO hB;unfold gJ;have h1:=cP R hp;have h2:(D+1)*B^j<=B^m*B^j:=eE _ h;rw[fP,qB]at h2;rw[eU,cX (B^j)];omega
theorem aAy(hB:0<B)(j R D E:Nat):gJ B j (gJ B j R D) E=gJ B j R E:=by unfold gJ;rw[Dv,Nat.mod_mod]
theorem aJE(j R:Nat):gJ B j R (R/B^j)=R:=by unfold gJ;rw[cX,nr];exact jy R (B^j)
theorem HV(j R i:Nat):R/B^(j+i)%B=R/B^j/B^i%B:=by rw[eU,lg]
theorem Of(hB:0<B)(L j R D:Nat):dc B L j (gJ B j R D) R=ae B L R:=by
 unfold dc ae;refine xj λt _=>?_;by_cases h:t<j
 ·rw[aB h,Tz hB h]
 ·rw[az h]
theorem FD(hB:0<B){R S:Nat}(hR:R<B^m)(hS:S<B^m):dc B L m S R=ae B L S:=by
 unfold dc ae;refine xj λt _=>?_;by_cases h:t<m
 ·rw[aB h]
 ·rw[az h,rH hR o_ hB,rH hS o_ hB]
def gw(B m U V q:Nat):Nat:=(U+B^(m+1)-q*V)%B^(m+1)
section
variable{m U V q:Nat}
theorem TA(hB:0<B):gw B m U V q<B^(m+1):=cP _ (cO hB)
theorem aAz(hB:0<B)(h:i<k):a%B^k/B^i%B=a/B^i%B:=by have:=Tz hB h a 0;unfold gJ at this;rw[kQ,jg]at this;exact this
theorem aJF(hB:0<B)(h:i<k):(a+B^k)/B^i%B=a/B^i%B:=by
 have e:B^k=B^(k-i-1)*B*B^i:=by rw[<-dH,<-eU];congr 1;omega
 rw[e,pN _ _ (cO hB),Dv]
theorem aJG(h:i<=k):(a+B^k)%B^i=a%B^i:=by
 have e:B^k=B^i*B^(k-i):=by rw[<-eU];congr 1;omega
 rw[e,Fl]
def pf(B U V q i:Nat):Nat:=lh B U (q*V) i
theorem aJH(h:i<=k):lh B (a+B^k) b i=lh B a b i:=by unfold lh;rw[aJG h]
theorem aJI(hB:0<B)(hq:q*V<=U+B^(m+1))(hi:i<=m):
  (U/B^i%B+2*B-(oH B q V i+q*(V/B^i%B))%B-pf B U V q i)%B=gw B m U V q/B^i%B:=by
 unfold gw pf;rw[aAz hB o_,aAw hB,<-aJF hB (show i<m+1 by omega),<-aJH (show i<=m+1 by omega)];exact S4 hB hq i
theorem aJJ(hB:0<B)(i:Nat):(if U/B^i%B<(oH B q V i+q*(V/B^i%B))%B+pf B U V q i then 1 else 0)=pf B U V q (i+1):=by unfold pf;rw[aAw hB];exact S3 hB _ _ _
theorem aJK(hB:0<B)(hq:q<B)(hV:V<B^m):q*V<B^(m+1):=by rw[dH,cX (B^m)];exact eZ (eE _ (j5 hq)) (ZJ hV hB)
theorem aJL(hB:0<B)(hq:q<B)(hV:V<B^m)(hU:U<V*B):pf B U V q (m+1)=if U<q*V then 1 else 0:=by
 have DB:U<B^(m+1):=by rw[dH];exact cF hU (eE _ (j5 hV))
 unfold pf lh;rw[dW DB,dW (aJK hB hq hV)]
theorem aAA(hB:0<B)(hV:V<B^m)(hU:U<V*B)(hle:U/V<=q)(h:¬U<q*V):q=U/V/\gw B m U V q=U%V:=by
 have DB:U<B^(m+1):=by rw[dH];exact cF hU (eE _ (j5 hV))
 have rK:0<V:=by
  rcases nU V with e|e
  ·rw[e]at hU;omega
  ·exact e
 have e:q=U/V:=by have:=(Dz rK).2 (Kz.1 h);omega
 refine⟨e,?_⟩;unfold gw;have h1:=jy U V;rw[cX]at h1;rw[<-e]at h1;have h2:U+B^(m+1)-q*V=U%V+B^(m+1):=by omega
 rw[h2,KA,dW (eZ (Kh _ _) DB)]
theorem aAB(hB:0<B)(hV:V<B^m)(hU:U<V*B)(hb:q*V<U+V)(h:U<q*V):q=U/V+1/\(gw B m U V q+V)%B^(m+1)=U%V:=by
 have DB:U<B^(m+1):=by rw[dH];exact cF hU (eE _ (j5 hV))
 have rK:0<V:=by
  rcases nU V with e|e
  ·rw[e]at hU;omega
  ·exact e
 have pQ:0<q:=by
  rcases nU q with e|e
  ·rw[e,kQ]at h;omega
  ·exact e
 obtain⟨p,rfl⟩:∃ p,q=p+1:=⟨q-1,by omega⟩;rw[fP,qB]at h hb;have e:p=U/V:=by have h1:p<=U/V:=(Dz rK).2 o_;have h2:U/V<p+1:=(iQ rK).2 (by rw[fP,qB];exact h);omega
 refine⟨by rw[e],?_⟩;unfold gw;have h1:=jy U V;rw[cX,<-e]at h1;rw[Nat.mod_add_mod,fP,qB];have hpV:p*V<=U:=by omega
 have TB:V<=B^(m+1):=dh (j5 hV) (di hB o_);have h2:U+B^(m+1)-(p*V+V)+V=U%V+B^(m+1):=by omega
 rw[h2,KA,dW (eZ (Kh _ _) DB)]
theorem TC(hB:0<B)(hi:i<=m):(D/B^i%B+V/B^i%B+fh B D V i)%B=(D+V)%B^(m+1)/B^i%B:=by rw[aAz hB o_];exact HB hB D V i
end
theorem aAC(hB:0<B)(A V j:Nat):gJ B j (A%(V*B^(j+1))) (A%(V*B^(j+1))/B^j%V)=A%(V*B^j):=by
 have hp:0<B^j:=cO hB;have h1:A%(V*B^j)=A%(V*B^(j+1))%(B^j*V):=by rw[cX (B^j),dH,<-gh,Kp]
 rw[h1];generalize A%(V*B^(j+1))=R;rw[NM];unfold gJ;rw[cX (B^j) (_%V)]
theorem aAD(A V j:Nat):A%(V*B^(j+1))/B^j/V=A/V/B^j%B:=by rw[lg,dH,<-gh,cX (B^j) V,BC,lg]
theorem aAE{V:Nat}(hB:0<B)(hV:0<V)(A j:Nat):A%(V*B^(j+1))/B^j<V*B:=by have hp:0<B^j:=cO hB;rw[iQ hp,gh,cX B,<-dH];exact cP _ (rL hV (cO hB))
theorem aAF{B X:Nat}(hB:0<B)(hk:∃ c,B=2^k*c):((X/B^(i+1)%B*B+X/B^i%B)/2^k)%B=X/2^k/B^i%B:=by
 obtain⟨c,hc⟩:=hk;have h2:0<2^k:=cO d_;have e1:X/B^i=X/B^(i+1)*B+X/B^i%B:=xw X i;have e2:X/B^(i+1)=X/B^(i+1)/B*B+X/B^(i+1)%B:=by rw[cX];exact(jy _ _).symm
 have e3:X/2^k/B^i=X/B^i/2^k:=by rw[lg,lg,cX]
 rw[e3];generalize X/B^i%B=x0 at *;generalize X/B^i=Y at *;generalize X/B^(i+1)%B=x1 at *;generalize X/B^(i+1)/B=H at *;generalize X/B^(i+1)=Z at *;subst e1;subst e2;have e4:(H*B+x1)*B+x0=(x1*B+x0)+H*B*c*2^k:=by
  rw[fP];have:H*B*c*2^k=H*B*B:=by rw[gh (H*B),cX c,<-hc]
  omega
 have e5:H*B*c=H*c*B:=by rw[gh,cX B c,<-gh]
 rw[e4,pN _ _ h2,e5,Dv]
end
section
variable{Bs:aa}{N:Nat}
def qG(x:Obj)(a:Nat):Prop:=x.reads=true/\∃ M,nd base a<=M/\x.cells=ao (ae base M a)
theorem BP(hm:aO Bs ι c w){x:Obj}{v:i_}(hk:c k=some x)(hx:qG x a)(hv:aL ι (sl k (nd base a)) v):iR w v a:=by
 obtain⟨h1,M,h2,h3⟩:=hx;have:=o7 (len:=nd base a) hm hk h1 (by rw[h3];exact fR _) (λh=>h) hv;rw[h3,mI]at this;have e:(ao (ae base M a)).take (nd base a)=ao (ae base (nd base a) a):=by unfold ao;rw[<-C8,Ke h2]
 rw[e]at this;exact this
def vl(a:Nat):Obj:=.row (ao (ae base (nd base a) a)) 179 1
theorem sW(a:Nat):qG (vl a) a:=⟨rfl,_,bF _,rfl⟩
theorem xI(a:Nat):qG (.view (ao (ae base (nd base a) a))) a:=⟨rfl,_,bF _,rfl⟩
theorem Og{y:m_}{c:Nat}(ho:dF o.op=some y)(fe:gg prog f=true)(dL:∀ v∈args,flat v=true)
  (h:∀ w,Calls prog f args.toArray w λe w'=>∃ v,e=.returned v/\j0 w w' v c/\Below w.heap.size w w') (k:Nat) :
  cI prog Bs o (.func (.func f) #[] #[]::args) [(k,none)] (sl k (nd base c)) [(k,vl c)]:=by
 refine jY (fi:=[]) (ca:=[]) ho fe λι cc w hm hn args' bh=>?_;rw[ju,jO]at bh;rw[nQ bh dL];refine(h w).mono ?_
 rintro e w' ⟨v,rfl,h1,h2⟩
 obtain⟨aA,q1,q2,q3⟩:=Fi hm h2 (k:=k) (hn _ (aR ..)) h1 (fR _);exact⟨aA,v,rfl,q1,q3,q2⟩
theorem TD{y:m_}{c:Nat}(ho:dF o.op=some y)(fe:gg prog f=true)(hx:qG x1 a)(ij:qG x2 b)
  (h:∀ w va vb,iR w va a->iR w vb b->Calls prog f #[va,vb] w λe w'=>∃ v,e=.returned v/\j0 w w' v c/\Below w.heap.size w w') (k:Nat) :
  cI prog Bs o [.func (.func f) #[] #[],sl k1 (nd base a),sl k2 (nd base b)] [(k1,some x1),(k2,some x2),(k,none)] (sl k (nd base c)) [(k,vl c)]:=by
 refine jY (fi:=[]) (ca:=[]) ho fe λι cc w hm hn args' bh=>?_;rw[ju,jO]at bh;obtain⟨va,vb,rfl,hv,il⟩:=js bh;refine(h w va vb (BP hm (hn (k1,some x1) s_) hx hv) (BP hm (hn (k2,some x2) s_) ij il)).mono ?_
 rintro e w' ⟨v,rfl,h1,h2⟩
 obtain⟨aA,q1,q2,q3⟩:=Fi hm h2 (k:=k) (hn (k,none) s_) h1 (fR _);exact⟨aA,v,rfl,q1,q3,q2⟩
theorem HW{y:m_}(ho:dF o.op=some y)(fe:gg prog f=true)(hx:qG x1 a)(Ta:∀ v∈post,flat v=true)(Bl:flat res=true)
  (h:∀ w va,iR w va a->Calls prog f (va::post).toArray w λe w'=>e=.returned res/\Below w.heap.size w w') :
  cI prog Bs o (.func (.func f) #[] #[]::sl k1 (nd base a)::post) [(k1,some x1)] res []:=by
 refine jY (fi:=[]) (ca:=[]) ho fe λι cc w hm hn args' bh=>?_;rw[ju,jO]at bh;cases bh with
 |cons hv hp=>
 rw[nQ hp Ta];refine(h w _ (BP hm (hn _ (aR ..)) hx hv)).mono ?_
 rintro e w' ⟨rfl,h2⟩
 exact⟨ι,res,rfl,Map.le.refl _,.same Bl,hm.call h2⟩
theorem Oh{y:m_}(ho:dF o.op=some y)(fe:gg prog f=true)(hx:qG x1 a)(ij:qG x2 b)(Bl:flat res=true)
  (h:∀ w va vb,iR w va a->iR w vb b->Calls prog f #[va,vb] w λe w'=>e=.returned res/\Below w.heap.size w w') :
  cI prog Bs o [.func (.func f) #[] #[],sl k1 (nd base a),sl k2 (nd base b)] [(k1,some x1),(k2,some x2)] res []:=by
 refine jY (fi:=[]) (ca:=[]) ho fe λι cc w hm hn args' bh=>?_;rw[ju,jO]at bh;obtain⟨va,vb,rfl,hv,il⟩:=js bh;refine(h w va vb (BP hm (hn (k1,some x1) s_) hx hv) (BP hm (hn (k2,some x2) s_) ij il)).mono ?_
 rintro e w' ⟨rfl,h2⟩
 exact⟨ι,res,rfl,Map.le.refl _,.same Bl,hm.call h2⟩
end
def oI(a:Nat):Value:=.string (BA (cM a))
def BQ(neg:Bool)(a:Nat):Value:=.agg #[.bool (neg&&decide (a≠0)),oI a]
theorem qH(a:Nat):((BA (cM a)).toList==(ByteArray.mk #[]).toList)=decide (a=0):=by rw[Ft,qx];exact aJi
theorem aAG{neg:Bool}(gG:iR w va a)(h1:nd base a<35184372088832):
  Calls prog 158 #[va,.bool neg] w λe w'=>e=.returned (BQ neg a)/\Below w.heap.size w w':=by
 have hl:∀ s∈[cG.row va (nd base a) (ao (ae base (nd base a) a)),.plain (.bool neg)],s.OK w:=by
  intro s hs;simp at hs;rcases hs with rfl|rfl
  ·exact⟨gG,fR _⟩
  ·exact rfl
 cases neg with
 |false=>
  exact l9 (Q:=λe w'=>e=.returned (BQ false a)/\Below w.heap.size w w') mixed func158 [cG.row va (nd base a) (ao (ae base (nd base a) a)),.plain a_] hl 100 (N:=15) k_
   (rs:=[(.step 7 (au f158 7) _ _ _ _ (HW (y:=.func 200) (k1:=0) (post:=[]) k_ k_ (xI a) n_ rfl λw va h=>aAs h h1):aY prog (aa.at w) 15)])
   (v:=.agg #[.bool false,oI a]) (ms:=[]) k_ λaA ct v' w' hc bJ _ _=>⟨by rw[hc.fD rfl];rfl,bJ.base⟩
 |true=>
  have e:(!((BA (cM a)).toList==(ByteArray.mk #[]).toList))=decide (a≠0):=by rw[qH];simp
  exact l9 (Q:=λe w'=>e=.returned (BQ true a)/\Below w.heap.size w w') mixed func158 [cG.row va (nd base a) (ao (ae base (nd base a) a)),.plain b_] hl 100 (N:=15) k_
   (rs:=[(.step 7 (au f158 7) _ _ _ _ (HW (y:=.func 200) (k1:=0) (post:=[]) k_ k_ (xI a) n_ rfl λw va h=>aAs h h1):aY prog (aa.at w) 15),.rw 11 (.bool (!((BA (cM a)).toList==(ByteArray.mk #[]).toList))) (.bool (decide (a≠0))) (by rw[e])])
   (v:=.agg #[.bool (decide (a≠0)),oI a]) (ms:=[]) k_ λaA ct v' w' hc bJ _ _=>⟨by rw[hc.fD rfl];simp[BQ],bJ.base⟩
section
variable{Bs:aa}{n a k:Nat}
theorem aJM{B X:Nat}(h:i+1<L)(h0:d=n2/B^i%B)(h1:e=n2/B^(i+1)%B)(ho:∀ t,t≠i->t≠i+1->X/B^t%B=n2/B^t%B):((ae B L X).set i d).set (i+1) e=ae B L n2:=by
 refine TE λt=>?_;rw[List.getElem?_set,List.getElem?_set];by_cases ht:t<L
 ·rw[eR ht,eR ht];by_cases h2:i+1=t
  ·subst h2;rw[aB rfl,aB (by simp[o8];omega),h1]
  ·rw[az h2];by_cases h3:i=t
   ·subst h3;rw[aB rfl,aB (by rw[o8];omega),h0]
   ·rw[az h3,ho t (λe=>h3 e.symm) (λe=>h2 e.symm)]
 ·have e1:(ae B L X)[t]?=none:=Bf (by rw[o8];omega);have e2:(ae B L n2)[t]?=none:=Bf (by rw[o8];omega);rw[e1,e2,az o_,az o_]
theorem aJN{x c k:Nat}(hk:k<=31)(hx:x<base)(hc:c<2^k):(c||| (x*2^k%base))=(c+x*2^k)%base/\(c+x*2^k)/base=x*2^k/base/\x*2^k/base<2^k:=by
 obtain⟨m,hm⟩:∃ m,base=m*2^k:=⟨2^(32-k),by rw[<-eU,show 32-k+k=32 by omega]⟩;have hp:0<2^k:=cO d_;have rM:0<m:=by
  rcases nU m with e|e
  ·rw[e,kQ]at hm;exact absurd hm d_
  ·exact e
 have e1:x*2^k%base=x%m*2^k:=by rw[hm,aAH]
 have e2:x*2^k/base=x/m:=by rw[hm,aAI _ _ hp]
 have e3:(c+x*2^k)/base=x/m:=by rw[hm,cX m,<-lg,pN _ _ hp,mH hc,kB]
 have e4:(c+x*2^k)%base=c+x%m*2^k:=by
  have h1:=jy (c+x*2^k) base;rw[e3]at h1;have h2:=jy x m;have h3:x*2^k=base*(x/m)+x%m*2^k:=by
   rw[hm]
   conv=>lhs;rw[<-h2]
   rw[fP,BR]
  generalize base*(x/m)=z at h1 h3;omega
 refine⟨?_,e3.trans e2.symm,?_⟩
 ·have:=N1 (i:=k) hc (x%m);rw[e1,e4,Nat.or_comm,cX,<-this];omega
 ·rw[e2,iQ rM,cX,<-hm];exact hx
theorem aJO(hk:k<=31):(a%base^i*2^k)/base^i%base=(a%base^i*2^k)/base^i/\(a%base^i*2^k)/base^i<2^k:=by
 have hp:0<base^i:=cO d_;have h1:(a%base^i*2^k)/base^i<2^k:=by rw[iQ hp,cX];exact ZJ (cP _ hp) (cO d_)
 refine⟨dW (cF h1 ?_),h1⟩;exact dh (di d_ hk) d_
theorem aJP:(a%base^(i+1)*2^k)/base^i=(a%base^i*2^k)/base^i+a/base^i%base*2^k:=by have hp:0<base^i:=cO d_;rw[pM,fP,BR,pN _ _ hp]
def sY(n a k i:Nat):aT:=[(14,vI i),(13,vI n),(12,sl 0 n),(5,sl 1 (n+1)),(1,vI k)]
def ph(n a k i:Nat):aM:=[(0,.view (ao (ae base n a))),(1,.row (ao (ae base (n+1) (a%base^i*2^k))) 179 1)]
theorem TF(hi:i<n)(hk:k<=31)(h63:n<35184372088832):
  ah prog Bs 40 (aI (ag f223 0)) (sY n a k i) (ph n a k i) 2 ⟨.normal,sY n a k (i+1),ph n a k (i+1),2⟩:=by
 have hx:=iu (B:=base) d_ a i;obtain⟨s1,s2⟩:=aJO (a:=a) (k:=k) (i:=i) hk;have s3:=aJP (a:=a) (k:=k) (i:=i);have jl:(ao (ae base (n+1) (a%base^i*2^k)))[i]?=some (aV ((a%base^i*2^k)/base^i)):=by rw[<-s1];exact lj (eR o_)
 have jL:∀ d e,d=(a%base^(i+1)*2^k)/base^i%base->e=(a%base^(i+1)*2^k)/base^(i+1)%base->((ae base (n+1) (a%base^i*2^k)).set i d).set (i+1) e=ae base (n+1) (a%base^(i+1)*2^k):=by
  intro d e hd he;refine aJM o_ hd he λt h1 h2=>?_;rcases e9 t i with h|h
  ·have e1:a%base^(i+1)*2^k=gJ base i (a%base^i*2^k) ((a%base^i*2^k)/base^i+a/base^i%base*2^k):=by unfold gJ;rw[pM,fP,fP,<-uW,Nat.mod_add_div',BR]
   rw[e1,Tz d_ h]
  ·have hp:0<base^i:=cO d_;have b1:a%base^i*2^k<base^(i+1):=by rw[dH];exact aAJ (cP _ hp) (dh (di d_ hk) d_) d_
   have b2:a%base^(i+1)*2^k<base^(i+2):=by rw[dH _ (i+1)];exact aAJ (cP _ (cO d_)) (dh (di d_ hk) d_) d_
   rw[rH b1 o_ d_,rH b2 o_ d_]
 generalize hc:(a%base^i*2^k)/base^i=c at *;generalize HX:a/base^i%base=x at *;obtain⟨t1,t2,t3⟩:=aJN hk hx s2;have hd:(c||| x*2^k%base)=(a%base^(i+1)*2^k)/base^i%base:=by rw[s3,t1]
 have he:x*2^k/base=(a%base^(i+1)*2^k)/base^(i+1)%base:=by
  have e5:∀ Z:Nat,Z/base^(i+1)=Z/base^i/base:=λZ=>by rw[dH,lg]
  rw[e5,s3,t2];exact(dW (cF t3 (dh (di d_ hk) d_))).symm
 have jL:=jL _ _ hd he;have h64:x*2^k<18446744073709551616:=by have h1:x*2^k<=(base-1)*2^31:=xB o_ (di d_ hk);exact eZ h1 d_
 have w25:IntKind.u32.wrap ((x:Int)*2^(min k IntKind.u32.bits))=((x*2^k%base:Nat):Int):=by
  have e:(x:Int)*2^k=((x*2^k:Nat):Int):=by simp
  rw[show min k IntKind.u32.bits=k from oz (by show k<=32;omega),nV,e];unfold base;omega
 have w34:IntKind.u64.wrap ((x:Int)*2^(min k IntKind.u64.bits))=((x*2^k:Nat):Int):=by
  have e:(x:Int)*2^k=((x*2^k:Nat):Int):=by simp
  rw[show min k IntKind.u64.bits=k from oz (by show k<=64;omega),ko,e];omega
 have q1:x*2^k%base<base:=cP _ d_;have q2:c<base:=cF s2 (dh (di d_ hk) d_);have q3:x*2^k/base<base:=cF t3 (dh (di d_ hk) d_);have KB:fp prog 179 (ao (ae base (n+1) (a%base^i*2^k))) i (aV (c||| x*2^k%base))=some (ao ((ae base (n+1) (a%base^i*2^k)).set i (c||| x*2^k%base))):=by rw[zC _ _ _ (by simp[ao,o8];omega),zD]
 have TG:fp prog 179 (ao ((ae base (n+1) (a%base^i*2^k)).set i (c||| x*2^k%base))) (i+1) (aV (x*2^k/base))=some (ao (ae base (n+1) (a%base^(i+1)*2^k))):=by rw[zC _ _ _ (by simp[ao,o8];omega),zD,jL]
 generalize x*2^k=y at *;generalize lI:(c||| y%base)=d at *;exact aD [.lt 15 i n true (by simp[hi]),.ix f223 17 0 n i hi k_,.ld f223 18 179 0 i (.view (ao (ae base n a))) (aV x) rfl (by rw[gi,<-HX];exact lj (eR hi)) k_,.ix f223 21 1 (n+1) i o_ k_,.ld f223 22 179 1 i (.row (ao (ae base (n+1) (a%base^i*2^k))) 179 1) (aV c) rfl (by rw[gi];exact jl) k_,.shl f223 25 .u32 (x:Int) ((y%base:Nat):Int) k w25 k_,.quo 26 .u32 _ ((d:Nat):Int) ((S7 q2 q1).trans (by rw[lI])),.ix f223 27 1 (n+1) i o_ k_,.st f223 100027 179 1 i (.row (ao (ae base (n+1) (a%base^i*2^k))) 179 1) (aV d) (.row (ao ((ae base (n+1) (a%base^i*2^k)).set i d)) 179 1) rfl KB rfl k_,.sum 30 i 1 (i+1) rfl o_,.wr 32 .u64 (x:Int) (x:Int) (by rw[ko];unfold base at hx;omega),.shl f223 34 .u64 (x:Int) (y:Int) k w34 k_,.quo 35 .u64 ((y:Int).fdiv ((2:Int)^32)) ((y/base:Nat):Int) (by rw[sR _ d_];unfold base;omega),.wr 36 .u32 ((y/base:Nat):Int) ((y/base:Nat):Int) (by rw[nV];unfold base at q3 ⊢;omega),.ix f223 37 1 (n+1) (i+1) o_ k_,.st f223 100037 179 1 (i+1) (.row (ao ((ae base (n+1) (a%base^i*2^k)).set i d)) 179 1) (aV (y/base)) (.row (ao (ae base (n+1) (a%base^(i+1)*2^k))) 179 1) rfl TG rfl k_,.sum 38 i 1 (i+1) rfl o_]
theorem TH(hk:k<=31)(h63:n<35184372088832):
  ah prog Bs 40 (.block 0 (ag f223 0)) (sY n a k 0) (ph n a k 0) 2 ⟨.normal,sY n a k n,ph n a k n,2⟩:=
 cd (cx (b:=aI (ag f223 0)) (r:=⟨.exit 0,sY n a k n,ph n a k n,2⟩) n (sY n a k) (ph n a k) (λi t _=>kk (l:=ph n a k i) (m:=ph n a k 0) rfl t) (λi hi=>TF hi hk h63)
  (aD [.lt 15 n n false s_]) n_)
end
def aAK(w w':h_)(v:i_)(n a:Nat):Prop:=w'.ownsRow w.heap.size 179 1 v n (ao (ae base n a))
theorem aJQ(gG:iR w va a)(hk:k<=31)(h1:nd base a<35184372088832):
  Calls prog 223 #[va,vI k] w λe w'=>∃ v,e=.returned v/\aAK w w' v (nd base a+1) (a*2^k)/\Below w.heap.size w w':=by
 have al:=eB (B:=base) d_ a;have hl:∀ s∈[cG.row va (nd base a) (ao (ae base (nd base a) a)),.plain (vI k)],s.OK w:=by
  intro s hs;simp at hs;rcases hs with rfl|rfl
  ·exact⟨gG,fR _⟩
  ·exact rfl
 unfold iR at gG;generalize nd base a=n at *;have bh:a%base^n=a:=dW al
 refine l9 (Q:=λe w'=>∃ v,e=.returned v/\aAK w w' v (n+1) (a*2^k)/\Below w.heap.size w w') mixed func223 [cG.row va n (ao (ae base n a)),.plain (vI k)] hl 100 (N:=40) k_
  (rs:=[(aY.sum 10 n 1 (n+1) rfl o_:aY prog (aa.at w) 40),.qy f223 11 1 (n+1) 179 4 (aV 0) (ao (ae base (n+1) (a%base^0*2^k))) (by rw[sS,uf,kQ,Td,Fm]) rfl rfl o_ (by simp[maxLen];omega) k_,.code 0 _ _ _ _ _ (TH (n:=n) (a:=a) hk h1)])
  (v:=sl 1 (n+1)) (ms:=[(1,.row (ao (ae base (n+1) (a%base^n*2^k))) 179 1)]) k_ λaA ct v' w' hc bJ dP _=>⟨v',rfl,?_,bJ.base⟩
 have:=xm bJ (dP _ (aR ..)) hc (by simp[ao,o8]) (fR _);rw[kG (by simp[ao,o8]),bh]at this;exact this
def bl(x:Nat):Nat:=if x=0 then 0 else x.log2+1
theorem TI{x:Nat}(h:2^k<=x):bl x=bl (x/2^k)+k:=by
 have hp:0<2^k:=cO d_;have hx:x≠0:=by omega
 have hq:0<x/2^k:=Oi h hp;unfold bl;rw[az hx,az o_];have h1:=aAL (n:=x/2^k) o_;have h2:=Nat.lt_log2_self (n:=x/2^k);have e:x.log2=(x/2^k).log2+k:=by
  rw[Nat.log2_eq_iff hx];constructor
  ·rw[eU];exact(Dz hp).1 h1
  ·rw[show(x/2^k).log2+k+1=((x/2^k).log2+1)+k by omega,eU];exact(iQ hp).1 h2
 omega
theorem aAM{x n:Nat}(h:x<2^n):bl x<=n:=by
 unfold bl;split
 ·omega
 ·rename_i hx;have:=aAL hx;rcases e9 x.log2 n with h1|h1
  ·omega
  ·have:=di (show 0<2 by decide) h1;omega
theorem aJR{x:Nat}(h:x≠0):∃ k,bl x=k+1/\2^k<=x/\x<2^(k+1):=by refine⟨x.log2,by unfold bl;rw[az h],aAL h,Nat.lt_log2_self⟩
section
variable{P:j_}{B:aa}{N:Nat}
theorem aJS(ho:HH P o=true){kd:IntKind}{s:ByteArray}{c:UInt8}(hc:s[i]?=some c):cI P B o [.string s,.int kd i] [] (.int .u8 (c.toNat:Int)) []:=by
 unfold HH at ho;split at ho
 ·rename_i t p q ck;split at ho
  ·rename_i ht;refine(CV (λu hu=>by simp at hu;rcases hu with rfl|rfl<;>rfl) rfl λρ gu w _=>?_).step;rw[ck]at gu;simp[Op.operands]at gu;have h0:(0:Int)<=(i:Int):=by omega
   simp[execOp,ck,gu.1,gu.2,Instr.index,asIntOf,jM ht,h0,hc]
  ·cases ho
 ·cases ho
def aY.Oj(fn:Func)(key:Nat)(kd:IntKind)(s:ByteArray)(i:Nat)(c:UInt8)(hc:s[i]?=some c)(ho:HH P (au fn key)=true):aY P B N:=
 .step key (au fn key) [.string s,.int kd i] [] (.int .u8 (c.toNat:Int)) [] (aJS ho hc)
end
noncomputable def HY:ByteArray:=match (au f235 16).op with|.index _ (.const (.string s)) _=>s|_=>default
theorem aJT:∀ i,i<256->HY[i]?=some (UInt8.ofNat (bl i)):=by decide +kernel
theorem aJU{x:Nat}(hx:x<base):aG prog 235 [aV x] (vI (bl x)):=by
 have fin:∀ z,z<256->∃ c:UInt8,HY[z]?=some c/\c.toNat=bl z:=λz hz=>⟨_,aJT z hz,by have:=aAM (x:=z) (n:=8) hz;rw[Oa];exact dW o_⟩
 have w8:∀ z,z<256->IntKind.u8.wrap ((z:Nat):Int)=(z:Int):=λz h=>by rw[aAr];omega
 have shr:∀(z k:Nat),(z:Int).fdiv ((2:Int)^k)=((z/2^k:Nat):Int):=λz k=>by rw[sR _ (HR d_),ug,HT];rfl
 by_cases h1:65536<=x
 ·have e1:=TI (k:=16) h1;obtain⟨y,hy⟩:∃ y,y=x/2^16:=⟨_,rfl⟩;have Hm:y<65536:=by rw[hy];unfold base at hx;omega
  by_cases h2:256<=y
  ·have e2:=TI (x:=y) (k:=8) h2;obtain⟨z,hz⟩:∃ z,z=y/2^8:=⟨_,rfl⟩;have BS:z<256:=by rw[hz];omega
   obtain⟨c,c1,c2⟩:=fin z BS;have e:bl x=24+c.toNat:=by rw[e1,<-hy,e2,<-hz,c2];omega
   rw[e];exact bC func235 (λ_=>[.ge 4 x 65536 true (by simp[h1]),.quo 6 .u32 ((x:Int).fdiv ((2:Int)^16)) (y:Int) (by rw[shr,hy]),.ge 8 y 256 true (by simp[h2]),.quo 10 .u32 ((y:Int).fdiv ((2:Int)^8)) (z:Int) (by rw[shr,hz]),.wr 15 .u8 (z:Int) (z:Int) (w8 z BS),.Oj f235 16 .u8 HY z c c1 k_,.wr 17 .i64 (c.toNat:Int) (c.toNat:Int) (by rw[eh];have:=c.toNat_lt;omega),.sum 18 24 c.toNat (24+c.toNat) rfl (by have:=c.toNat_lt;omega)])
  ·obtain⟨c,c1,c2⟩:=fin y o_;have e:bl x=16+c.toNat:=by rw[e1,<-hy,c2];omega
   rw[e];exact bC func235 (λ_=>[.ge 4 x 65536 true (by simp[h1]),.quo 6 .u32 ((x:Int).fdiv ((2:Int)^16)) (y:Int) (by rw[shr,hy]),.ge 8 y 256 false (by simp;omega),.wr 15 .u8 (y:Int) (y:Int) (w8 y o_),.Oj f235 16 .u8 HY y c c1 k_,.wr 17 .i64 (c.toNat:Int) (c.toNat:Int) (by rw[eh];have:=c.toNat_lt;omega),.sum 18 16 c.toNat (16+c.toNat) rfl (by have:=c.toNat_lt;omega)])
 ·by_cases h2:256<=x
  ·have e2:=TI (x:=x) (k:=8) h2;obtain⟨z,hz⟩:∃ z,z=x/2^8:=⟨_,rfl⟩;have BS:z<256:=by rw[hz];omega
   obtain⟨c,c1,c2⟩:=fin z BS;have e:bl x=8+c.toNat:=by rw[e2,<-hz,c2];omega
   rw[e];exact bC func235 (λ_=>[.ge 4 x 65536 false (by simp;omega),.ge 8 x 256 true (by simp[h2]),.quo 10 .u32 ((x:Int).fdiv ((2:Int)^8)) (z:Int) (by rw[shr,hz]),.wr 15 .u8 (z:Int) (z:Int) (w8 z BS),.Oj f235 16 .u8 HY z c c1 k_,.wr 17 .i64 (c.toNat:Int) (c.toNat:Int) (by rw[eh];have:=c.toNat_lt;omega),.sum 18 8 c.toNat (8+c.toNat) rfl (by have:=c.toNat_lt;omega)])
  ·obtain⟨c,c1,c2⟩:=fin x o_;have e:bl x=0+c.toNat:=by rw[c2];omega
   rw[e];exact bC func235 (λ_=>[.ge 4 x 65536 false (by simp;omega),.ge 8 x 256 false (by simp;omega),.wr 15 .u8 (x:Int) (x:Int) (w8 x o_),.Oj f235 16 .u8 HY x c c1 k_,.wr 17 .i64 (c.toNat:Int) (c.toNat:Int) (by rw[eh];have:=c.toNat_lt;omega),.sum 18 0 c.toNat (0+c.toNat) rfl (by have:=c.toNat_lt;omega)])
theorem aJV{x:Nat}(hx:x<base):aG prog 222 [aV x] (vI (32-bl x)):=
 bC func222 (λ_=>[(aJU hx).at 4,.fq 5 32 (bl x) (32-bl x) (by have:=aAM (x:=x) (n:=32) hx;omega) o_])
def qI(x:Nat):Value:=.int .u64 (x:Int)
theorem rN{x:Nat}(h:x<18446744073709551616):IntKind.u64.wrap (x:Int)=(x:Int):=by rw[ko];omega
theorem TJ{x:Nat}(h:x<base):IntKind.u64.wrap ((x:Int)*2^32)=((x*base:Nat):Int):=by
 have e:(x:Int)*2^32=((x*base:Nat):Int):=by rw[oy];rfl
 rw[e];exact rN (by have:=BN (k:=base) h d_;exact cF this d_)
theorem TK{x y:Nat}(hx:x<base)(hy:y<base):IntKind.u64.wrap (((BitVec.ofInt IntKind.u64.bits ((x*base:Nat):Int))||| (BitVec.ofInt IntKind.u64.bits (y:Int))).toNat:Int)=((x*base+y:Nat):Int):=by
 have h1:x*base<18446744073709551616:=by have:=BN (k:=base) hx d_;exact cF this d_
 have h2:=N1 (i:=32) hy x;rw[Ti h1 (mJ hy d_),cX x base];exact cS _ h2.symm
section
variable{Bs:aa}{j m L R V T v1 v2 u2:Nat}
def us(j m:Nat):Value:=.slice (some ⟨0,j,some 7⟩) (m+1) j
def ll(j m q r:Nat):aT:=[(7,qI q),(8,qI r),(5,vI m),(0,us j m),(1,sl 1 m)]
def iy(L R m V:Nat):aM:=[(0,.row (ao (ae base L R)) 179 1),(1,.view (ao (ae base m V)))]
structure DG(j e L R V T v1 v2 u2:Nat):Prop where
 ds:mK base e (R/base^j) V T u2 v1 v2
 hL:j+(e+2)+1<=L
 hV:V<base^(e+2)
 h63:L<35184372088832
section
variable{e:Nat}(h:DG j e L R V T v1 v2 u2)
include h
theorem DG.hR:R/base^j<base^(e+3):=by have h1:=h.ds.hU;have h2:V*base<=base^(e+2)*base:=eE _ (j5 h.hV);rw[<-dH]at h2;exact cF h1 h2
theorem DG.ud(hi:i<=e+2):(ao (ae base L R))[j+i]?=some (aV (R/base^j/base^i%base)):=by rw[<-HV];exact lj (eR (by have:=h.hL;omega))
omit h in
theorem DG.vd(hi:i<e+2):(ao (ae base (e+2) V))[i]?=some (aV (V/base^i%base)):=lj (eR hi)
theorem DG.TL:V/base^(e+1)%base=v1:=by rw[h.ds.kC];exact Fj h.hV
theorem DG.aAN:R/base^j/base^(e+2)%base*base+R/base^j/base^(e+1)%base=T:=by rw[Fj (h.hR),h.ds.hT,<-xw]
theorem DG.u2d:R/base^j/base^e%base=u2:=h.ds.hu.symm
theorem DG.v2d:V/base^e%base=v2:=h.ds.il.symm
end
noncomputable def TM(h:DG j e L R V T v1 v2 u2)(q r:Nat)(HZ:q<base)(hr:r<base)(tr:Bool)(hq:tr=decide (r*base+u2<q*v2))(more:bM prog Bs 159):bM prog Bs 159:=
 have il:v2<base:=by rw[h.ds.il];exact cP _ d_
 have e8:u2<base:=by rw[h.ds.hu];exact cP _ d_
 have hp:q*v2<18446744073709551616:=cF (qA HZ il) d_;
  .ge 48 q 4294967296 false (by simp;exact HZ)::.fq 53 (e+2) 2 e rfl (by have:=h.hL;have:=h.h63;omega)::.ix f224 54 1 (e+2) e o_ k_::
  .ld f224 55 179 1 e (.view (ao (ae base (e+2) V))) (aV v2) rfl (by rw[gi,<-h.v2d];exact DG.vd o_) k_::.wr 56 .u64 (v2:Int) (v2:Int) (rN (mJ il d_))::
  .wr 57 .u64 ((q:Int)*(v2:Int)) ((q*v2:Nat):Int) (by rw[<-oy];exact rN hp)::.wr 59 .u64 ((r:Int)*2^32) ((r*base:Nat):Int) (TJ hr)::
  .fq 62 (e+2) 2 e rfl (by have:=h.hL;have:=h.h63;omega)::.xo f224 63 0 j (e+3) j e o_ k_::
  .ld f224 64 179 0 (j+e) (.row (ao (ae base L R)) 179 1) (aV u2) rfl (by rw[gi,<-h.u2d];exact h.ud o_) k_::.wr 65 .u64 (u2:Int) (u2:Int) (rN (mJ e8 d_))::
  .quo 66 .u64 _ ((r*base+u2:Nat):Int) (TK hr e8)::.gt 67 (q*v2) (r*base+u2) tr hq.symm::more
noncomputable def Ol(h:DG j e L R V T v1 v2 u2)(q r:Nat)(hq:0<q/\q<18446744073709551616)(hr:r<base)(tr:Bool)(ht:tr=decide (base<=r+v1)):bM prog Bs 159:=
 have kC:v1<base:=h.ds.Dy;
 [.wr 70 .u64 ((q:Int)-1) ((q-1:Nat):Int) (by rw[ko];omega),.fq 74 (e+2) 1 (e+1) rfl (by have:=h.hL;have:=h.h63;omega),.ix f224 75 1 (e+2) (e+1) o_ k_,.ld f224 76 179 1 (e+1) (.view (ao (ae base (e+2) V))) (aV v1) rfl (by rw[gi,<-h.TL];exact DG.vd o_) k_,.wr 77 .u64 (v1:Int) (v1:Int) (rN (mJ kC d_)),.wr 78 .u64 ((r:Int)+(v1:Int)) ((r+v1:Nat):Int) (by rw[<-wj];exact rN (by unfold base at hr kC;omega)),.ge 80 (r+v1) 4294967296 tr ht.symm]
section
variable{e:Nat}(h:DG j e L R V T v1 v2 u2)
include h
theorem aAO(HZ:q<base)(hr:r<base)(hq:q*v2<=r*base+u2):
  ah prog Bs 159 (aI (ag f224 0)) (ll j (e+2) q r) (iy L R (e+2) V) 2 ⟨.exit 0,ll j (e+2) q r,iy L R (e+2) V,2⟩:=
 aD (TM h q r HZ hr false (by simp;omega) [])
theorem aJW(hq:0<q/\q<18446744073709551616)(hr:r<base)(hc:base<=q\/r*base+u2<q*v2)(ht:r+v1<base):
  ah prog Bs 159 (aI (ag f224 0)) (ll j (e+2) q r) (iy L R (e+2) V) 2 ⟨.normal,ll j (e+2) (q-1) (r+v1),iy L R (e+2) V,2⟩:=by
 by_cases hb:base<=q
 ·exact aD (.ge 48 q 4294967296 true (by simp;exact hb)::Ol h q r hq hr false (by simp;omega))
 ·exact aD (TM h q r o_ hr true (by simp[hc.resolve_left hb]) (Ol h q r hq hr false (by simp;omega)))
theorem aAP(hq:0<q/\q<18446744073709551616)(hr:r<base)(hc:base<=q\/r*base+u2<q*v2)(ht:base<=r+v1):
  ah prog Bs 159 (aI (ag f224 0)) (ll j (e+2) q r) (iy L R (e+2) V) 2 ⟨.exit 0,ll j (e+2) (q-1) (r+v1),iy L R (e+2) V,2⟩:=by
 by_cases hb:base<=q
 ·exact aD (.ge 48 q 4294967296 true (by simp;exact hb)::Ol h q r hq hr true (by simp;omega))
 ·exact aD (TM h q r o_ hr true (by simp[hc.resolve_left hb]) (Ol h q r hq hr true (by simp;omega)))
theorem aJX:∃ q r,ah prog Bs 159 (.block 0 (ag f224 0)) (ll j (e+2) (T/v1) (T%v1)) (iy L R (e+2) V) 2 ⟨.normal,ll j (e+2) q r,iy L R (e+2) V,2⟩/\q<base/\q*V<R/base^j+V/\R/base^j/V<=q:=by
 have kC:v1<base:=h.ds.Dy;have xJ:=h.ds.top;have FE:0<v1:=by unfold base at xJ;omega
 have nA:T%v1<v1:=cP _ FE;have g0:=h.ds.start;have sm:∀{q r},BM (R/base^j) V T v1 q r->q<18446744073709551616:=λg=>eZ (h.ds.aJB g) d_;have one:∀{q r q' r':Nat},ah prog Bs 159 (.loop (aI (ag f224 0))) (ll j (e+2) q r) (iy L R (e+2) V) 2 ⟨.exit 0,ll j (e+2) q' r',iy L R (e+2) V,2⟩->
   ah prog Bs 159 (.block 0 (ag f224 0)) (ll j (e+2) q r) (iy L R (e+2) V) 2 ⟨.normal,ll j (e+2) q' r',iy L R (e+2) V,2⟩:=λg=>cd (id:=0) g
 have zero:∀{q r:Nat} {o:mF},o.ex≠.normal->ah prog Bs 159 (aI (ag f224 0)) (ll j (e+2) q r) (iy L R (e+2) V) 2 o->ah prog Bs 159 (.loop (aI (ag f224 0))) (ll j (e+2) q r) (iy L R (e+2) V) 2 o:=λ{q r o} ho g=>
  cx (P:=prog) (B:=Bs) (N:=159) (b:=aI (ag f224 0)) (next:=2) 0 (λ_=>ll j (e+2) q r) (λ_=>iy L R (e+2) V) (λ_ _ _=>Iff.rfl) (λi hi=>by omega) g ho
 generalize T/v1=q0 at *;generalize T%v1=r0 at *;by_cases c1:base<=q0\/r0*base+u2<q0*v2
 ·obtain⟨p1,g1⟩:=h.ds.less g0 c1;by_cases t1:base<=r0+v1
  ·obtain⟨a1,a2⟩:=h.ds.fin g1 (.inr t1);exact⟨_,_,one (zero n_ (aAP h ⟨p1,sm g0⟩ o_ c1 t1)),a1,a2,g1.le⟩
  ·have t1:=Nat.not_le.1 t1;have two:∀{o:mF},o.ex≠.normal->ah prog Bs 159 (aI (ag f224 0)) (ll j (e+2) (q0-1) (r0+v1)) (iy L R (e+2) V) 2 o->ah prog Bs 159 (.loop (aI (ag f224 0))) (ll j (e+2) q0 r0) (iy L R (e+2) V) 2 o:=λ{o} ho g=>
    cx (P:=prog) (B:=Bs) (N:=159) (b:=aI (ag f224 0)) (next:=2) 1 (λi=>if i=0 then ll j (e+2) q0 r0 else ll j (e+2) (q0-1) (r0+v1)) (λ_=>iy L R (e+2) V) (λ_ _ _=>Iff.rfl) (λi hi=>by
     have:i=0:=by omega
     subst this;exact aJW h ⟨p1,sm g0⟩ o_ c1 t1) g ho
   by_cases c2:base<=q0-1\/(r0+v1)*base+u2<(q0-1)*v2
   ·obtain⟨p2,g2⟩:=h.ds.less g1 c2;have t2:=h.ds.aJA r0;obtain⟨a1,a2⟩:=h.ds.fin g2 (.inr t2);exact⟨_,_,one (two n_ (aAP h ⟨p2,sm g1⟩ t1 c2 t2)),a1,a2,g2.le⟩
   ·have TN:q0-1<base/\(q0-1)*v2<=(r0+v1)*base+u2:=by
     constructor
     ·exact Nat.not_le.1 λhh=>c2 (.inl hh)
     ·exact Kz.1 λhh=>c2 (.inr hh)
    obtain⟨a1,a2⟩:=h.ds.fin g1 (.inl TN);exact⟨_,_,one (two n_ (aAO h TN.1 t1 TN.2)),a1,a2,g1.le⟩
 ·have TO:q0<base/\q0*v2<=r0*base+u2:=by
   constructor
   ·exact Nat.not_le.1 λhh=>c1 (.inl hh)
   ·exact Kz.1 λhh=>c1 (.inr hh)
  obtain⟨a1,a2⟩:=h.ds.fin g0 (.inl TO);exact⟨_,_,one (zero n_ (aAO h TO.1 o_ TO.2)),a1,a2,g0.le⟩
end
end
section
variable{Bs:aa}{j L R V T v1 v2 u2:Nat}
theorem H0{L R S t:Nat}(ht:t<L)(h:i<=t):(ao (dc base L i S R))[t]?=some (aV (R/base^t%base)):=lj (Db ht h)
theorem KC{L R S:Nat}(hi:i<L)(hd:d=S/base^i%base):fp prog 179 (ao (dc base L i S R)) i (aV d)=some (ao (dc base L (i+1) S R)):=by rw[zC _ i _ (by simp[ao,xu];omega),zD,zz hi hd]
def gy(j m R V q:Nat):Nat:=gJ base j R (gw base m (R/base^j) V q)
def DC(j m R V q i:Nat):aT:=
 [(83,vI i),(82,vI m),(81,sl 1 m),(7,qI q),(9,qI (oH base q V i)),(10,aV (pf base (R/base^j) V q i)),(5,vI m),(0,us j m),(1,sl 1 m)]
def BT(j m L R V q i:Nat):aM:=[(0,.row (ao (dc base L (j+i) (gy j m R V q) R)) 179 1),(1,.view (ao (ae base m V)))]
section
variable{e q:Nat}(h:DG j e L R V T v1 v2 u2)(hq:q<base)(qw:q*V<R/base^j+V)
include h hq qw
omit hq in
theorem DG.qle:q*V<=R/base^j+base^(e+3):=by have h1:V<=base^(e+3):=dh (j5 h.hV) (di d_ o_);omega
omit hq in
theorem DG.sub(hi:i<=e+2):aG prog 219 [aV (R/base^j/base^i%base),aV ((oH base q V i+q*(V/base^i%base))%base),aV (pf base (R/base^j) V q i)]
  (.tuple #[aV (gy j (e+2) R V q/base^(j+i)%base),aV (pf base (R/base^j) V q (i+1))]):=by
 have hb:pf base (R/base^j) V q i<=1:=NO _ _ _;have:=ZW (x:=R/base^j/base^i%base) (y:=(oH base q V i+q*(V/base^i%base))%base) (b:=pf base (R/base^j) V q i) (cP _ d_) (cP _ d_) hb;rw[aJI d_ (h.qle qw) hi,aJJ d_]at this;unfold gy;rw[xH d_];exact this
theorem aJY(hi:i<e+2):
  ah prog Bs 159 (aI (ag f224 2)) (DC j (e+2) R V q i) (BT j (e+2) L R V q i) 2 ⟨.normal,DC j (e+2) R V q (i+1),BT j (e+2) L R V q (i+1),2⟩:=by
 have hL:=h.hL;have h63:=h.h63;have xz:=h.sub qw (show i<=e+2 by omega);have hc:=aAx (B:=base) d_ hq V i;have v7:=aJD (B:=base) d_ q V i;have hv:V/base^i%base<base:=cP _ d_;have bT:fp prog 179 (ao (dc base L (j+i) (gy j (e+2) R V q) R)) (j+i) (aV (gy j (e+2) R V q/base^(j+i)%base))=some (ao (dc base L (j+(i+1)) (gy j (e+2) R V q) R)):=KC o_ rfl;have TP:=DG.vd (V:=V) hi;have TQ:(ao (dc base L (j+i) (gy j (e+2) R V q) R))[j+i]?=some (aV (R/base^j/base^i%base)):=by rw[<-HV];exact H0 o_ (bF _)
 generalize R/base^j/base^i%base=x at *;generalize V/base^i%base=y at *;generalize hC:oH base q V i=C at *;have hp:q*y<18446744069414584321:=by have h1:q*y<=(base-1)*(base-1):=xB o_ o_;exact eZ h1 d_
 have hs:C+q*y<18446744073709551616:=by unfold base at hc;omega
 have e1:DC j (e+2) R V q i=[(83,vI i),(82,vI (e+2)),(81,sl 1 (e+2)),(7,qI q),(9,qI C),(10,aV (pf base (R/base^j) V q i)),(5,vI (e+2)),(0,us j (e+2)),(1,sl 1 (e+2))]:=by unfold DC;rw[hC]
 rw[e1];generalize hP:q*y=W at *;exact aD [.lt 84 i (e+2) true (by simp[hi]),.ix f224 86 1 (e+2) i hi k_,.ld f224 87 179 1 i (.view (ao (ae base (e+2) V))) (aV y) rfl (by rw[gi];exact TP) k_,.wr 91 .u64 (y:Int) (y:Int) (rN (mJ hv d_)),.wr 92 .u64 ((q:Int)*(y:Int)) (W:Int) (by rw[<-oy,hP];exact rN o_),.wr 93 .u64 ((C:Int)+(W:Int)) ((C+W:Nat):Int) (by rw[<-wj];exact rN hs),.xo f224 99 0 j (e+3) j i o_ k_,.ld f224 100 179 0 (j+i) (.row (ao (dc base L (j+i) (gy j (e+2) R V q) R)) 179 1) (aV x) rfl (by rw[gi];exact TQ) k_,.wr 102 .u32 ((C+W:Nat):Int) (((C+W)%base:Nat):Int) (by rw[nV];unfold base;omega),xz.at 104,.xo f224 107 0 j (e+3) j i o_ k_,.st f224 100107 179 0 (j+i) (.row (ao (dc base L (j+i) (gy j (e+2) R V q) R)) 179 1) (aV (gy j (e+2) R V q/base^(j+i)%base)) (.row (ao (dc base L (j+(i+1)) (gy j (e+2) R V q) R)) 179 1) rfl bT rfl k_,.quo 109 .u64 (((C+W:Nat):Int).fdiv ((2:Int)^32)) ((oH base q V (i+1):Nat):Int) (by rw[sR _ d_,<-v7];unfold base;omega),.sum 110 i 1 (i+1) rfl o_]
omit h hq qw in
theorem aJZ:BT j (e+2) L R V q 0=iy L R (e+2) V:=by unfold BT iy gy;rw[jg,Of d_]
theorem aJ0:ah prog Bs 159 (.block 2 (ag f224 2)) (DC j (e+2) R V q 0) (iy L R (e+2) V) 2 ⟨.normal,DC j (e+2) R V q (e+2),BT j (e+2) L R V q (e+2),2⟩:=by
 rw[<-aJZ (q:=q)];exact cd (id:=2) (cx (b:=aI (ag f224 2)) (r:=⟨.exit 2,DC j (e+2) R V q (e+2),BT j (e+2) L R V q (e+2),2⟩) (e+2) (DC j (e+2) R V q) (BT j (e+2) L R V q) (λi t _=>kk (l:=BT j (e+2) L R V q i) (m:=BT j (e+2) L R V q 0) rfl t)
  (λi hi=>aJY h hq qw hi) (aD [.lt 84 (e+2) (e+2) false s_]) n_)
end
def nW(j m R V q:Nat):Nat:=gJ base j R ((gw base m (R/base^j) V q+V)%base^(m+1))
def H2(j m R V q i:Nat):aT:=
 [(131,vI i),(130,vI m),(129,sl 1 m),(13,aV (fh base (gw base m (R/base^j) V q) V i)),(7,qI (q-1)),(5,vI m),(0,us j m),(1,sl 1 m)]
def BU(j m L R V q i:Nat):aM:=[(0,.row (ao (dc base L (j+i) (nW j m R V q) (gy j m R V q))) 179 1),(1,.view (ao (ae base m V)))]
section
variable{e q:Nat}(h:DG j e L R V T v1 v2 u2)
include h
theorem aJ1(hi:i<e+2):
  ah prog Bs 159 (aI (ag f224 4)) (H2 j (e+2) R V q i) (BU j (e+2) L R V q i) 2 ⟨.normal,H2 j (e+2) R V q (i+1),BU j (e+2) L R V q (i+1),2⟩:=by
 have hL:=h.hL;have h63:=h.h63;have hc:=Bv (B:=base) d_ (gw base (e+2) (R/base^j) V q) V i;have zF:=Kj (x:=gw base (e+2) (R/base^j) V q/base^i%base) (y:=V/base^i%base) (c:=fh base (gw base (e+2) (R/base^j) V q) V i) (cP _ d_) (cP _ d_) (eZ hc d_);rw[TC d_ (show i<=e+2 by omega),Fk d_]at zF;have bT:fp prog 179 (ao (dc base L (j+i) (nW j (e+2) R V q) (gy j (e+2) R V q))) (j+i) (aV ((gw base (e+2) (R/base^j) V q+V)%base^(e+2+1)/base^i%base))=some (ao (dc base L (j+(i+1)) (nW j (e+2) R V q) (gy j (e+2) R V q))):=
  KC o_ (by unfold nW;rw[xH d_])
 have TP:=DG.vd (V:=V) hi;have TQ:(ao (dc base L (j+i) (nW j (e+2) R V q) (gy j (e+2) R V q)))[j+i]?=some (aV (gw base (e+2) (R/base^j) V q/base^i%base)):=by have:=H0 (L:=L) (i:=j+i) (R:=gy j (e+2) R V q) (S:=nW j (e+2) R V q) (t:=j+i) o_ (bF _);rw[this];unfold gy;rw[xH d_]
 exact aD [.lt 132 i (e+2) true (by simp[hi]),.ix f224 134 1 (e+2) i hi k_,.ld f224 135 179 1 i (.view (ao (ae base (e+2) V))) (aV (V/base^i%base)) rfl (by rw[gi];exact TP) k_,.xo f224 141 0 j (e+3) j i o_ k_,.ld f224 142 179 0 (j+i) (.row (ao (dc base L (j+i) (nW j (e+2) R V q) (gy j (e+2) R V q))) 179 1) (aV (gw base (e+2) (R/base^j) V q/base^i%base)) rfl (by rw[gi];exact TQ) k_,zF.at 145,.xo f224 148 0 j (e+3) j i o_ k_,.st f224 100148 179 0 (j+i) (.row (ao (dc base L (j+i) (nW j (e+2) R V q) (gy j (e+2) R V q))) 179 1) (aV ((gw base (e+2) (R/base^j) V q+V)%base^(e+2+1)/base^i%base)) (.row (ao (dc base L (j+(i+1)) (nW j (e+2) R V q) (gy j (e+2) R V q))) 179 1) rfl bT rfl k_,.sum 149 i 1 (i+1) rfl o_]
omit h in
theorem aJ2:BU j (e+2) L R V q 0=iy L (gy j (e+2) R V q) (e+2) V:=by unfold BU iy nW;rw[jg,<-aAy (B:=base) d_ j R (gw base (e+2) (R/base^j) V q)];unfold gy;rw[Of d_]
theorem aJ3:ah prog Bs 159 (.block 4 (ag f224 4)) (H2 j (e+2) R V q 0) (iy L (gy j (e+2) R V q) (e+2) V) 2 ⟨.normal,H2 j (e+2) R V q (e+2),BU j (e+2) L R V q (e+2),2⟩:=by
 rw[<-aJ2 (q:=q)];exact cd (id:=4) (cx (b:=aI (ag f224 4)) (r:=⟨.exit 4,H2 j (e+2) R V q (e+2),BU j (e+2) L R V q (e+2),2⟩) (e+2) (H2 j (e+2) R V q) (BU j (e+2) L R V q) (λi t _=>kk (l:=BU j (e+2) L R V q i) (m:=BU j (e+2) L R V q 0) rfl t)
  (λi hi=>aJ1 h hi) (aD [.lt 132 (e+2) (e+2) false s_]) n_)
end
noncomputable def aAQ(h:DG j e L R V T v1 v2 u2)(hq:q<base)(qw:q*V<R/base^j+V)
  (hg:ah prog Bs 159 (.block 0 (ag f224 0)) (ll j (e+2) (T/v1) (T%v1)) (iy L R (e+2) V) 2 ⟨.normal,ll j (e+2) q r,iy L R (e+2) V,2⟩) (more:bM prog Bs 159):bM prog Bs 159:=
 have hL:=h.hL;have h63:=h.h63;have hx:R/base^j/base^(e+2)%base<base:=cP _ d_;have hy:R/base^j/base^(e+1)%base<base:=cP _ d_;have kC:v1<base:=h.ds.Dy;have FE:(v1:Int)≠0:=by have:=h.ds.top;unfold base at this;omega
 have hT:T<18446744073709551616:=by
  rw[<-h.aAN];have:R/base^j/base^(e+2)%base*base<=(base-1)*base:=eE _ o_;have e3:(base-1)*base=18446744069414584320:=by decide
  rw[e3]at this;clear e3;unfold base at *;omega
 have hc:=aAx (B:=base) d_ hq V (e+2);have h0:V/base^(e+2)%base=0:=rH h.hV (bF _) d_;have xz:=h.sub qw (bF (e+2))
 have aJ4:aG prog 219 [aV (R/base^j/base^(e+2)%base),aV (oH base q V (e+2)),aV (pf base (R/base^j) V q (e+2))]
   (.tuple #[aV (gy j (e+2) R V q/base^(j+(e+2))%base),aV (pf base (R/base^j) V q (e+3))]):=by
  rw[h0,Nat.mul_zero,jg (oH base q V (e+2)),dW hc]at xz;exact xz
 have jl:(ao (dc base L (j+(e+2)) (gy j (e+2) R V q) R))[j+(e+2)]?=some (aV (R/base^j/base^(e+2)%base)):=by rw[<-HV];exact H0 o_ (bF _)
 have bT:fp prog 179 (ao (dc base L (j+(e+2)) (gy j (e+2) R V q) R)) (j+(e+2)) (aV (gy j (e+2) R V q/base^(j+(e+2))%base))=some (ao (ae base L (gy j (e+2) R V q))):=by
  rw[KC o_ rfl,show j+(e+2)+1=j+(e+3)by omega,FD d_]
  ·have:=h.hR;have h2:=HU (B:=base) d_ (j:=j) R this;rw[aJE]at h2;exact h2
  ·exact HU d_ R (TA d_);
 .xo f224 20 0 j (e+3) j (e+2) o_ k_::.ld f224 21 179 0 (j+(e+2)) (.row (ao (ae base L R)) 179 1) (aV (R/base^j/base^(e+2)%base)) rfl (by rw[gi];exact h.ud (bF _)) k_::
 .wr 22 .u64 ((R/base^j/base^(e+2)%base:Nat):Int) ((R/base^j/base^(e+2)%base:Nat):Int) (rN (mJ hx d_))::
 .wr 23 .u64 (((R/base^j/base^(e+2)%base:Nat):Int)*2^32) ((R/base^j/base^(e+2)%base*base:Nat):Int) (TJ hx)::.fq 26 (e+2) 1 (e+1) rfl o_::
 .xo f224 27 0 j (e+3) j (e+1) o_ k_::.ld f224 28 179 0 (j+(e+1)) (.row (ao (ae base L R)) 179 1) (aV (R/base^j/base^(e+1)%base)) rfl (by rw[gi];exact h.ud o_) k_::
 .wr 29 .u64 ((R/base^j/base^(e+1)%base:Nat):Int) ((R/base^j/base^(e+1)%base:Nat):Int) (rN (mJ hy d_))::.quo 30 .u64 _ ((T:Nat):Int) ((TK hx hy).trans (by rw[h.aAN]))::
 .fq 34 (e+2) 1 (e+1) rfl o_::.ix f224 35 1 (e+2) (e+1) o_ k_::.ld f224 36 179 1 (e+1) (.view (ao (ae base (e+2) V))) (aV v1) rfl (by rw[gi,<-h.TL];exact DG.vd o_) k_::
 .wr 37 .u64 (v1:Int) (v1:Int) (rN (mJ kC d_))::.wh f224 38 .u64 (T:Int) v1 ((T/v1:Nat):Int) FE (by rw[BD o_,<-ug];exact rN (eZ (uh _ _) hT)) k_::
 .fq 42 (e+2) 1 (e+1) rfl o_::.ix f224 43 1 (e+2) (e+1) o_ k_::.ld f224 44 179 1 (e+1) (.view (ao (ae base (e+2) V))) (aV v1) rfl (by rw[gi,<-h.TL];exact DG.vd o_) k_::
 .wr 45 .u64 (v1:Int) (v1:Int) (rN (mJ kC d_))::.Fq f224 46 .u64 (T:Int) v1 ((T%v1:Nat):Int) FE (by rw[zL o_];rfl) k_::
 .code 0 _ _ _ _ _ hg::.rw 9 (.int .u64 0) (qI (oH base q V 0)) (by rw[aJC];rfl)::.rw 10 (.int .u32 0) (aV (pf base (R/base^j) V q 0)) (by unfold pf;rw[S2];rfl)::
 .code 2 _ _ _ _ _ (aJ0 h hq qw)::.xo f224 116 0 j (e+3) j (e+2) o_ k_::.ld f224 117 179 0 (j+(e+2)) (.row (ao (dc base L (j+(e+2)) (gy j (e+2) R V q) R)) 179 1) (aV (R/base^j/base^(e+2)%base)) rfl (by rw[gi];exact jl) k_::
 .wr 119 .u32 ((oH base q V (e+2):Nat):Int) ((oH base q V (e+2):Nat):Int) (by rw[nV];unfold base at hc ⊢;omega)::aJ4.at 121::.xo f224 124 0 j (e+3) j (e+2) o_ k_::
 .st f224 100124 179 0 (j+(e+2)) (.row (ao (dc base L (j+(e+2)) (gy j (e+2) R V q) R)) 179 1) (aV (gy j (e+2) R V q/base^(j+(e+2))%base)) (.row (ao (ae base L (gy j (e+2) R V q))) 179 1) rfl bT rfl k_::more
theorem aJ5{g c':Nat}{vv:i_}(h:DG j e L R V T v1 v2 u2)(hg:w.heap[g]?=some (.cells cur 179 (0,0)))(hn:e+3<=c')(ni:j+c'=cap)(jW:cap<=maxLen)(bH:cur.size=cap*1)
  (hc:cur.toList.take (ao (ae base L R)).length=ao (ae base L R)) (hv:dp w vv (e+2) (ao (ae base (e+2) V))) (bw:∀ b o c,vv=.slice (some ⟨b,o,none⟩) (e+2) c->b≠g) :
  Calls prog 224 #[.slice (some ⟨g,j,none⟩) (e+3) c',vv] w λex w'=>ex=.returned (aV (R/base^j/V))/\Bx g w w'/\∃ gp,w'.heap[g]?=some (.cells gp 179 (0,0))/\gp.size=cap*1/\
   gp.toList.take (ao (ae base L (gJ base j R (R/base^j%V)))).length=ao (ae base L (gJ base j R (R/base^j%V))):=by
 obtain⟨q,r,H3,hq,qw,hle⟩:=aJX (Bs:=aa.we w g) h;have hU:=h.ds.hU;have lL:=aJL (B:=base) d_ hq h.hV hU;have hL:=h.hL;have h63:=h.h63;have aVS:q<18446744073709551616:=mJ hq d_;have key:∀(qq:Nat) (S:Nat) (rs:bM prog (aa.we w g) 159),qq=R/base^j/V->S=gJ base j R (R/base^j%V)->
   oX (hJ (P:=prog) f224 100 (us j (e+2)::sP 1 [cG.row vv (e+2) (ao (ae base (e+2) V))]) ((0,.row (ao (ae base L R)) 179 1)::vf 1 [cG.row vv (e+2) (ao (ae base (e+2) V))]) (uc 1 [cG.row vv (e+2) (ao (ae base (e+2) V))]) rs) [(0,.row (ao (ae base L S)) 179 1)] =
    oY (hJ f224 100 (us j (e+2)::sP 1 [cG.row vv (e+2) (ao (ae base (e+2) V))]) ((0,.row (ao (ae base L R)) 179 1)::vf 1 [cG.row vv (e+2) (ao (ae base (e+2) V))]) (uc 1 [cG.row vv (e+2) (ao (ae base (e+2) V))]) rs) (aV qq) [(0,.row (ao (ae base L S)) 179 1)]->
   Calls prog 224 #[.slice (some ⟨g,j,none⟩) (e+3) c',vv] w λex w'=>ex=.returned (aV (R/base^j/V))/\Bx g w w'/\∃ gp,w'.heap[g]?=some (.cells gp 179 (0,0))/\gp.size=cap*1/\
    gp.toList.take (ao (ae base L (gJ base j R (R/base^j%V)))).length=ao (ae base L (gJ base j R (R/base^j%V))):=by
  rintro qq S rs rfl rfl E7
  exact aJs (ms:=[]) (cells':=ao (ae base L (gJ base j R (R/base^j%V)))) (v:=aV (R/base^j/V)) mixed func224 hg jW bH hc (fR _) (fR _) hn ni [cG.row vv (e+2) (ao (ae base (e+2) V))]
   (λs hs=>by simp at hs;subst hs;exact⟨hv,fR _⟩) (λs hs=>by simp at hs;subst hs;exact bw) 100 (N:=159) k_ E7 λaA Tx v' w' _ kA h1 h2 _ _=>⟨by rw[kA.fD rfl],h1,h2⟩
 by_cases hb:R/base^j<q*V
 ·rw[aB hb]at lL;obtain⟨e1,e2⟩:=aAB (B:=base) (m:=e+2) d_ h.hV hU qw hb;have e3:nW j (e+2) R V q=gJ base j R (R/base^j%V):=by unfold nW;rw[e2]
  have h0:V/base^(e+2)%base=0:=rH h.hV (bF _) d_;have KD:=TC (B:=base) (m:=e+2) (V:=V) (D:=gw base (e+2) (R/base^j) V q) d_ (bF (e+2));rw[h0,jg (gw base (e+2) (R/base^j) V q/base^(e+2)%base)]at KD;have jl:(ao (dc base L (j+(e+2)) (nW j (e+2) R V q) (gy j (e+2) R V q)))[j+(e+2)]?=some (aV (gw base (e+2) (R/base^j) V q/base^(e+2)%base)):=by have:=H0 (L:=L) (i:=j+(e+2)) (R:=gy j (e+2) R V q) (S:=nW j (e+2) R V q) (t:=j+(e+2)) o_ (bF _);rw[this];unfold gy;rw[xH d_]
  have bT:fp prog 179 (ao (dc base L (j+(e+2)) (nW j (e+2) R V q) (gy j (e+2) R V q))) (j+(e+2)) (aV ((gw base (e+2) (R/base^j) V q+V)%base^(e+2+1)/base^(e+2)%base))=some (ao (ae base L (nW j (e+2) R V q))):=by
   rw[KC o_ (by unfold nW;rw[xH d_]),show j+(e+2)+1=j+(e+3)by omega,FD d_]
   ·exact HU d_ R (TA d_)
   ·exact HU d_ R (cP _ (cO d_))
  have hd:gw base (e+2) (R/base^j) V q/base^(e+2)%base<base:=cP _ d_;have gM:=Bv (B:=base) d_ (gw base (e+2) (R/base^j) V q) V (e+2);have hbk:=aJ3 (Bs:=aa.we w g) (q:=q) h;have BV:q-1=R/base^j/V:=by rw[e1,Oe]
  have pQ:0<q:=by rw[e1];exact TR _
  refine key (q-1) (nW j (e+2) R V q) (aAQ h hq qw H3 [.rw 126 (.bool (((pf base (R/base^j) V q (e+3):Nat):Int)!=0)) b_ (by rw[show e+3=e+2+1 from rfl,lL];rfl),.wr 128 .u64 ((q:Int)-1) ((q-1:Nat):Int) (by rw[ko];omega),.rw 13 (.int .u32 0) (aV (fh base (gw base (e+2) (R/base^j) V q) V 0)) (by rw[NN];rfl),.code 4 _ _ _ _ _ hbk,.xo f224 152 0 j (e+3) j (e+2) o_ k_,.ld f224 153 179 0 (j+(e+2)) (.row (ao (dc base L (j+(e+2)) (nW j (e+2) R V q) (gy j (e+2) R V q))) 179 1) (aV (gw base (e+2) (R/base^j) V q/base^(e+2)%base)) rfl (by rw[gi];exact jl) k_,.wr 155 .u32 (((gw base (e+2) (R/base^j) V q/base^(e+2)%base:Nat):Int)+((fh base (gw base (e+2) (R/base^j) V q) V (e+2):Nat):Int)) (((gw base (e+2) (R/base^j) V q+V)%base^(e+2+1)/base^(e+2)%base:Nat):Int)
    (by rw[<-KD,<-wj,nV];unfold base;omega),.xo f224 156 0 j (e+3) j (e+2) o_ k_,
   .st f224 100156 179 0 (j+(e+2)) (.row (ao (dc base L (j+(e+2)) (nW j (e+2) R V q) (gy j (e+2) R V q))) 179 1) (aV ((gw base (e+2) (R/base^j) V q+V)%base^(e+2+1)/base^(e+2)%base)) (.row (ao (ae base L (nW j (e+2) R V q))) 179 1) rfl bT rfl k_,
   .wr 158 .u32 ((q-1:Nat):Int) ((q-1:Nat):Int) (by rw[nV];unfold base at hq;omega)]) BV e3 k_
 ·rw[az hb]at lL;obtain⟨e1,e2⟩:=aAA (B:=base) (m:=e+2) d_ h.hV hU hle hb;have e3:gy j (e+2) R V q=gJ base j R (R/base^j%V):=by unfold gy;rw[e2]
  exact key q (gy j (e+2) R V q) (aAQ h hq qw H3 [.rw 126 (.bool (((pf base (R/base^j) V q (e+3):Nat):Int)!=0)) a_ (by rw[show e+3=e+2+1 from rfl,lL];rfl),.wr 158 .u32 (q:Int) (q:Int) (by rw[nV];unfold base at hq;omega)]) e1 e3 k_
end
section
variable{Bs:aa}{N:Nat}
theorem Om{y:m_}(ho:dF o.op=some y){n M:Nat}{x:Obj}(hx:x.reads=true)(hc:x.cells=ao (ae base M a))(hnM:n<=M)(ha:a<base^n)(h63:n<=9223372036854775807)(hd:nd base a=d):
  cI prog Bs o [.func (.func 199) #[] #[],sl k n] [(k,some x)] (sl k d) []:=by
 subst hd;refine jY (fi:=[]) (ca:=[]) ho k_ λι c w hm hn args' dL=>?_;obtain⟨v,rfl,h1⟩:=nP dL;have hk:c k=some x:=hn _ (aR ..);have hr:=o7 (len:=n) hm hk hx (by rw[hc];exact fR _) (λh=>h) h1;have e:(ao (ae base M a)).take n=ao (ae base n a):=by unfold ao;rw[<-C8,Ke hnM]
 rw[hc,mI,e]at hr;refine(ZP hr ha h63).mono ?_
 rintro e w' ⟨rfl,hb⟩
 refine⟨ι,_,rfl,Map.le.refl _,?_,hm.call hb⟩;have fv:=jw (B:=base) d_ ha;rcases h1.iC rfl with ⟨q1,q2,_,_,q5⟩|⟨b,oo,cap,c',q1,q2,q3,q5⟩
 ·rw[q5];have:nd base a=0:=by omega
  rw[this];exact .slcN q1
 ·rw[q5];exact .slc q1 o_ q3
theorem aAR{y:m_}(ho:dF o.op=some y){n:Nat}(hx:qG x1 a)(hk:k<=31)(h1:nd base a<35184372088832)(oV:nd base a=n)(kn:Nat):
  cI prog Bs o [.func (.func 223) #[] #[],sl k1 n,vI k] [(k1,some x1),(kn,none)] (sl kn (n+1)) [(kn,.row (ao (ae base (n+1) (a*2^k))) 179 1)]:=by
 subst oV;refine jY (fi:=[]) (ca:=[]) ho k_ λι cc w hm hn args' bh=>?_;rw[ju,jO]at bh;obtain⟨va,vb,rfl,hv,il⟩:=js bh;rw[il.fD rfl];refine(aJQ (BP hm (hn _ (aR ..)) hx hv) hk h1).mono ?_
 rintro e w' ⟨v,rfl,h1,h2⟩
 obtain⟨aA,q1,q2,q3⟩:=Fi hm h2 (k:=kn) (hn _ (bI _ (aR ..))) h1 (fR _);exact⟨aA,v,rfl,q1,q3,q2⟩
def aY.part(fn:Func)(key k n l h s m off:Nat)(zi:l*s=off)(hh:h<=n)(hm:l+m=h)(h0:0<m)(ho:sQ P (au fn key)=some (true,true,s)):aY P B N:=
 .step key (au fn key) [sl k n,vI l,vI h] [] (.slice (some ⟨k,off,some 7⟩) m l) [] (by
  subst zi;have:=Hx (B:=B) ho (k:=k) (off:=0) (n:=n) (cc:=0) (l:=l) (h:=h) n_ n_ o_ hh (.inl o_);have e1:h-l=m:=by omega
  rw[e1,kB,kB]at this;exact this)
end
structure DV(e L A V:Nat):Prop where
 hV:V<base^(e+2)
 top:base<=2*(V/base^(e+1))
 hL:e+2+1<=L
 hA:A<V*base^(L-(e+2))
 h63:L<35184372088832
theorem DV.pos{V:Nat}(h:DV e L A V):0<V:=by
 rcases nU V with e1|e1
 ·have:=h.hA;rw[e1,kQ]at this;omega
 ·exact e1
theorem DV.dg{V:Nat}(h:DV e L A V)(hj:j+(e+2)+1<=L):
  DG j e L (A%(V*base^(j+1))) V (A%(V*base^(j+1))/base^j/base^(e+1)) (V/base^(e+1)) (V/base^e%base) (A%(V*base^(j+1))/base^j/base^e%base) where
 ds:={ hB:=by decide,hU:=aAE d_ h.pos A j,hT:=rfl,hu:=rfl,kC:=rfl,il:=rfl,top:=h.top,Dy:=by have:=h.hV;rw[iQ (cO d_),cX,<-dH];exact this }
 hL:=hj
 hV:=h.hV
 h63:=h.h63
section
variable{Bs:aa}{e L A V M:Nat}
def H4(e L p j:Nat):aT:=[(13,dr j),(12,sl 4 p),(10,sl 3 L),(9,sl 2 (e+2)),(11,vI (e+2))]
def BW(L A V M p j:Nat):aM:=[(3,.row (ao (ae base L (A%(V*base^j)))) 179 1),(4,.row (ao (gS base p j (A/V))) 179 1),(2,.row (ao (ae base M V)) 179 1)]
theorem aJ6(h:DV e L A V)(hM:e+2<=M){p:Nat}(hp:p+(e+2)=L)(hj:j<p):
  ah prog Bs 110 (aI (ag f197 0)) (H4 e L p (j+1)) (BW L A V M p (j+1)) 5 ⟨.normal,H4 e L p j,BW L A V M p j,5⟩:=by
 have h63:=h.h63;have hdg:=h.dg (j:=j) o_;have hr:=aAC (B:=base) d_ A V j;have hq:=aAD (B:=base) A V j;have bT:fp prog 179 (ao (gS base p (j+1) (A/V))) j (aV (A/V/base^j%base))=some (ao (gS base p j (A/V))):=by rw[zC _ _ _ (by simp[ao,NR];exact hj),zD,NT hj rfl]
 have DD:(ao (ae base M V)).take (e+2)=ao (ae base (e+2) V):=by unfold ao;rw[<-C8,Ke hM]
 have hw:cI prog Bs (au f197 76) [.func (.func 224) #[] #[],.slice (some ⟨3,j,some 7⟩) (e+3) j,sl 2 (e+2)] [(3,some (.row (ao (ae base L (A%(V*base^(j+1))))) 179 1)),(2,some (.row (ao (ae base M V)) 179 1))]
   (aV (A/V/base^j%base)) [(3,.row (ao (ae base L (A%(V*base^j)))) 179 1)]:=by
  refine aJu (x:=.func 224) (Ty:=e+2) k_ k_ d_ o_ (fR _) (fR _) rfl rfl (fR _) o_ λw g cap cur c' v2 hg k7 ni jW bH hc hv bw=>?_;have hv:dp w v2 (e+2) ((ao (ae base M V)).take (e+2)):=hv;rw[DD]at hv;have:=aJ5 hdg hg k7 ni jW bH hc hv bw;rw[hq,hr]at this;exact this
 exact aD [.rw 62 (dr (j+1)) (vI j) (eF j),.ge 63 j 0 true s_,.rw 67 (dr (j+1)) (vI j) (eF j),.rw 69 (dr (j+1)) (vI j) (eF j),.rw 70 (dr (j+1)) (vI j) (eF j),.sum 72 j (e+2) (j+(e+2)) rfl o_,.sum 73 (j+(e+2)) 1 (j+(e+3)) rfl o_,.part f197 74 3 L j (j+(e+3)) 1 (e+3) j (gP j) o_ rfl o_ k_,.step 76 _ _ _ _ _ hw,.ix f197 77 4 p j hj k_,.st f197 100077 179 4 j (.row (ao (gS base p (j+1) (A/V))) 179 1) (aV (A/V/base^j%base)) (.row (ao (gS base p j (A/V))) 179 1) rfl bT rfl k_,.rw 64 (dr (j+1)) (vI j) (eF j),.wr 65 .i64 ((j:Int)-1) ((j:Int)-1) (pd o_)]
theorem aJ7(h:DV e L A V)(hM:e+2<=M){p:Nat}(hp:p+(e+2)=L):
  ah prog Bs 110 (.block 0 (ag f197 0)) (H4 e L p p) (BW L A V M p p) 5 ⟨.normal,H4 e L p 0,BW L A V M p 0,5⟩:=by
 have:=cx (P:=prog) (B:=Bs) (N:=110) (b:=aI (ag f197 0)) (next:=5) (r:=⟨.exit 0,H4 e L p 0,BW L A V M p 0,5⟩) p (λi=>H4 e L p (p-i)) (λi=>BW L A V M p (p-i)) (λi t _=>kk (l:=BW L A V M p (p-i)) (m:=BW L A V M p (p-0)) rfl t)
  (λi hi=>by
   have e1:p-i=(p-(i+1))+1:=by omega
   simp only[e1];exact aJ6 h hM hp o_)
  (by simp only[wi];exact aD [.rw 63 (.bool (decide (((0:Nat):Int)-1>=0))) a_ rfl]) n_
 exact cd (id:=0) this
section
variable{m X k p:Nat}
def H5(m L k i:Nat):aT:=[(83,vI i),(82,vI m),(14,sl 3 m),(10,sl 3 L),(8,vI k)]
def zQ(L X k i:Nat):aM:=[(3,.row (ao (dc base L i (X/2^k) X)) 179 1)]
theorem aJ8(hi:i<m)(hmL:m+1<=L)(hk:k<=31)(h63:L<35184372088832):
  ah prog Bs 110 (aI (ag f197 2)) (H5 m L k i) (zQ L X k i) 5 ⟨.normal,H5 m L k (i+1),zQ L X k (i+1),5⟩:=by
 have vS:(ao (dc base L i (X/2^k) X))[i+1]?=some (aV (X/base^(i+1)%base)):=H0 o_ o_;have tW:(ao (dc base L i (X/2^k) X))[i]?=some (aV (X/base^i%base)):=H0 o_ o_;have hd:=aAF (B:=base) (k:=k) (X:=X) (i:=i) d_ ⟨2^(32-k),by rw[<-eU,show k+(32-k)=32 by omega]⟩;have bT:fp prog 179 (ao (dc base L i (X/2^k) X)) i (aV (X/2^k/base^i%base))=some (ao (dc base L (i+1) (X/2^k) X)):=KC o_ rfl;have hx:X/base^(i+1)%base<base:=cP _ d_;have hy:X/base^i%base<base:=cP _ d_;generalize X/base^(i+1)%base=x at *;generalize X/base^i%base=y at *;have hb:(x*base+y)/2^k<18446744073709551616:=eZ (uh _ _) (by unfold base at *;omega);have lI:=TK hx hy;have hs:((x*base+y:Nat):Int).fdiv (2^(min k IntKind.u64.bits))=(((x*base+y)/2^k:Nat):Int):=by rw[show min k IntKind.u64.bits=k from oz (by show k<=64;omega),sR _ (HR d_),ug,HT];rfl
 generalize (x*base+y)/2^k=z at *;exact aD [.lt 84 i m true (by simp[hi]),.sum 90 i 1 (i+1) rfl o_,.ix f197 91 3 L (i+1) o_ k_,.ld f197 92 179 3 (i+1) (.row (ao (dc base L i (X/2^k) X)) 179 1) (aV x) rfl (by rw[gi];exact vS) k_,.wr 93 .u64 (x:Int) (x:Int) (rN (mJ hx d_)),.wr 94 .u64 ((x:Int)*2^32) ((x*base:Nat):Int) (TJ hx),.ix f197 97 3 L i o_ k_,.ld f197 98 179 3 i (.row (ao (dc base L i (X/2^k) X)) 179 1) (aV y) rfl (by rw[gi];exact tW) k_,.wr 99 .u64 (y:Int) (y:Int) (rN (mJ hy d_)),.quo 100 .u64 _ ((x*base+y:Nat):Int) lI,.shr f197 102 .u64 ((x*base+y:Nat):Int) (z:Int) k hs k_,.wr 103 .u32 (z:Int) ((X/2^k/base^i%base:Nat):Int) (by rw[nV,<-hd];unfold base;omega),.ix f197 104 3 m i hi k_,.st f197 100104 179 3 i (.row (ao (dc base L i (X/2^k) X)) 179 1) (aV (X/2^k/base^i%base)) (.row (ao (dc base L (i+1) (X/2^k) X)) 179 1) rfl bT rfl k_,.sum 105 i 1 (i+1) rfl o_]
theorem aJ9(hX:X<base^m)(hmL:m+1<=L)(hk:k<=31)(h63:L<35184372088832):
  ah prog Bs 110 (.block 2 (ag f197 2)) (H5 m L k 0) [(3,.row (ao (ae base L X)) 179 1)] 5 ⟨.normal,H5 m L k m,[(3,.row (ao (ae base L (X/2^k))) 179 1)],5⟩:=by
 have e0:zQ L X k 0=[(3,.row (ao (ae base L X)) 179 1)]:=by unfold zQ dc ae;simp
 have e1:zQ L X k m=[(3,.row (ao (ae base L (X/2^k))) 179 1)]:=by unfold zQ;rw[FD d_ hX (eZ (uh _ _) hX)]
 rw[<-e0,<-e1];exact cd (id:=2) (cx (b:=aI (ag f197 2)) (r:=⟨.exit 2,H5 m L k m,zQ L X k m,5⟩) m (H5 m L k) (zQ L X k) (λi t _=>kk (l:=zQ L X k i) (m:=zQ L X k 0) rfl t)
  (λi hi=>aJ8 hi hmL hk h63) (aD [.lt 84 m m false s_]) n_)
end
end
section
variable{Bs:aa}{N:Nat}
theorem aKa{y:m_}(ho:dF o.op=some y){n:Nat}(hx:qG x1 a)(hd:0<d)(nu:d<base)(h1:nd base a<35184372088832)(oV:nd base a=n)(kn:Nat):
  cI prog Bs o [.func (.func 221) #[] #[],sl k1 n,aV d] [(k1,some x1),(kn,none)] (.tuple #[sl kn (nd base (a/d)),aV (a%d)]) [(kn,vl (a/d))]:=by
 subst oV;refine jY (fi:=[]) (ca:=[]) ho k_ λι cc w hm hn args' bh=>?_;rw[ju,jO]at bh;obtain⟨va,vb,rfl,hv,il⟩:=js bh;rw[il.fD rfl];refine(aI1 (BP hm (hn _ (aR ..)) hx hv) hd nu h1).mono ?_
 rintro e w' ⟨v,rfl,h1,h2⟩
 obtain⟨aA,q1,q2,q3⟩:=Fi hm h2 (k:=kn) (hn _ (bI _ (aR ..))) h1 (fR _);exact⟨aA,_,rfl,q1,.tup (.cons q3 (.cons (.same rfl) .nil)),q2⟩
end
theorem aAS(h:a<base):ae base 1 a=[a]:=by simp[ae,dW h]
theorem TS{vb:i_}(gG:iR w va a)(lJ:iR w vb b)(b9:a<b)(h1:nd base a<35184372088832)(h2:nd base b<35184372088832):
  Calls prog 197 #[va,vb] w λe w'=>e=.returned (.tuple #[.slice none 0 0,va])/\Below w.heap.size w w':=by
 have hl:∀ s∈[cG.row va (nd base a) (ao (ae base (nd base a) a)),cG.row vb (nd base b) (ao (ae base (nd base b) b))],s.OK w:=by
  intro s hs;simp at hs;rcases hs with rfl|rfl
  ·exact⟨gG,fR _⟩
  ·exact⟨lJ,fR _⟩
 have hc:qD a b<0:=by have:=@N5 a b;omega
 refine l9 (Q:=λe w'=>e=.returned (.tuple #[.slice none 0 0,va])/\Below w.heap.size w w') mixed func197 [cG.row va (nd base a) (ao (ae base (nd base a) a)),cG.row vb (nd base b) (ao (ae base (nd base b) b))] hl 100 (N:=110) k_
  (rs:=[(.step 18 (au f197 18) _ _ _ _ (Oh (y:=.func 193) (k1:=0) (k2:=1) k_ k_ (xI a) (xI b) rfl λw va vb ha hb=>N6 ha hb h1 h2):aY prog (aa.at w) 110),.rw 19 (.bool (decide (qD a b<0))) b_ (by rw[aJ hc])])
  (v:=.tuple #[.slice none 0 0,sl 0 (nd base a)]) (ms:=[]) k_ λaA ct v' w' kA bJ _ dL=>⟨?_,bJ.base⟩
 obtain⟨cV,rfl,bh⟩:=kA.uR;obtain⟨p,q,hp,h3,h4⟩:=js bh;cases dL with
 |cons h5 _=>
 have:q=va:=J8 h4 h5;have e:cV=#[p,q]:=vW.1 (by rw[hp]);rw[e,h3.fD rfl,this]
theorem TT{vb:i_}(gG:iR w va a)(lJ:iR w vb b)(b9:b<=a)(lp:b≠0)(hb:b<base)(h1:nd base a<35184372088832):
  Calls prog 197 #[va,vb] w λe w'=>∃ vq vr,e=.returned (.tuple #[vq,vr])/\j0 w w' vq (a/b)/\j0 w w' vr (a%b)/\Below w.heap.size w w':=by
 have c7:nd base b=1:=by have h3:=jw (B:=base) (n:=1) d_ (by rw[BG];exact hb);have h4:=xq (B:=base) d_ lp;omega
 have FF:dp w vb 1 (ao (ae base 1 b)):=by have:=lJ;unfold iR at this;rw[c7]at this;exact this
 have hl:∀ s∈[cG.row va (nd base a) (ao (ae base (nd base a) a)),cG.row vb 1 (ao (ae base 1 b))],s.OK w:=by
  intro s hs;simp at hs;rcases hs with rfl|rfl
  ·exact⟨gG,fR _⟩
  ·exact⟨FF,fR _⟩
 have hc:¬qD a b<0:=by have:=@N5 a b;omega
 have vm:qG (.view (ao (ae base 1 b))) b:=by have:=xI b;rw[c7]at this;exact this
 have hr:a%b<base:=mJ (cP _ (ue lp)) hb;have TU:cI prog (aa.at w) (au f197 18) [.func (.func 193) #[] #[],sl 0 (nd base a),sl 1 1] [(0,some (.view (ao (ae base (nd base a) a)))),(1,some (.view (ao (ae base 1 b))))] (.int .i64 (qD a b)) []:=by have:=Oh (Bs:=aa.at w) (o:=au f197 18) (f:=193) (y:=.func 193) (k1:=0) (k2:=1) (res:=.int .i64 (qD a b)) k_ k_ (xI a) vm rfl λw va vb ha hb=>N6 ha hb h1 o_;rw[c7]at this;exact this
 refine l9 (Q:=λe w'=>∃ vq vr,e=.returned (.tuple #[vq,vr])/\j0 w w' vq (a/b)/\j0 w w' vr (a%b)/\Below w.heap.size w w') mixed func197 [cG.row va (nd base a) (ao (ae base (nd base a) a)),cG.row vb 1 (ao (ae base 1 b))] hl 100 (N:=110) k_
  (rs:=[(.step 18 (au f197 18) _ _ _ _ TU:aY prog (aa.at w) 110),.rw 19 (.bool (decide (qD a b<0))) a_ (by rw[bd hc]),.ld f197 28 179 1 0 (.view (ao (ae base 1 b))) (aV b) rfl (by rw[gi,aAS hb];rfl) k_,.step 29 (au f197 29) _ _ _ _ (aKa (y:=.func 221) (k1:=0) k_ (xI a) (ue lp) hb h1 rfl 2),.bs f197 34 3 1 179 1 [0] (aV 0) [aV (a%b)] #[aV (a%b)] (.row (ao (ae base 1 (a%b))) 179 1) (by rw[aAS hr];rfl) (λv hv=>by simp at hv;subst hv;rfl) (λv hv=>by simp at hv;subst hv;rfl) k_ rfl o_ o_ k_,.step 35 (au f197 35) _ _ _ _ (Om (y:=.func 199) (k:=3) (n:=1) (M:=1) (a:=a%b) (x:=.row (ao (ae base 1 (a%b))) 179 1) k_ rfl rfl (bF 1) (by rw[BG];exact hr) o_ rfl)])
  (v:=.tuple #[sl 2 (nd base (a/b)),sl 3 (nd base (a%b))]) (ms:=[(2,vl (a/b)),(3,.row (ao (ae base 1 (a%b))) 179 1)]) k_ λaA ct v' w' kA bJ dP _=>?_
 obtain⟨cV,rfl,bh⟩:=kA.uR;obtain⟨p,q,hp,h3,h4⟩:=js bh;have e:cV=#[p,q]:=vW.1 (by rw[hp]);subst e;exact⟨p,q,rfl,xy bJ (dP _ (aR ..)) (eB d_ _) h3,xy bJ (dP _ (bI _ (aR ..))) (by rw[BG];exact hr) h4,bJ.base⟩
theorem norm(b9:b<=a)(hb:nd base b=e+2)(h1:nd base a<35184372088831):
  ∃ k,k<=31/\32-bl (b/base^(e+1)%base)=k/\DV e (nd base a+1) (a*2^k) (b*2^k)/\nd base (b*2^k)=e+2/\b*2^k<base^(e+3):=by
 have al:=eB (B:=base) d_ b;rw[hb]at al;have ga:base^(e+1)<=b:=ZG d_ o_;have hp:0<base^(e+1):=cO d_;have hd:b/base^(e+1)%base=b/base^(e+1):=Fj al;obtain⟨d,mh⟩:∃ d,d=b/base^(e+1):=⟨_,rfl⟩;have nu:d<base:=by rw[mh,<-hd];exact cP _ d_
 have DF:d≠0:=by have:=Oi ga hp;omega
 obtain⟨t,t1,t2,t3⟩:=aJR DF;have ht:t<=31:=by
  rcases e9 t 32 with h|h
  ·omega
  ·have:=di (show 0<2 by decide) h;have e32:(2:Nat)^32=base:=by decide
   omega
 have fO:0<2^(31-t):=cO d_;have hV1:d*2^(31-t)<=b*2^(31-t)/base^(e+1):=by rw[Dz hp,BR];refine eE _ ?_;rw[mh];exact DA _ _
 have xJ:base<=2*(b*2^(31-t)/base^(e+1)):=by
  have h3:2^t*2^(31-t)<=d*2^(31-t):=eE _ t2;rw[<-eU,show t+(31-t)=31 by omega]at h3;have e31:base=2*2^31:=by decide
  omega
 have xG:b*2^(31-t)<base^(e+2):=by
  have h3:b<(d+1)*base^(e+1):=by rw[mh];exact(iQ hp).1 (BO _)
  have h4:(d+1)*2^(31-t)<=base:=by have:(d+1)*2^(31-t)<=2^(t+1)*2^(31-t):=eE _ t3;rw[<-eU,show t+1+(31-t)=32 by omega]at this;exact this
  have h5:b*2^(31-t)<(d+1)*base^(e+1)*2^(31-t):=BN h3 fO;rw[BR]at h5;have h6:(d+1)*2^(31-t)*base^(e+1)<=base*base^(e+1):=eE _ h4;rw[cX base,<-dH]at h6;exact cF h5 h6
 have BX:e+2<=nd base a:=by rw[<-hb];exact jx d_ b9
 refine⟨31-t,by omega,by rw[hd,<-mh,t1];omega,{ hV:=xG,top:=xJ,hL:=by omega,hA:=?_,h63:=by omega },?_,cF xG (di d_ o_)⟩
 ·have ha:=eB (B:=base) d_ a;have h3:a*2^(31-t)<base^nd base a*2^(31-t):=BN ha fO;have h4:2^(31-t)*base^(e+1)<=b*2^(31-t):=by rw[cX];exact eE _ ga
  have h5:2^(31-t)*base^(e+1)*base^(nd base a+1-(e+2))<=b*2^(31-t)*base^(nd base a+1-(e+2)):=eE _ h4;rw[gh,<-eU,show e+1+(nd base a+1-(e+2))=nd base a by omega,cX]at h5;exact cF h3 h5
 ·refine aAk (jw d_ xG) ?_;rw[<-hb];exact jx d_ (Fw _ fO)
theorem TV{vb:i_}(gG:iR w va a)(lJ:iR w vb b)(b9:b<=a)(hb:nd base b=e+2)(h1:nd base a<35184372088831):
  Calls prog 197 #[va,vb] w λe w'=>∃ vq vr,e=.returned (.tuple #[vq,vr])/\j0 w w' vq (a/b)/\j0 w w' vr (a%b)/\Below w.heap.size w w':=by
 obtain⟨k,hk,hlz,H6,On,hV3⟩:=norm b9 hb h1;have nj:nd base b<35184372088831:=eZ (jx d_ b9) h1;have al:=eB (B:=base) d_ b;have aVT:=eB (B:=base) d_ a;rw[hb]at al;have EY:0<2^k:=cO d_;have KE:0<b:=by
  rcases nU b with h|h
  ·rw[h,oG]at hb;omega
  ·exact h
 have FF:dp w vb (e+2) (ao (ae base (e+2) b)):=by have:=lJ;unfold iR at this;rw[hb]at this;exact this
 have hl:∀ s∈[cG.row va (nd base a) (ao (ae base (nd base a) a)),cG.row vb (e+2) (ao (ae base (e+2) b))],s.OK w:=by
  intro s hs;simp at hs;rcases hs with rfl|rfl
  ·exact⟨gG,fR _⟩
  ·exact⟨FF,fR _⟩
 have hc:¬qD a b<0:=by have:=@N5 a b;omega
 have vm:qG (.view (ao (ae base (e+2) b))) b:=by have:=xI b;rw[hb]at this;exact this
 have TU:cI prog (aa.at w) (au f197 18) [.func (.func 193) #[] #[],sl 0 (nd base a),sl 1 (e+2)] [(0,some (.view (ao (ae base (nd base a) a)))),(1,some (.view (ao (ae base (e+2) b))))] (.int .i64 (qD a b)) []:=by have:=Oh (Bs:=aa.at w) (o:=au f197 18) (f:=193) (y:=.func 193) (k1:=0) (k2:=1) (res:=.int .i64 (qD a b)) k_ k_ (xI a) vm rfl λw va vb ha hb=>N6 ha hb o_ o_;rw[hb]at this;exact this
 have BX:e+2<=nd base a:=by rw[<-hb];exact jx d_ b9
 have aVU:nd base a=nd base a:=rfl;have lz:=aJV (x:=b/base^(e+1)%base) (cP _ d_);rw[hlz]at lz;have gE:2<=e+2:=by omega
 obtain⟨p,hp⟩:∃ p,p+(e+2)=nd base a+1:=⟨nd base a+1-(e+2),by omega⟩;have Oo:=aJ7 (Bs:=aa.at w) (M:=e+3) H6 o_ hp;have hA:=H6.hA;rw[show nd base a+1-(e+2)=p by omega]at hA;have TW:a*2^k%(b*2^k*base^p)=a*2^k:=dW hA;have TX:a*2^k%(b*2^k*base^0)=a%b*2^k:=by rw[sS,gP,aAH]
 have hQ:a*2^k/(b*2^k)=a/b:=aAI _ _ EY;have aKb:a%b*2^k<base^(e+2):=by refine cF (BN (cP _ KE) EY) (j5 H6.hV)
 have zq:=aJ9 (Bs:=aa.at w) (L:=nd base a+1) (k:=k) aKb o_ hk o_;rw[S5 _ EY]at zq;have KF:a/b<base^p:=by rw[<-hQ,iQ H6.pos,cX (base^p)];exact hA
 have H7:a%b<base^(e+2):=mJ (cP _ KE) al;unfold BW at Oo;rw[TW,TX,hQ,NS,Ki]at Oo;generalize hn:nd base a=n at *
 refine l9 (Q:=λe w'=>∃ vq vr,e=.returned (.tuple #[vq,vr])/\j0 w w' vq (a/b)/\j0 w w' vr (a%b)/\Below w.heap.size w w') mixed func197 [cG.row va n (ao (ae base n a)),cG.row vb (e+2) (ao (ae base (e+2) b))] hl 100 (N:=110) k_
  (rs:=[(.step 18 (au f197 18) _ _ _ _ TU:aY prog (aa.at w) 110),.rw 19 (.bool (decide (qD a b<0))) a_ (by rw[bd hc]),.gO 23 (e+2) 1 false s_,.fq 39 (e+2) 1 (e+1) rfl o_,.ix f197 40 1 (e+2) (e+1) o_ k_,.ld f197 41 179 1 (e+1) (.view (ao (ae base (e+2) b))) (aV (b/base^(e+1)%base)) rfl (by rw[gi];exact DG.vd o_) k_,lz.at 42,.step 45 (au f197 45) _ _ _ _ (aAR (y:=.func 223) (k1:=1) k_ vm hk o_ hb 2),.step 46 (au f197 46) _ _ _ _ (Om (y:=.func 199) (k:=2) (n:=e+3) (M:=e+3) (a:=b*2^k) (x:=.row (ao (ae base (e+3) (b*2^k))) 179 1) k_ rfl rfl (bF _) hV3 o_ On),.step 49 (au f197 49) _ _ _ _ (aAR (y:=.func 223) (k1:=0) (x1:=.view (ao (ae base n a))) k_ (by have:=xI a;rw[hn]at this;exact this) hk o_ hn 3),.fq 55 (n+1) (e+2) p o_ o_,.qy f197 56 4 p 179 4 (aV 0) (ao (List.replicate p 0)) (Fm _) rfl rfl o_ (by simp[maxLen];omega) k_,.fq 60 (n+1) (e+2) p o_ o_,.wr 61 .i64 ((p:Int)-1) ((p:Int)-1) (pd o_),.code 0 _ _ _ _ _ Oo,.upto f197 80 3 (n+1) (e+2) 1 o_ k_,.code 2 _ _ _ _ _ zq,.step 107 (au f197 107) _ _ _ _ (Om (y:=.func 199) (k:=4) (n:=p) (M:=p) (a:=a/b) (x:=.row (ao (ae base p (a/b))) 179 1) k_ rfl rfl (bF _) KF o_ rfl),.step 109 (au f197 109) _ _ _ _ (Om (y:=.func 199) (k:=3) (n:=e+2) (M:=n+1) (a:=a%b) (x:=.row (ao (ae base (n+1) (a%b))) 179 1) k_ rfl rfl o_ H7 o_ rfl)])
  (v:=.tuple #[sl 4 (nd base (a/b)),sl 3 (nd base (a%b))]) (ms:=[(4,.row (ao (ae base p (a/b))) 179 1),(3,.row (ao (ae base (n+1) (a%b))) 179 1)]) k_ λaA ct v' w' kA bJ dP _=>?_
 obtain⟨cV,rfl,bh⟩:=kA.uR;obtain⟨p,q,hp,h3,h4⟩:=js bh;have e:cV=#[p,q]:=vW.1 (by rw[hp]);subst e;exact⟨p,q,rfl,xy bJ (dP _ (aR ..)) KF h3,xy bJ (dP _ (bI _ (aR ..))) (cF H7 (di d_ o_)) h4,bJ.base⟩
def sv(neg:Bool)(m:Nat):Value:=.agg #[.bool neg,oI m]
def sg(neg:Bool)(m:Nat):Int:=if neg then -(m:Int)else m
def aX(z:Int):Value:=sv (decide (z<0)) z.natAbs
theorem wk(neg:Bool)(m:Nat):BQ neg m=aX (sg neg m):=by
 cases neg
 ·have e:decide ((m:Int)<0)=false:=by simp
  show Value.agg #[.bool false,oI m]=Value.agg #[.bool (decide ((m:Int)<0)),oI (m:Int).natAbs];rw[e];rfl
 ·have e:(decide (-(m:Int)<0))=decide (m≠0):=by rw[qx];omega
  show Value.agg #[.bool (decide (m≠0)),oI m]=Value.agg #[.bool (decide (-(m:Int)<0)),oI (-(m:Int)).natAbs];rw[e,KG];rfl
theorem sZ{C:Int->Value->Prop}(h0:∀ m:Nat,C m (sv false m))(h1:∀ m:Nat,m≠0->C (-(m:Int)) (sv true m))(z:Int):C z (aX z):=by
 by_cases hz:z<0
 ·obtain⟨m,rfl⟩:∃ m:Nat,z=-(m:Int):=⟨z.natAbs,by omega⟩;have:=h1 m o_;have e:aX (-(m:Int))=sv true m:=by unfold aX;rw[aJ hz,KG];rfl
  rw[e];exact this
 ·obtain⟨m,rfl⟩:∃ m:Nat,z=(m:Int):=⟨z.natAbs,by omega⟩;have e:aX (m:Int)=sv false m:=by unfold aX;rw[bd hz];rfl
  rw[e];exact h0 m
theorem xK{n:Nat}(h:m<2^n):nd base m<=n:=jw d_ (cF h (aAT d_ n))
theorem wm{n:Nat}(h:m<2^n):nd 256 m<=n:=jw d_ (cF h (aAT d_ n))
theorem aAU{n:Nat}(h:m<2^n)(hn:n<=1099511627776):Calls prog 191 #[oI m] w λe w'=>∃ v,e=.returned v/\j0 w w' v m/\Below w.heap.size w w':=by have e:kT (BA (cM m))=m:=Fz m;have:=aIT (w:=w) (s:=BA (cM m)) (by rw[pc,uj];have:=wm h;omega);rw[e]at this;exact this
section
variable{Bs:aa}{N:Nat}
def aY.of(fn:Func)(key k m n:Nat)(h:m<2^n)(hn:n<=1099511627776){y:m_}(ho:dF (au fn key).op=some y):aY prog Bs N:=
 .step key (au fn key) [.func (.func 191) #[] #[],oI m] [(k,none)] (sl k (nd base m)) [(k,vl m)] (Og ho k_ (λv hv=>by simp at hv;subst hv;rfl) (λ_=>aAU h hn) k)
def aY.add(fn:Func)(key k k1 k2 a b:Nat)(h1:nd base a<35184372088832)(h2:nd base b<35184372088832){y:m_}(ho:dF (au fn key).op=some y):aY prog Bs N:=
 .step key (au fn key) _ _ _ _ (TD (f:=192) (k1:=k1) (k2:=k2) ho k_ (sW a) (sW b) (λ_ _ _ ha hb=>aIr ha hb h1 h2) k)
def aY.less(fn:Func)(key k k1 k2 a b:Nat)(b9:b<=a)(h1:nd base a<35184372088832){y:m_}(ho:dF (au fn key).op=some y):aY prog Bs N:=
 .step key (au fn key) _ _ _ _ (TD (f:=194) (k1:=k1) (k2:=k2) ho k_ (sW a) (sW b) (λ_ _ _ ha hb=>aIw ha hb b9 h1) k)
def aY.mul(fn:Func)(key k k1 k2 a b:Nat)(h1:nd base a<1099511627777)(h2:nd base b<1099511627777){y:m_}(ho:dF (au fn key).op=some y):aY prog Bs N:=
 .step key (au fn key) _ _ _ _ (TD (f:=195) (k1:=k1) (k2:=k2) ho k_ (sW a) (sW b) (λ_ _ _ ha hb=>aIJ ha hb o_) k)
def aY.cmp(fn:Func)(key k1 k2 a b:Nat)(h1:nd base a<35184372088832)(h2:nd base b<35184372088832){y:m_}(ho:dF (au fn key).op=some y):aY prog Bs N:=
 .step key (au fn key) _ _ _ _ (Oh (f:=193) (k1:=k1) (k2:=k2) (res:=.int .i64 (qD a b)) ho k_ (sW a) (sW b) rfl λ_ _ _ ha hb=>N6 ha hb h1 h2)
def aY.DH(fn:Func)(key k a:Nat)(x:Obj)(hx:qG x a)(neg:Bool)(h1:nd base a<35184372088832){y:m_}(ho:dF (au fn key).op=some y):aY prog Bs N:=
 .step key (au fn key) _ _ _ _ (HW (f:=158) (k1:=k) (post:=[.bool neg]) (res:=BQ neg a) ho k_ hx (λv hv=>by simp at hv;subst hv;rfl) rfl λ_ _ h=>aAG h h1)
end
def xL(neg:Bool):List UInt8->Bool
 |[]=>!neg
 |c::_=>decide (c≠0)
theorem zR(neg:Bool)(l:List UInt8):aG prog 106 [.agg #[.bool neg,.string (BA l)]] (.bool (xL neg l)):=by
 cases l with
 |nil=>exact bC func106 (λ_=>[.rw 5 (.bool ((BA []).toList==(ByteArray.mk #[]).toList)) b_ (by rw[Ft];rfl)])
 |cons c l=>
  have e:(((c.toNat:Nat):Int)!=0)=decide (c≠0):=by
   by_cases h:c=0
   ·subst h;rfl
   ·rw[aJ h,rJ];intro h2;exact h (N3.1 (by simpa using h2))
  exact bC func106 (λ_=>[.rw 5 (.bool ((BA (c::l)).toList==(ByteArray.mk #[]).toList)) a_ (by rw[Ft];rfl),.sx f106 11 (BA (c::l)) 0 c (by rw[Kq];rfl) k_,.rw 12 (.bool (((c.toNat:Nat):Int)!=0)) (.bool (decide (c≠0))) (by rw[e])])
theorem iI(neg:Bool)(h:neg=true->m≠0):aG prog 106 [sv neg m] b_:=by
 have:=zR neg (cM m);have e:xL neg (cM m)=true:=by
  by_cases hm:m=0
  ·subst hm;rw[Du];cases neg
   ·rfl
   ·exact absurd rfl (h rfl)
  ·obtain⟨c,l,h1,h2⟩:=Ob hm;rw[h1];exact aJ h2
 rw[e]at this;exact this
theorem lq(h:z.natAbs<9223372036854775808):aG prog 109 [.int .i64 z] (aX z):=by
 have fv:nd base z.natAbs<35184372088832:=by have:=xK (m:=z.natAbs) (n:=63) o_;omega
 by_cases hz:z<0
 ·have e:=wk true z.natAbs;have e2:sg true z.natAbs=z:=by show -((z.natAbs:Nat):Int)=z;omega
  rw[e2]at e;rw[<-e];exact bC func109 (λ_=>[.rw 4 (.bool (decide (z<0))) b_ (by rw[aJ hz]),.wr 6 .u64 z (z+18446744073709551616) (by rw[ko];omega),.wr 7 .u64 (0-(z+18446744073709551616)) (z.natAbs:Int) (by rw[ko];omega),.step 8 (au f109 8) _ _ _ _ (Og (y:=.func 157) (args:=[.int .u64 (z.natAbs:Int)]) k_ k_ (λv hv=>by simp at hv;subst hv;rfl) (λ_=>Tl (n:=z.natAbs) o_) 1),.DH f109 9 1 z.natAbs (vl z.natAbs) (sW _) true fv (y:=.func 158) k_])
 ·have e:=wk false z.natAbs;have e2:sg false z.natAbs=z:=by show((z.natAbs:Nat):Int)=z;omega
  rw[e2]at e;rw[<-e];exact bC func109 (λ_=>[.rw 4 (.bool (decide (z<0))) a_ (by rw[bd hz]),.wr 11 .u64 z (z.natAbs:Int) (by rw[ko];omega),.step 12 (au f109 12) _ _ _ _ (Og (y:=.func 157) (args:=[.int .u64 (z.natAbs:Int)]) k_ k_ (λv hv=>by simp at hv;subst hv;rfl) (λ_=>Tl (n:=z.natAbs) o_) 1),.DH f109 13 1 z.natAbs (vl z.natAbs) (sW _) false fv (y:=.func 158) k_])
theorem pR(z:Int):aG prog 107 [aX z] (.int .i64 z.sign):=by
 refine sZ (C:=λz v=>aG prog 107 [v] (.int .i64 z.sign)) (λm=>?_) (λm hm=>?_) z
 ·by_cases h:m=0
  ·subst h;exact bC func107 (λ_=>[(iI false (m:=0) n_).at 5,.rw 10 (.bool ((BA (cM 0)).toList==(ByteArray.mk #[]).toList)) b_ (by rw[qH];rfl)])
  ·have e:((m:Nat):Int).sign=1:=BZ o_;rw[e];exact bC func107 (λ_=>[(iI false (m:=m) n_).at 5,.rw 10 (.bool ((BA (cM m)).toList==(ByteArray.mk #[]).toList)) a_ (by rw[qH,bd h])])
 ·have e:(-(m:Int)).sign=-1:=FG o_;rw[e];exact bC func107 (λ_=>[(iI true (m:=m) (λ_=>hm)).at 5,.rw 10 (.bool ((BA (cM m)).toList==(ByteArray.mk #[]).toList)) a_ (by rw[qH,bd hm])])
theorem oJ(z:Int):aG prog 152 [aX z] (aX (-z)):=by
 refine sZ (C:=λz v=>aG prog 152 [v] (aX (-z))) (λm=>?_) (λm hm=>?_) z
 ·have e:=wk true m;rw[<-show sg true m=-(m:Int)from rfl,<-e];have e:(!((BA (cM m)).toList==(ByteArray.mk #[]).toList))=decide (m≠0):=by rw[qH];simp
  exact bC func152 (λ_=>[(iI false (m:=m) n_).at 4,.rw 13 (.bool (!((BA (cM m)).toList==(ByteArray.mk #[]).toList))) (.bool (decide (m≠0))) (by rw[e])])
 ·have e:=wk false m;rw[KH,<-show sg false m=(m:Int)from rfl,<-e];exact bC func152 (λ_=>[(iI true (m:=m) (λ_=>hm)).at 4])
theorem TY{n1 n2:Bool}{p:Nat}(v1:n1=true->m1≠0)(v2:n2=true->m2≠0)(h1:m1<2^p)(h2:m2<2^q)(hp:p<=1099511627776)(hq:q<=1099511627776):
  aG prog 147 [sv n1 m1,sv n2 m2] (aX (sg n1 m1+sg n2 m2)):=by
 have b1:=xK h1;have b2:=xK h2;have bp:nd base (m1+m2)<35184372088832:=by
  have:=xK (m:=m1+m2) (n:=p+q+1) (by have e1:=di (show 0<2 by decide) (show p<=p+q by omega);have e2:=di (show 0<2 by decide) (show q<=p+q by omega);rw[dH];omega)
  omega
 have k1:=jx (B:=base) d_ (FH m1 m2);have k2:=jx (B:=base) d_ (FH m2 m1);obtain⟨ge,a,b,ga,b9,ha,e⟩:∃(ge:Bool) (a b:Nat),decide (m2<=m1)=ge/\b<=a/\(a=bif ge then m1 else m2)/\(b=bif ge then m2 else m1):=by
  by_cases h:m2<=m1
  ·exact⟨true,m1,m2,aJ h,h,rfl,rfl⟩
  ·exact⟨false,m2,m1,bd h,by omega,rfl,rfl⟩
 subst ha e;have bm:nd base ((bif ge then m1 else m2)-bif ge then m2 else m1)<35184372088832:=by cases ge<;>(dsimp only[cond];omega)
 have ba:nd base (bif ge then m1 else m2)<35184372088832:=by cases ge<;>(dsimp only[cond];omega)
 have hc:decide (qD m1 m2>=0)=ge:=by rw[<-ga];exact qx.2 N5
 have e:aX (sg n1 m1+sg n2 m2)=bif n1==n2 then BQ n1 (m1+m2)else BQ (bif ge then n1 else n2) ((bif ge then m1 else m2)-bif ge then m2 else m1):=by rw[wk,wk];cases n1<;>cases n2<;>cases ge<;>simp[sg]at ga b9 ⊢<;>congr 1<;>omega
 rw[e];refine eY mixed func147 100 (λ_=>[(iI _ v1).at 8,(iI _ v2).at 12,.of f147 18 3 m1 p h1 hp (y:=.func 191) k_,.of f147 21 4 m2 q h2 hq (y:=.func 191) k_]++
   bif n1==n2 then[.add f147 30 5 3 4 m1 m2 o_ o_ (y:=.func 192) k_,.DH f147 33 5 (m1+m2) (vl (m1+m2)) (sW _) n1 bp (y:=.func 158) k_]else
   [.cmp f147 37 3 4 m1 m2 o_ o_ (y:=.func 193) k_,.rw 38 (.bool (decide (qD m1 m2>=0))) (.bool ge) (by rw[hc])]++
   bif ge then[.less f147 41 5 3 4 _ _ b9 ba (y:=.func 194) k_,.DH f147 44 5 _ (vl _) (sW _) n1 bm (y:=.func 158) k_]else
   [.less f147 47 5 4 3 _ _ b9 ba (y:=.func 194) k_,.DH f147 50 5 _ (vl _) (sW _) n2 bm (y:=.func 158) k_]) (λ_=>?_) k_ ?_<;>cases n1<;>cases n2<;>cases ge<;>kernel_rfl
theorem FI{C:Int->Int->Value->Value->Prop}(h:∀(n1 n2:Bool) (m1 m2:Nat),(n1=true->m1≠0)->(n2=true->m2≠0)->C (sg n1 m1) (sg n2 m2) (sv n1 m1) (sv n2 m2))(x y:Int):C x y (aX x) (aX y):=
 sZ (C:=λx v=>C x y v (aX y)) (λm=>sZ (C:=λy u=>C m y (sv false m) u) (λk=>h false false m k n_ n_) (λk hk=>h false true m k n_ (λ_=>hk)) y)
  (λm hm=>sZ (C:=λy u=>C (-(m:Int)) y (sv true m) u) (λk=>h true false m k (λ_=>hm) n_) (λk hk=>h true true m k (λ_=>hm) (λ_=>hk)) y) x
theorem qJ(n:Bool)(m:Nat):(sg n m).natAbs=m:=by cases n<;>simp[sg]
theorem zT{x y:Int}{p:Nat}(h1:x.natAbs<2^p)(h2:y.natAbs<2^q)(hp:p<=1099511627776)(hq:q<=1099511627776):aG prog 147 [aX x,aX y] (aX (x+y)):=by revert h1 h2;refine FI (C:=λx y v u=>x.natAbs<2^p->y.natAbs<2^q->aG prog 147 [v,u] (aX (x+y))) (λn1 n2 m1 m2 v1 v2 h1 h2=>?_) x y;rw[qJ]at h1 h2;exact TY v1 v2 h1 h2 hp hq
theorem pj(z:Int):aG prog 106 [aX z] b_:=
 sZ (C:=λ_ v=>aG prog 106 [v] b_) (λ_=>iI false n_) (λ_ hm=>iI true λ_=>hm) z
theorem FJ{x y:Int}{p:Nat}(h1:x.natAbs<2^p)(h2:y.natAbs<2^q)(hp:p<=1099511627776)(hq:q<=1099511627776):aG prog 167 [aX x,aX y] (aX (x-y)):=
 bC func167 (λ_=>[(pj x).at 6,(pj y).at 10,(oJ y).at 16,(zT h1 (by rw[KG];exact h2) hp hq).at 17])
theorem TZ{x y:Int}{p:Nat}(h1:x.natAbs<2^p)(h2:y.natAbs<2^q)(hp:p<=1099511627776)(hq:q<=1099511627776):aG prog 202 [aX x,aX y] (.int .i64 (x-y).sign):=
 bC func202 (λ_=>[(FJ h1 h2 hp hq).at 7,(pR (x-y)).at 8])
theorem nB{x y:Int}{p:Nat}(h1:x.natAbs<2^p)(h2:y.natAbs<2^q)(hp:p<=1099511627776)(hq:q<=1099511627776):aG prog 148 [aX x,aX y] (aX (x*y)):=by
 revert h1 h2;refine FI (C:=λx y v u=>x.natAbs<2^p->y.natAbs<2^q->aG prog 148 [v,u] (aX (x*y))) (λn1 n2 m1 m2 v1 v2 h1 h2=>?_) x y;rw[qJ]at h1 h2;have b1:=xK h1;have b2:=xK h2;have bs:nd base (m1*m2)<35184372088832:=by have:=xK (m:=m1*m2) (n:=p+q) (by rw[eU];exact qA h1 h2);omega
 have e:sg n1 m1*sg n2 m2=sg (n1 !=n2) (m1*m2):=by cases n1<;>cases n2<;>simp[sg,H8,H9]
 rw[e,<-wk];refine eY mixed func148 100 (λ_=>[(iI _ v1).at 6,(iI _ v2).at 10,.of f148 16 3 m1 p h1 hp (y:=.func 191) k_,.of f148 19 4 m2 q h2 hq (y:=.func 191) k_,.mul f148 20 5 3 4 m1 m2 o_ o_ (y:=.func 195) k_,.DH f148 26 5 (m1*m2) (vl (m1*m2)) (sW _) (n1 !=n2) bs (y:=.func 158) k_]) (λ_=>?_) k_ ?_<;>cases n1<;>cases n2<;>kernel_rfl
section
variable{Bs:aa}{N:Nat}
theorem Oq(hm:aO Bs ι c w){n:Nat}{v:i_}(hk:c k=none)(h:w.ownsRow n2 ty size v n xs)(cR:∀ u∈xs,flat u=true)
  (dG:∀ j y b o cap,c j=some y->y.owns=true->ι j=some (.at b o cap)->b<n2) :
  ∃ aA,Map.le ι aA/\aO Bs aA (bt c k (.view xs)) w/\aL aA (.slice (some ⟨k,0,some 7⟩) n 0) v:=by
 refine zu hm hk (.ZC h) cR λb o c' e j y o' aQ hj hy he=>?_;have h1:=dG j y b o' aQ hj hy he;rcases h.2 with ⟨h2,_⟩|⟨g,cap,cur,h2,h3,_⟩
 ·rw[h2]at e;cases e
 ·rw[h2]at e;injection e with e1 e2;injection e1 with e1;injection e1 with e1;omega
def kH(a:Nat):Obj:=.view (ao (ae base (nd base a) a))
theorem Ot(hm:aO Bs ι c w):∀ j y b o cap,c j=some y->y.owns=true->ι j=some (.at b o cap)->b<w.heap.size:=λj y b o cap h1 h2 h3=>(hm.own j y b o cap h1 h2 h3).1
theorem aAV(hm:aO Bs ι c w)(hle:Map.le ι aA)(h:∀ j y b o cap,c j=some y->y.owns=true->ι j=some (.at b o cap)->b<n2):
  ∀ j y b o cap,bt c k (.view xs) j=some y->y.owns=true->aA j=some (.at b o cap)->b<n2:=by
 intro j y b o cap hj hy hb;unfold bt at hj;by_cases cg:j=k
 ·rw[aB cg]at hj;injection hj with hj;subst hj;cases hy
 ·rw[az cg]at hj;obtain⟨l,e1,_⟩:=hm.born j y hj;have:=hle j l e1;rw[hb]at this;injection this with this;subst this;exact h j y b o cap hj hy e1
theorem aKc{y:m_}{c:Nat}(ho:dF o.op=some y)(fe:gg prog f=true)(dL:∀ v∈args,flat v=true)
  (h:∀ w,Calls prog f args.toArray w λe w'=>∃ v,e=.returned v/\j0 w w' v c/\Below w.heap.size w w') (k:Nat) :
  cI prog Bs o (.func (.func f) #[] #[]::args) [(k,none)] (sl k (nd base c)) [(k,kH c)]:=by
 refine jY (fi:=[]) (ca:=[]) ho fe λι cc w hm hn args' bh=>?_;rw[ju,jO]at bh;rw[nQ bh dL];refine(h w).mono ?_
 rintro e w' ⟨v,rfl,h1,h2⟩
 obtain⟨aA,q1,q2,q3⟩:=ZD hm h2 (k:=k) (hn _ (aR ..)) h1 (fR _);exact⟨aA,v,rfl,q1,q3,q2⟩
def aY.zU(fn:Func)(key k m n:Nat)(h:m<2^n)(hn:n<=1099511627776){y:m_}(ho:dF (au fn key).op=some y):aY prog Bs N:=
 .step key (au fn key) [.func (.func 191) #[] #[],oI m] [(k,none)] (sl k (nd base m)) [(k,kH m)] (aKc ho k_ (λv hv=>by simp at hv;subst hv;rfl) (λ_=>aAU h hn) k)
theorem vn(a:Nat):qG (kH a) a:=xI a
theorem Ou{y:m_}(ho:dF o.op=some y){kq kr:Nat}(hk:kr≠kq)(vm:qG x1 a)(kC:x1.kh=true)(ij:qG x2 b)(lp:b≠0)(h1:nd base a<35184372088831)(h2:nd base b<35184372088831):
  cI prog Bs o [.func (.func 197) #[] #[],sl k1 (nd base a),sl k2 (nd base b)] [(k1,some x1),(k2,some x2),(kq,none),(kr,none)] (.tuple #[sl kq (nd base (a/b)),sl kr (nd base (a%b))]) [(kr,kH (a%b)),(kq,kH (a/b))]:=by
 refine jY (fi:=[]) (ca:=[]) ho k_ λι c w hm hn args' bh=>?_;rw[ju,jO]at bh;obtain⟨va,vb,rfl,hv,il⟩:=js bh;have iq:c k1=some x1:=hn (k1,some x1) s_;have fO:c k2=some x2:=hn (k2,some x2) s_;have KI:c kq=none:=hn (kq,none) s_;have T0:c kr=none:=hn (kr,none) s_;have ha:=BP hm iq vm hv;have hb:=BP hm fO ij il;have fin:∀(w':h_) (vq vr:i_),Below w.heap.size w w'->(∃ bZ,Map.le ι bZ/\aO Bs bZ (bt c kq (kH (a/b))) w'/\aL bZ (sl kq (nd base (a/b))) vq/\∃ dO,Map.le bZ dO/\aO Bs dO (bt (bt c kq (kH (a/b))) kr (kH (a%b))) w'/\aL dO (sl kr (nd base (a%b))) vr)->
   ∃ aA v',Ending.returned (.tuple #[vq,vr])=.returned v'/\Map.le ι aA/\aL aA (.tuple #[sl kq (nd base (a/b)),sl kr (nd base (a%b))]) v'/\aO Bs aA (lZ c [(kr,kH (a%b)),(kq,kH (a/b))]) w':=by
  rintro w' vq vr gn ⟨bZ,q1,q2,q3,dO,s1,s2,s3⟩
  exact⟨dO,_,rfl,q1.trans s1,.tup (.cons (q3.mono s1) (.cons s3 .nil)),s2⟩
 have KJ:∀ x,bt c kq x kr=none:=λx=>by unfold bt;rw[az hk];exact T0
 have new:∀(w':h_) (vq vr:i_),Below w.heap.size w w'->j0 w w' vq (a/b)->j0 w w' vr (a%b)->(∃ bZ,Map.le ι bZ/\aO Bs bZ (bt c kq (kH (a/b))) w'/\aL bZ (sl kq (nd base (a/b))) vq/\∃ dO,Map.le bZ dO/\aO Bs dO (bt (bt c kq (kH (a/b))) kr (kH (a%b))) w'/\aL dO (sl kr (nd base (a%b))) vr):=by intro w' vq vr gn h3 h4;have bJ:=hm.call gn;obtain⟨bZ,q1,q2,q3⟩:=Oq bJ KI h3 (fR _) (Ot hm);obtain⟨dO,s1,s2,s3⟩:=Oq q2 (KJ _) h4 (fR _) (aAV bJ q1 (Ot hm));exact⟨bZ,q1,q2,q3,dO,s1,s2,s3⟩
 by_cases b9:a<b
 ·have e1:a/b=0:=mH b9;have e2:a%b=a:=dW b9;refine(TS ha hb b9 o_ o_).mono ?_
  rintro e w' ⟨rfl,gn⟩
  refine fin w' _ _ gn ?_;have bJ:=hm.call gn;obtain⟨bZ,q1,q2,q3⟩:=zu (xs:=[]) (n:=0) (v:=.slice none 0 0) bJ KI (.inl ⟨rfl,rfl,rfl⟩) n_ n_;have ez:kH (a/b)=.view []:=by unfold kH;rw[e1,oG];rfl
  have en:nd base (a/b)=0:=by rw[e1,oG]
  rw[ez,en,e2];have T1:dp w' va (nd base a) (ao (ae base (nd base a) a)):=dp.jJ ha gn;obtain⟨dO,s1,s2,s3⟩:=zu q2 (KJ _) T1 (fR _) (λb o c' e j y o' aQ hj hy he=>by
   have BL:c j=some y:=by
    unfold bt at hj;by_cases cg:j=kq
    ·rw[aB cg]at hj;injection hj with hj;subst hj;cases hy
    ·rw[az cg]at hj;exact hj
   obtain⟨l,e1,_⟩:=hm.born j y BL;have e2:=q1 j l e1;rw[he]at e2;injection e2 with e2;subst e2;subst e;rcases hv.iC rfl with ⟨_,_,_,_,e⟩|⟨b',o2,ql,c2,gE,_,_,e⟩
   ·cases e
   ·injection e with e _ _;injection e with e;injection e with e _ _;subst e;exact(hm.seen k1 x1 _ _ _ iq kC gE).2 j y _ _ BL hy e1)
  exact⟨bZ,q1,q2,q3,dO,s1,s2,s3⟩
 ·have KK:b<=a:=Kz.1 b9;have go:Calls prog 197 #[va,vb] w λe w'=>∃ vq vr,e=.returned (.tuple #[vq,vr])/\j0 w w' vq (a/b)/\j0 w w' vr (a%b)/\Below w.heap.size w w':=by
   by_cases al:b<base
   ·exact TT ha hb KK lp al o_
   ·have h3:2<=nd base b:=by
     rcases e9 (nd base b) 2 with h|h
     ·have h4:=eB (B:=base) d_ b;have h5:base^nd base b<=base^1:=di d_ o_;rw[BG]at h5;omega
     ·exact h
    exact TV (e:=nd base b-2) ha hb KK o_ h1
  refine go.mono ?_
  rintro e w' ⟨vq,vr,rfl,h3,h4,gn⟩
  exact fin w' _ _ gn (new w' vq vr gn h3 h4)
end
def eu(x y:Nat):Nat->Nat×Nat
 |0=>(x,y)
 |i+1=>((eu x y i).2,(eu x y i).1%(eu x y i).2)
theorem KL(x y:Nat):∀ i,Nat.gcd (eu x y i).1 (eu x y i).2=Nat.gcd x y
 |0=>rfl
 |i+1=>by rw[<-KL x y i];show Nat.gcd (eu x y i).2 ((eu x y i).1%(eu x y i).2)=_;rw[Ia,<-Nat.gcd_rec,Ia]
theorem T2(x y:Nat):∀ i,(eu x y i).1<=max x y/\(eu x y i).2<=max x y
 |0=>⟨Nat.le_max_left ..,Nat.le_max_right ..⟩
 |i+1=>by obtain⟨h1,h2⟩:=T2 x y i;exact⟨h2,dh (Kh _ _) h1⟩
theorem Ov(x y:Nat)(p:Nat->Nat->Bool)(hp:∀ u v,p u v=true->v≠0):∃ n,p (eu x y n).1 (eu x y n).2=false/\∀ i,i<n->p (eu x y i).1 (eu x y i).2=true:=by
 have key:∃ n,p (eu x y n).1 (eu x y n).2=false:=by
  apply iP;intro fU;have all:∀ i,p (eu x y i).1 (eu x y i).2=true:=λi=>by
   cases h:p (eu x y i).1 (eu x y i).2 with
   |true=>rfl
   |false=>exact absurd ⟨i,h⟩ fU
  have dec:∀ i,(eu x y i).2+i<=y:=by
   intro i;induction i with
   |zero=>exact bF _
   |succ i ih=>
    have h0:=hp _ _ (all i);have h1:(eu x y (i+1)).2<(eu x y i).2:=cP _ (ue h0);omega
  have h1:=dec (y+1);omega
 obtain⟨n,hn⟩:=key;obtain⟨e,h1,h2,h3⟩:=zy (λi=>p (eu x y i).1 (eu x y i).2=false) n hn;exact⟨e,h2,λi hi=>by
  cases h:p (eu x y i).1 (eu x y i).2 with
  |true=>rfl
  |false=>exact absurd h (h3 i hi)⟩
def zW(u v:Nat):Bool:=decide (2<nd base v)||(decide (2<nd base u)&&decide (0<nd base v))
section
variable{Bs:aa}
def DI(u v:Nat):aT:=[(5,sl 5 (nd base u)),(6,sl 6 (nd base v))]
def B0(u v:Nat):List Obj:=[kH u,kH v]
theorem aKd{u v:Nat}(h:zW u v=true)(h0:v≠0)(h1:nd base u<35184372088831)(h2:nd base v<35184372088831):
  ah prog Bs 65 (aI (ag f156 0)) (DI u v) ([]++marks 5 (B0 u v)) 7 ⟨.normal,gH 5 [some 6,some 8] (DI v (u%v)),[]++dT [some 6,some 8] (B0 v (u%v)),9⟩:=by
 have hd:=Ou (Bs:=Bs) (o:=au f156 42) (y:=.func 197) k_ (k1:=5) (k2:=6) (kq:=7) (kr:=8) d_ (vn u) rfl (vn v) h0 h1 h2;unfold zW at h;by_cases c1:2<nd base v
 ·exact aD [.gt 28 (nd base v) 2 true (by simp[c1]),.step 42 _ _ _ _ _ hd]
 ·simp[c1]at h;exact aD [.gt 28 (nd base v) 2 false (by simp;omega),.gt 32 (nd base u) 2 true (by simp[h.1]),.gt 36 (nd base v) 0 true (by simp[h.2]),.step 42 _ _ _ _ _ hd]
theorem aKe{u v:Nat}(h:zW u v=false):
  ah prog Bs 65 (aI (ag f156 0)) (DI u v) ([]++marks 5 (B0 u v)) 7 ⟨.exit 0,DI u v,marks 5 (B0 u v),7⟩:=by
 unfold zW at h;by_cases c1:2<nd base v
 ·simp[c1]at h
 ·by_cases c2:2<nd base u
  ·by_cases c3:0<nd base v
   ·simp[c2,c3]at h
   ·exact aD [.gt 28 (nd base v) 2 false (by simp;omega),.gt 32 (nd base u) 2 true (by simp[c2]),.gt 36 (nd base v) 0 false (by simp;omega)]
  ·exact aD [.gt 28 (nd base v) 2 false (by simp;omega),.gt 32 (nd base u) 2 false (by simp;omega)]
theorem aKf{x y n:Nat}(hn:zW (eu x y n).1 (eu x y n).2=false)(hi:∀ i,i<n->zW (eu x y i).1 (eu x y i).2=true)(h1:nd base (max x y)<35184372088831):
  ah prog Bs 65 (.block 0 (ag f156 0)) (gH 5 [some 3,some 4] (DI x y)) ([]++dT [some 3,some 4] (B0 x y)) 5 ⟨.normal,DI (eu x y n).1 (eu x y n).2,marks 5 (B0 (eu x y n).1 (eu x y n).2),7⟩:=by
 have:=qF (P:=prog) (B:=Bs) (N:=65) (b:=aI (ag f156 0)) (next:=5) (p:=2) (r:=⟨.exit 0,DI (eu x y n).1 (eu x y n).2,marks 5 (B0 (eu x y n).1 (eu x y n).2),7⟩) n (λi=>DI (eu x y i).1 (eu x y i).2) (λ_=>[]) (λi=>B0 (eu x y i).1 (eu x y i).2) [some 3,some 4] (λ_ _=>rfl)
  (λi _=>⟨λq hq=>(by cases hq),λz hz=>by simp[B0]at hz;rcases hz with rfl|rfl<;>exact HN (fR _)⟩) k_ k_
  (λi al=>⟨[some 6,some 8],9,k_,by have hg:=hi i al;have hle:=T2 x y i;refine aKd hg (λe=>?_) (eZ (jx d_ hle.1) h1) (eZ (jx d_ hle.2) h1);rw[e]at hg;unfold zW at hg;rw[oG]at hg;simp at hg⟩) (aKe hn) n_
 exact cd (id:=0) this
def xM(u v:Nat):aT:=[(9,qI u),(10,qI v)]
theorem T3{x y:Nat}:∃ g,g=Nat.gcd x y/\ah prog Bs 65 (.block 2 (ag f156 2)) (xM x y) [] 7 ⟨.normal,[(9,qI g)],[],7⟩:=by
 obtain⟨n,hn,hi⟩:=Ov x y (λ_ v=>decide (v≠0)) (λu v h=>kp h);have hz:(eu x y n).2=0:=by have:=DJ hn;omega
 have hg:=KL x y n;rw[hz,T4]at hg;refine⟨_,hg,cd (id:=2) (cx (P:=prog) (B:=Bs) (N:=65) (b:=aI (ag f156 2)) (next:=7) (r:=⟨.exit 2,[(9,qI (eu x y n).1)],[],7⟩) n (λi=>xM (eu x y i).1 (eu x y i).2) (λ_=>[]) (λ_ _ _=>Iff.rfl) (λi al=>?_) ?_ n_)⟩
 ·have h0:(eu x y i).2≠0:=kp (hi i al);show ah _ _ _ _ (xM (eu x y i).1 (eu x y i).2) [] 7 ⟨.normal,xM (eu x y i).2 ((eu x y i).1%(eu x y i).2),[],7⟩;generalize (eu x y i).1=u at *;generalize (eu x y i).2=v at *;exact aD [.rw 57 (.bool ((v:Int)!=0)) b_ (by congr 1;rw[rJ];omega),.Fq f156 61 .u64 (u:Int) v ((u%v:Nat):Int) o_ (by rw[zL o_];rfl) k_]
 ·rw[hz];exact aD [.rw 57 (.bool (((0:Nat):Int)!=0)) a_ rfl]
end
theorem T5{n1 n2:Bool}{p:Nat}(v1:n1=true->m1≠0)(v2:n2=true->m2≠0)(h1:m1<2^p)(h2:m2<2^q)(hp:p<=1099511627776)(hq:q<=1099511627776):
  aG prog 156 [sv n1 m1,sv n2 m2] (aX (Nat.gcd m1 m2:Nat)):=by
 have b1:=xK h1;have b2:=xK h2;have bm:nd base (max m1 m2)<35184372088831:=by rcases Ow m1 m2 with h|h<;>simp[h]<;>omega
 obtain⟨n,hn,hi⟩:=Ov m1 m2 zW (λu v h e=>by rw[e]at h;unfold zW at h;rw[oG]at h;simp at h)
 have hg:=KL m1 m2 n;have hle:=T2 m1 m2 n;have hl:=λw=>aKf (Bs:=aa.at w) hn hi bm;have bU:nd base (eu m1 m2 n).1<35184372088831:=eZ (jx d_ hle.1) bm;have bV:nd base (eu m1 m2 n).2<35184372088831:=eZ (jx d_ hle.2) bm;rw[<-hg];generalize (eu m1 m2 n).1=U at *;generalize (eu m1 m2 n).2=V at *;have e:=wk false (Nat.gcd U V);rw[show sg false (Nat.gcd U V)=((Nat.gcd U V:Nat):Int)from rfl]at e;rw[<-e];by_cases hV:V=0
 ·subst hV;rw[T4];exact bC func156 (λw=>[(iI n1 v1).at 12,(iI n2 v2).at 16,.zU f156 22 3 m1 p h1 hp (y:=.func 191) k_,.zU f156 25 4 m2 q h2 hq (y:=.func 191) k_,.code 0 _ _ _ _ _ (hl w),.rw 49 (.bool (((nd base 0:Nat):Int)==0)) b_ (by rw[oG];rfl),.DH f156 51 5 U (kH U) (vn U) false o_ (y:=.func 158) k_])
 ·have rK:=xq (B:=base) d_ hV;unfold zW at hn;have c1:nd base V<=2/\nd base U<=2:=by simp at hn;exact⟨hn.1,Kz.1 λh=>by have:=hn.2 h;omega⟩
  have aAW:∀ t,nd base t<=2->t<18446744073709551616:=λt ht=>by have h1:=eB (B:=base) d_ t;have h2:base^nd base t<=base^2:=di d_ ht;exact cF h1 (dh h2 d_)
  have aKg:=aAW U c1.2;have aAX:=aAW V c1.1;have Ox:∀ w,∃ g,g=Nat.gcd U V/\ah prog (aa.at w) 65 (.block 2 (ag f156 2)) (xM U V) [] 7 ⟨.normal,[(9,qI g)],[],7⟩:=λw=>T3;have Ox:∀ w,ah prog (aa.at w) 65 (.block 2 (ag f156 2)) (xM U V) [] 7 ⟨.normal,[(9,qI (Nat.gcd U V))],[],7⟩:=λw=>by obtain⟨g,rfl,h⟩:=Ox w;exact h
  have aKh:Nat.gcd U V<18446744073709551616:=eZ (Nat.gcd_le_right U (ue hV)) aAX;have bG:nd base (Nat.gcd U V)<35184372088832:=by have:=jx (B:=base) d_ (Nat.gcd_le_right U (ue hV));omega
  exact bC func156 (λw=>[(iI n1 v1).at 12,(iI n2 v2).at 16,.zU f156 22 3 m1 p h1 hp (y:=.func 191) k_,.zU f156 25 4 m2 q h2 hq (y:=.func 191) k_,.code 0 _ _ _ _ _ (hl w),.gO 49 (nd base V) 0 false (by simp;omega),.step 53 (au f156 53) _ _ _ _ (HW (f:=198) (y:=.func 198) (k1:=5) (post:=[]) (res:=qI U) k_ k_ (vn U) n_ rfl λ_ _ h=>aAb h aKg o_),.step 55 (au f156 55) _ _ _ _ (HW (f:=198) (y:=.func 198) (k1:=6) (post:=[]) (res:=qI V) k_ k_ (vn V) n_ rfl λ_ _ h=>aAb h aAX o_),.code 2 _ _ _ _ _ (Ox w),.step 63 (au f156 63) _ _ _ _ (Og (y:=.func 157) (args:=[qI (Nat.gcd U V)]) k_ k_ (λv hv=>by simp at hv;subst hv;rfl) (λ_=>Tl aKh) 7),.DH f156 64 7 (Nat.gcd U V) (vl (Nat.gcd U V)) (sW _) false bG (y:=.func 158) k_])
theorem FK{x y:Int}{p:Nat}(h1:x.natAbs<2^p)(h2:y.natAbs<2^q)(hp:p<=1099511627776)(hq:q<=1099511627776):aG prog 156 [aX x,aX y] (aX (Nat.gcd x.natAbs y.natAbs:Nat)):=by revert h1 h2;refine FI (C:=λx y v u=>x.natAbs<2^p->y.natAbs<2^q->aG prog 156 [v,u] (aX (Nat.gcd x.natAbs y.natAbs:Nat))) (λn1 n2 m1 m2 v1 v2 h1 h2=>?_) x y;rw[qJ]at h1 h2;rw[qJ,qJ];exact T5 v1 v2 h1 h2 hp hq
theorem Oy{a b q r:Int}(h:a=q*b+r)(hr:(0<b/\0<=r/\r<b)\/(b<0/\b<r/\r<=0)):a.fdiv b=q/\a.fmod b=r:=by
 have key:a.fdiv b=q:=by
  rcases hr with ⟨h1,h2,h3⟩|⟨h1,h2,h3⟩
  ·rw[sR _ o_,h,Int.add_comm,aAY _ _ o_,Int.ediv_eq_zero_of_lt h2 h3];omega
  ·have e:a.fdiv b=(-a).fdiv (-b):=(Int.neg_fdiv_neg a b).symm;have e2:-a=-r+q*-b:=by rw[h,H9];omega
   rw[e,sR _ o_,e2,aAY _ _ o_,Int.ediv_eq_zero_of_lt o_ o_];omega
 refine⟨key,?_⟩;have:=Int.mul_fdiv_add_fmod a b;rw[key,T6]at this;omega
section
variable{Bs:aa}{N:Nat}
def aY.Ib(fn:Func)(key k a:Nat)(x:Obj)(hx:qG x a)(neg:Bool)(h1:nd base a<35184372088832){y:m_}(ho:dF (au fn key).op=some y):aY prog Bs N:=
 .step key (au fn key) _ _ _ _ (HW (f:=158) (k1:=k) (post:=[.bool neg]) (res:=aX (sg neg a)) ho k_ hx (λv hv=>by simp at hv;subst hv;rfl) rfl λ_ _ h=>by rw[<-wk];exact aAG h h1)
end
theorem T7{x y:Int}{p:Nat}(hy:y≠0)(h1:x.natAbs<2^p)(h2:y.natAbs<2^q)(hp:p<=1099511627774)(hq:q<=1099511627774):
  aG prog 196 [aX x,aX y] (.tuple #[aX (x.fdiv y),aX (x.fmod y),.int .i64 0]):=by
 obtain⟨m1,c7⟩:∃ m,m=x.natAbs:=⟨_,rfl⟩;obtain⟨m2,dI⟩:∃ m,m=y.natAbs:=⟨_,rfl⟩;rw[<-c7]at h1;rw[<-dI]at h2;have Ic:m2≠0:=by omega
 have b1:=xK h1;have b2:=xK h2;obtain⟨s,hs⟩:∃ s,s=(decide (x<0)!=decide (y<0)):=⟨_,rfl⟩;obtain⟨n1,C4⟩:∃ n,n=decide (x<0):=⟨_,rfl⟩;obtain⟨Q,hQ⟩:∃ Q,Q=m1/m2:=⟨_,rfl⟩;obtain⟨R,hR⟩:∃ R,R=m1%m2:=⟨_,rfl⟩;have KM:m1=Q*m2+R:=by rw[hQ,hR,cX];exact(jy _ _).symm
 have FL:R<m2:=by rw[hR];exact cP _ (ue Ic)
 have T8:Q<=m1:=by rw[hQ];exact uh _ _
 have bQ:nd base (m1/m2)<35184372088832:=by have:=jx (B:=base) d_ T8;rw[<-hQ];omega
 have bR:nd base (m1%m2)<35184372088832:=by have:=jx (B:=base) d_ (j5 FL);rw[<-hR];omega
 have ex:x=sg n1 m1:=by rw[C4,c7];unfold sg;by_cases h:x<0<;>simp[h]<;>omega
 have ey:y=sg (n1 !=s) m2:=by rw[C4,hs,dI];unfold sg;by_cases h:x<0<;>by_cases h':y<0<;>simp[h,h']<;>omega
 have KN:(decide (x<0)!=decide (y<0))=s:=hs.symm;have v1:=pj x;have v2:=pj y;have T9:((BA (cM y.natAbs)).toList==(ByteArray.mk #[]).toList)=false:=by rw[qH,<-dI,bd Ic]
 have Ua:(!((BA (cM (sg n1 R).natAbs)).toList==(ByteArray.mk #[]).toList))=decide (R≠0):=by rw[qH,qJ];simp
 have oU:x.natAbs<2^p:=by rw[<-c7];exact h1
 have wo:y.natAbs<2^q:=by rw[<-dI];exact h2
 rw[show m1/m2=Q from hQ.symm]at bQ;rw[show m1%m2=R from hR.symm]at bR;have hd:∀ w,cI prog (aa.at w) (au f196 33) [.func (.func 197) #[] #[],sl 4 (nd base x.natAbs),sl 5 (nd base y.natAbs)] [(4,some (kH x.natAbs)),(5,some (kH y.natAbs)),(6,none),(7,none)] (.tuple #[sl 6 (nd base Q),sl 7 (nd base R)]) [(7,kH R),(6,kH Q)]:=λw=>by have:=Ou (Bs:=aa.at w) (o:=au f196 33) (y:=.func 197) k_ (k1:=4) (k2:=5) (kq:=6) (kr:=7) d_ (vn x.natAbs) rfl (vn y.natAbs) o_ (by rw[<-c7];omega) (by rw[<-dI];omega);rw[<-c7,<-dI,<-hQ,<-hR]at this;rw[<-c7,<-dI];exact this
 have Ub:(Value.bool (decide (x<0)))=.bool n1:=by rw[C4]
 by_cases Oz:R≠0/\s=true
 ·obtain⟨vo,bT⟩:=Oz;have fin:=Oy (a:=x) (b:=y) (q:=sg s Q-1) (r:=sg n1 R+y) (by
    rw[ex,ey,bT,KM];have e:sg true Q=-(Q:Int):=rfl;rw[e];have fG:((Q*m2:Nat):Int)=(Q:Int)*m2:=oy ..;cases n1<;>simp only[sg,OA,OB,Km,rz,vk,vj,wj,fG,Int.sub_mul,H8,H9,KH,OC]<;>omega)
   (by
    rw[ey,bT];cases n1
    ·right;simp only[sg,OA,rz,vk,vj];omega
    ·left;simp only[sg,OB,Km,rz,vk,vj];omega)
  rw[fin.1,fin.2];have s1:(sg s Q).natAbs<2^p:=by rw[qJ];omega
  have s2:(1:Int).natAbs<2^1:=by decide
  have s3:(sg n1 R).natAbs<2^q:=by rw[qJ];omega
  have sb:=FJ (x:=sg s Q) (y:=1) s1 s2 o_ o_;have ad:=zT (x:=sg n1 R) (y:=y) s3 wo o_ o_;exact bC func196 (λw=>[v1.at 11,v2.at 15,.rw 23 (.bool ((BA (cM y.natAbs)).toList==(ByteArray.mk #[]).toList)) a_ (by rw[T9]),.zU f196 29 4 x.natAbs p oU o_ (y:=.func 191) k_,.zU f196 32 5 y.natAbs q wo o_ (y:=.func 191) k_,.step 33 _ _ _ _ _ (hd w),.rw 41 (.bool (decide (x<0)!=decide (y<0))) (.bool s) (by rw[KN]),.Ib f196 42 6 Q (kH Q) (vn Q) s bQ (y:=.func 158) k_,.rw 45 (.bool (decide (x<0))) (.bool n1) Ub,.Ib f196 46 7 R (kH R) (vn R) n1 bR (y:=.func 158) k_,.rw 49 (.bool (!((BA (cM (sg n1 R).natAbs)).toList==(ByteArray.mk #[]).toList))) b_ (by rw[Ua,aJ vo]),.rw 55 (.bool (decide (x<0)!=decide (y<0))) b_ (by rw[KN,bT]),(lq (z:=1) d_).at 58,sb.at 59,ad.at 62])
 ·have fin:=Oy (a:=x) (b:=y) (q:=sg s Q) (r:=sg n1 R) (by
    rw[ex,ey,KM];have fG:((Q*m2:Nat):Int)=(Q:Int)*m2:=oy ..;cases n1<;>cases s<;>simp only[sg,OA,OB,Km,NX,rz,vk,vj,wj,fG,H8,H9,KH]<;>omega)
   (by
    rw[ey];cases n1<;>cases s
    ·left;simp only[sg,OA,vk,vj];omega
    ·right;have vo:R=0:=iP λh=>Oz ⟨h,rfl⟩;simp only[sg,OA,rz,vk,vj];omega
    ·right;simp only[sg,OB,NX,rz];omega
    ·left;have vo:R=0:=iP λh=>Oz ⟨h,rfl⟩;simp only[sg,OB,Km,rz,vk,vj];omega)
  rw[fin.1,fin.2];by_cases vo:R=0
  ·exact bC func196 (λw=>[v1.at 11,v2.at 15,.rw 23 (.bool ((BA (cM y.natAbs)).toList==(ByteArray.mk #[]).toList)) a_ (by rw[T9]),.zU f196 29 4 x.natAbs p oU o_ (y:=.func 191) k_,.zU f196 32 5 y.natAbs q wo o_ (y:=.func 191) k_,.step 33 _ _ _ _ _ (hd w),.rw 41 (.bool (decide (x<0)!=decide (y<0))) (.bool s) (by rw[KN]),.Ib f196 42 6 Q (kH Q) (vn Q) s bQ (y:=.func 158) k_,.rw 45 (.bool (decide (x<0))) (.bool n1) Ub,.Ib f196 46 7 R (kH R) (vn R) n1 bR (y:=.func 158) k_,.rw 49 (.bool (!((BA (cM (sg n1 R).natAbs)).toList==(ByteArray.mk #[]).toList))) a_ (by rw[Ua,bd (λh=>h vo)])])
  ·have bT:s=false:=by
    cases s
    ·rfl
    ·exact absurd ⟨vo,rfl⟩ Oz
   exact bC func196 (λw=>[v1.at 11,v2.at 15,.rw 23 (.bool ((BA (cM y.natAbs)).toList==(ByteArray.mk #[]).toList)) a_ (by rw[T9]),.zU f196 29 4 x.natAbs p oU o_ (y:=.func 191) k_,.zU f196 32 5 y.natAbs q wo o_ (y:=.func 191) k_,.step 33 _ _ _ _ _ (hd w),.rw 41 (.bool (decide (x<0)!=decide (y<0))) (.bool s) (by rw[KN]),.Ib f196 42 6 Q (kH Q) (vn Q) s bQ (y:=.func 158) k_,.rw 45 (.bool (decide (x<0))) (.bool n1) Ub,.Ib f196 46 7 R (kH R) (vn R) n1 bR (y:=.func 158) k_,.rw 49 (.bool (!((BA (cM (sg n1 R).natAbs)).toList==(ByteArray.mk #[]).toList))) b_ (by rw[Ua,aJ vo]),.rw 55 (.bool (decide (x<0)!=decide (y<0))) a_ (by rw[KN,bT])])
section
variable{P:j_}{B:aa}{N:Nat}
def FM(o:Oper):Option (Bool×TypeId):=match o.op with|.binOp .eql t _ _ _=>some (true,t)|.binOp .neq t _ _ _=>some (false,t)|_=>none
theorem aAZ{op:BinOp}{t:TypeId}{x y:m_}{xs ys:p_}(hg:P.eqGuardType P.depth t=false)(w:h_):(eqGuard op t x y (.agg xs) (.agg ys)).run P w=.ok () w:=by unfold eqGuard;cases op<;>simp[hg]
theorem OD{t:TypeId}{neg:Bool}{xs ys:p_}{lx ly:List Lit}{r:Bool}(ho:FM o=some (neg,t))(hm:m<=10000)(hk:P.keyTypeAt m t=true)(hg:P.eqGuardType P.depth t=false)
  (hfx:(Value.agg xs).formed P t=true) (hfy:(Value.agg ys).formed P t=true) (hx:P.keyLits D t xs.toList=some lx) (hy:P.keyLits D t ys.toList=some ly) (Yu:flat (.agg xs)=true) (JQ:flat (.agg ys)=true)
  (hr:(if neg then r else !r)=true↔lx=ly):cI P B o [.agg xs,.agg ys] [] (.bool r) []:=by
 refine(CV (λu hu=>by simp at hu;rcases hu with rfl|rfl<;>assumption) rfl λρ gu w _=>?_).step;obtain⟨r',e1,e2⟩:=run_equalIn_deep (10000-m) m t hk w D D (.agg xs) (.agg ys) lx ly hfx hfy hx hy;rw[show 10000-m+m=10000 by omega]at e1;have e1:(Op.equal t (.agg xs) (.agg ys)).run P w=.ok r' w:=e1;unfold FM at ho;split at ho
 ·rename_i t' p q t2 ck;injection ho with ho;injection ho with h1 h2;subst h1;subst h2;rw[ck]at gu;simp[Op.operands]at gu;have e3:r'=r:=by rw[<-e2]at hr;cases r<;>cases r'<;>simp at hr ⊢
  have oC:=aAZ (op:=.eql) (x:=p) (y:=q) (xs:=xs) (ys:=ys) hg w;simp only[execOp,ck,gu.1,gu.2];simp[oC,binOp,e1,e3]
 ·rename_i t' p q t2 ck;injection ho with ho;injection ho with h1 h2;subst h1;subst h2;rw[ck]at gu;simp[Op.operands]at gu;have e3:(!r')=r:=by rw[<-e2]at hr;cases r<;>cases r'<;>simp at hr ⊢
  have oC:=aAZ (op:=.neq) (x:=p) (y:=q) (xs:=xs) (ys:=ys) hg w;simp only[execOp,ck,gu.1,gu.2];simp[oC,binOp,e1,e3]
 ·cases ho
theorem aA0{β:Type}(f:TypeId->Nat->Option β):∀(l:List Field) {m:List (TypeId×Nat)},l.map (λg=>(g.type,g.offset))=m->(l.mapM λg=>f g.type g.offset)=m.mapM λp=>f p.1 p.2
 |[],m,h=>by subst h;rfl
 |g::l,m,h=>by subst h;simp only[oZ,Kb];rw[aA0 f l rfl]
theorem OE{t: TypeId}{fs: Array Field}{l: List (TypeId × Nat)}{cs: ak}(hu : P.underlying t = some (.struct fs))(hf : fs.toList.map (fun g => (g.type, g.offset)) = l)(hn : fs.all (fun g => g.name != "_") = true)(hl : cs.length = P.cellsOf t)(d : Nat) :
  P.keyLits (d+1) t cs=(l.mapM λp=>P.keyLits d p.1 ((cs.drop p.2).take (P.cellsOf p.1))).map List.flatten:=by
 conv=>lhs;unfold Program.keyLits
 rw[hu];dsimp only;rw[aB ⟨hl,hn⟩,aA0 (λa b=>P.keyLits d a ((cs.drop b).take (P.cellsOf a))) fs.toList hf]
theorem aKi{t e:TypeId}{n:Nat}{cs:ak}(hu:P.underlying t=some (.array n e))(hl:cs.length=P.cellsOf t)(d:Nat):
  P.keyLits (d+1) t cs=((List.range n).mapM λi=>P.keyLits d e ((cs.drop (i*P.cellsOf e)).take (P.cellsOf e))).map List.flatten:=by
 conv=>lhs;unfold Program.keyLits
 rw[hu];dsimp only;rw[aB hl]
theorem aKj{t:TypeId}(hu:P.underlying t=some .bool)(b:Bool)(d:Nat):P.keyLits (d+1) t [.bool b]=some [.bool b]:=by unfold Program.keyLits;rw[hu]
theorem aKk{t:TypeId}(hu:P.underlying t=some .string)(s:ByteArray)(hs:s.size<=maxLen)(d:Nat):P.keyLits (d+1) t [.string s]=some [.string s.data.toList]:=by unfold Program.keyLits;rw[hu];dsimp only;rw[aB hs]
end
section
class CR (F:Type) extends Add F,Mul F,Neg F,Sub F,Zero F,One F where
 add_assoc:∀ a b c:F,a+b+c=a+(b+c)
 add_comm:∀ a b:F,a+b=b+a
 zero_add:∀ a:F,0+a=a
 neg_add:∀ a:F,-a+a=0
 mul_assoc:∀ a b c:F,a*b*c=a*(b*c)
 mul_comm:∀ a b:F,a*b=b*a
 one_mul:∀ a:F,1*a=a
 mul_add:∀ a b c:F,a*(b+c)=a*b+a*c
 sub_def:∀ a b:F,a-b=a+-b
namespace CR
variable{F:Type}[CR F]
theorem add_zero(a:F):a+0=a:=by rw[add_comm,zero_add]
theorem add_neg(a:F):a+-a=0:=by rw[add_comm,neg_add]
theorem mul_one(a:F):a*1=a:=by rw[mul_comm,one_mul]
theorem add_mul(a b c:F):(a+b)*c=a*c+b*c:=by rw[mul_comm,mul_add,mul_comm c a,mul_comm c b]
theorem add_left_comm(a b c:F):a+(b+c)=b+(a+c):=by rw[<-add_assoc,add_comm a b,add_assoc]
theorem mul_left_comm(a b c:F):a*(b*c)=b*(a*c):=by rw[<-mul_assoc,mul_comm a b,mul_assoc]
theorem add_left_cancel{a b c:F}(h:a+b=a+c):b=c:=by have:=cS (λx=>-a+x) h;simpa only[<-add_assoc,neg_add,zero_add]using this
theorem mul_zero(a:F):a*0=0:=by apply add_left_cancel (a:=a*0);rw[<-mul_add,zero_add,add_zero]
theorem zero_mul(a:F):0*a=0:=by rw[mul_comm,mul_zero]
theorem Ie{a b:F}(h:a+b=0):b=-a:=add_left_cancel (a:=a) (by rw[h,add_neg])
theorem neg_mul(a b:F):-a*b=-(a*b):=Ie (by rw[<-add_mul,add_neg,zero_mul])
theorem mul_neg(a b:F):a*-b=-(a*b):=by rw[mul_comm,neg_mul,mul_comm]
theorem neg_neg(a:F):- -a=a:=(Ie (neg_add a)).symm
theorem B3(a b:F):-(a+b)=-a+-b:=
 (Ie (by rw[add_assoc,add_left_comm b,<-add_assoc,add_neg,zero_add,add_neg])).symm
theorem neg_zero:-(0:F)=0:=(Ie (zero_add 0)).symm
def ofNat:Nat->F
 |0=>0
 |n+1=>ofNat n+1
def ofInt:Int->F
 |.ofNat n=>ofNat n
 |.negSucc n=>-ofNat (n+1)
theorem ofNat_add(a b:Nat):(ofNat (a+b):F)=ofNat a+ofNat b:=by
 induction b with
 |zero=>simp[ofNat,add_zero]
 |succ b ih=>rw[<-uW];simp only[ofNat];rw[ih,add_assoc]
theorem ofNat_mul(a b:Nat):(ofNat (a*b):F)=ofNat a*ofNat b:=by
 induction b with
 |zero=>simp[ofNat,mul_zero]
 |succ b ih=>rw[NP,ofNat_add,ih];simp only[ofNat];rw[mul_add,mul_one]
theorem ofInt_sub(a b:Nat):(ofInt ((a:Int)-b):F)=ofNat a+-ofNat b:=by
 rcases Ow b a with h|h
 ·obtain⟨c,rfl⟩:=Nat.le.dest h;rw[show((b+c:Nat):Int)-b=Int.ofNat c by simp[wj];omega];simp only[ofInt];rw[ofNat_add,add_comm (ofNat b),add_assoc,add_neg,add_zero]
 ·obtain⟨c,rfl⟩:=Nat.le.dest h;cases c with
  |zero=>rw[show(a:Int)-((a+0:Nat):Int)=Int.ofNat 0 by simp];simp[ofInt,ofNat,add_neg]
  |succ c=>
   rw[show(a:Int)-((a+(c+1):Nat):Int)=Int.negSucc c by omega];simp only[ofInt];rw[ofNat_add a (c+1),B3,<-add_assoc,add_neg,zero_add]
theorem ofInt_neg(a:Int):(ofInt (-a):F)=-ofInt a:=by
 cases a with
 |ofNat n=>
  cases n with
  |zero=>simp[ofInt,ofNat,neg_zero]
  |succ n=>rfl
 |negSucc n=>rw[show -(Int.negSucc n)=Int.ofNat (n+1)from rfl];simp only[ofInt];rw[neg_neg]
theorem sZ(a:Int):∃ m n:Nat,a=(m:Int)-n:=by
 cases a with
 |ofNat m=>exact⟨m,0,by simp⟩
 |negSucc n=>exact⟨0,n+1,by omega⟩
theorem ofInt_add(a b:Int):(ofInt (a+b):F)=ofInt a+ofInt b:=by obtain⟨m,n,rfl⟩:=sZ a;obtain⟨p,q,rfl⟩:=sZ b;rw[show(m:Int)-n+(p-q)=((m+p:Nat):Int)-(n+q:Nat)by omega];rw[ofInt_sub,ofInt_sub,ofInt_sub,ofNat_add,ofNat_add,B3];simp only[add_assoc,add_left_comm]
theorem ofInt_mul(a b:Int):(ofInt (a*b):F)=ofInt a*ofInt b:=by
 obtain⟨m,n,rfl⟩:=sZ a;obtain⟨p,q,rfl⟩:=sZ b;rw[show((m:Int)-n)*(p-q)=((m*p+n*q:Nat):Int)-(m*q+n*p:Nat)by simp only[wj,oy,Int.sub_mul,Int.mul_sub];omega]
 rw[ofInt_sub,ofInt_sub,ofInt_sub];simp only[ofNat_add,ofNat_mul,add_mul,mul_add,neg_mul,mul_neg,B3,neg_neg];simp only[add_assoc,add_left_comm,add_comm]
end CR
open CR
inductive E where
 |var (i:Nat)
 |num (n:Int)
 |add (a b:E)
 |mul (a b:E)
 |neg (a:E)
 |sub (a b:E)
 |one
namespace E
instance:Add E:=⟨E.add⟩
instance:Mul E:=⟨E.mul⟩
instance:Neg E:=⟨E.neg⟩
instance:Sub E:=⟨E.sub⟩
instance:Zero E:=⟨E.num 0⟩
instance:One E:=⟨E.one⟩
def den{F:Type}[CR F](ρ:Nat->F):E->F
 |.var i=>ρ i
 |.num n=>ofInt n
 |.add a b=>den ρ a+den ρ b
 |.mul a b=>den ρ a*den ρ b
 |.neg a=>-den ρ a
 |.sub a b=>den ρ a-den ρ b
 |.one=>1
abbrev Mon:=List Nat
abbrev Poly:=List (Mon×Int)
def OG(v:Nat):Mon->Mon
 |[]=>[v]
 |u::m=>if Nat.ble v u then v::u::m else u::OG v m
def KO(m n:Mon):Mon:=m.foldr OG n
def FN:Mon->Mon->Bool
 |[],[]=>true
 |a::m,b::n=>Nat.beq a b&&FN m n
 |_,_=>false
def mlt:Mon->Mon->Bool
 |[],[]=>false
 |[],_::_=>true
 |_::_,[]=>false
 |a::m,b::n=>if Nat.beq a b then mlt m n else Nat.blt a b
def pins(m:Mon)(a:Int):Poly->Poly
 |[]=>[(m,a)]
 |(n,b)::p=>if FN m n then(if a+b=0 then p else(n,a+b)::p)else if mlt m n then(m,a)::(n,b)::p else(n,b)::pins m a p
def Ig(p q:Poly):Poly:=p.foldr (λx acc=>pins x.1 x.2 acc) q
def KP(m:Mon)(a:Int)(q:Poly)(acc:Poly):Poly:=q.foldr (λx acc=>pins (KO m x.1) (a*x.2) acc) acc
def KQ(p q:Poly):Poly:=p.foldr (λx acc=>KP x.1 x.2 q acc) []
def norm:E->Poly
 |.var i=>[([i],1)]
 |.num n=>if n=0 then[]else[([],n)]
 |.add a b=>Ig (norm a) (norm b)
 |.mul a b=>KQ (norm a) (norm b)
 |.neg a=>(norm a).map λx=>(x.1,-x.2)
 |.sub a b=>Ig (norm a) ((norm b).map λx=>(x.1,-x.2))
 |.one=>[([],1)]
def peq:Poly->Poly->Bool
 |[],[]=>true
 |(m,a)::p,(n,b)::q=>FN m n&&(a==b)&&peq p q
 |_,_=>false
section
variable{F:Type}[CR F](ρ:Nat->F)
def s7:Mon->F
 |[]=>1
 |v::m=>ρ v*s7 m
def kt:Poly->F
 |[]=>0
 |(m,a)::p=>ofInt a*s7 ρ m+kt p
theorem aKl(v:Nat)(m:Mon):s7 ρ (OG v m)=ρ v*s7 ρ m:=by
 induction m with
 |nil=>rfl
 |cons u m ih=>
  simp only[OG];split
  ·rfl
  ·simp only[s7];rw[ih,mul_left_comm]
theorem aKm(m n:Mon):s7 ρ (KO m n)=s7 ρ m*s7 ρ n:=by
 induction m with
 |nil=>simp only[KO,Uc,s7,one_mul]
 |cons v m ih=>simp only[KO,Ud,aKl];simp only[KO]at ih;rw[ih];simp only[s7];rw[mul_assoc]
theorem aA1{m n:Mon}(h:FN m n=true):m=n:=by
 induction m generalizing n with
 |nil=>cases n<;>simp_all [FN]
 |cons a m ih=>
  cases n with
  |nil=>simp[FN]at h
  |cons b n=>
   simp only[FN,de]at h;rw[R2 h.1,ih h.2]
theorem aA2(m:Mon)(a:Int)(p:Poly):kt ρ (pins m a p)=ofInt a*s7 ρ m+kt ρ p:=by
 induction p with
 |nil=>rfl
 |cons x p ih=>
  obtain⟨n,b⟩:=x;simp only[pins];split
  ·rename_i h;have:=aA1 h;subst this;split
   ·rename_i h0;simp only[kt];rw[<-add_assoc,<-add_mul,<-ofInt_add,h0];rw[show(ofInt 0:F)=0 from rfl,zero_mul,zero_add]
   ·simp only[kt];rw[ofInt_add,add_mul,add_assoc]
  ·split
   ·rfl
   ·simp only[kt];rw[ih,add_left_comm]
theorem aA3(p q:Poly):kt ρ (Ig p q)=kt ρ p+kt ρ q:=by
 induction p with
 |nil=>simp only[Ig,Uc,kt,zero_add]
 |cons x p ih=>simp only[Ig,Ud,aA2];simp only[Ig]at ih;rw[ih];simp only[kt];rw[add_assoc]
theorem aKn(m:Mon)(a:Int)(q acc:Poly):kt ρ (KP m a q acc)=ofInt a*s7 ρ m*kt ρ q+kt ρ acc:=by
 induction q with
 |nil=>simp only[KP,Uc,kt,mul_zero,zero_add]
 |cons x q ih=>
  simp only[KP,Ud,aA2];simp only[KP]at ih;rw[ih];simp only[kt];rw[aKm,ofInt_mul,mul_add,<-add_assoc]
  congr 2
  simp only[mul_assoc,mul_left_comm]
theorem aKo(p q:Poly):kt ρ (KQ p q)=kt ρ p*kt ρ q:=by
 induction p with
 |nil=>simp only[KQ,Uc,kt,zero_mul]
 |cons x p ih=>simp only[KQ,Ud,aKn];simp only[KQ]at ih;rw[ih];simp only[kt];rw[add_mul]
theorem aA4(p:Poly):kt ρ (p.map λx=>(x.1,-x.2))=-kt ρ p:=by
 induction p with
 |nil=>simp only[Tv,kt,neg_zero]
 |cons x p ih=>simp only[oZ,kt];rw[ih,ofInt_neg,neg_mul,B3]
theorem aA5(e:E):kt ρ (norm e)=den ρ e:=by
 induction e with
 |var i=>
  simp only[norm,kt,s7,den,mul_one,add_zero];rw[show(ofInt 1:F)=0+1 from rfl,zero_add,one_mul]
 |num n=>
  simp only[norm];split
  ·rename_i h;subst h;rfl
  ·simp only[kt,s7,den,mul_one,add_zero]
 |add a b KR KS=>simp only[norm,den,aA3,KR,KS]
 |mul a b KR KS=>simp only[norm,den,aKo,KR,KS]
 |neg a ih=>simp only[norm,den,aA4,ih]
 |sub a b KR KS=>simp only[norm,den,aA3,aA4,KR,KS,sub_def]
 |one=>simp only[norm,kt,s7,den,mul_one,add_zero];rw[show(ofInt 1:F)=0+1 from rfl,zero_add]
theorem aKp{p q:Poly}(h:peq p q=true):p=q:=by
 induction p generalizing q with
 |nil=>cases q<;>simp_all [peq]
 |cons x p ih=>
  obtain⟨m,a⟩:=x;cases q with
  |nil=>simp[peq]at h
  |cons y q=>
   obtain⟨n,b⟩:=y;simp only[peq,de,beq_iff_eq]at h;rw[aA1 h.1.1,h.1.2,ih h.2]
theorem prove(l r:E)(h:peq l.norm r.norm=true):l.den ρ=r.den ρ:=by rw[<-aA5,<-aA5,aKp h]
end
end E
def s8{F:Type}[CR F](l:List F):Nat->F:=λi=>l.getD i 0
end
section
open CR
class OF (F:Type) extends CR F,Inv F where
 jz:∀ x:F,x≠0->x*x⁻¹=1
 inv_zero:(0:F)⁻¹=0
 aH:F->Int
 fH:∀ x:F,aH x=0↔x=0
 ja:∀ x:F,aH x=-1\/aH x=0\/aH x=1
 pS:∀ x:F,aH (-x)=- aH x
 mL:∀ x y:F,aH (x*y)=aH x*aH y
 DK:∀ x y:F,aH x=1->aH y=1->aH (x+y)=1
 Ih:aH (1:F)=1
namespace OF
variable{F:Type}[OF F]
instance:LT F:=⟨λa b=>aH (b-a)=1⟩
instance:LE F:=⟨λa b=>aH (b-a)≠-1⟩
theorem lt_def(a b:F):(a<b)=(aH (b-a)=1):=rfl
theorem le_def(a b:F):(a<=b)=(aH (b-a)≠-1):=rfl
instance(a b:F):Decidable (a<b):=inferInstanceAs (Decidable (aH (b-a)=1))
instance(a b:F):Decidable (a<=b):=inferInstanceAs (Decidable (aH (b-a)≠-1))
theorem Ii(a:F)(l r:E->E)(h:E.peq (l (.var 0)).norm (r (.var 0)).norm=true):(l (.var 0)).den (s8 [a])=(r (.var 0)).den (s8 [a]):=E.prove _ _ _ h
theorem jP(a b:F)(l r:E->E->E)(h:E.peq (l (.var 0) (.var 1)).norm (r (.var 0) (.var 1)).norm=true):
  (l (.var 0) (.var 1)).den (s8 [a,b])=(r (.var 0) (.var 1)).den (s8 [a,b]):=E.prove _ _ _ h
theorem kJ(a b c:F)(l r:E->E->E->E)(h:E.peq (l (.var 0) (.var 1) (.var 2)).norm (r (.var 0) (.var 1) (.var 2)).norm=true):
  (l (.var 0) (.var 1) (.var 2)).den (s8 [a,b,c])=(r (.var 0) (.var 1) (.var 2)).den (s8 [a,b,c]):=E.prove _ _ _ h
theorem zX(a b c d:F)(l r:E->E->E->E->E)(h:E.peq (l (.var 0) (.var 1) (.var 2) (.var 3)).norm (r (.var 0) (.var 1) (.var 2) (.var 3)).norm=true):
  (l (.var 0) (.var 1) (.var 2) (.var 3)).den (s8 [a,b,c,d])=(r (.var 0) (.var 1) (.var 2) (.var 3)).den (s8 [a,b,c,d]):=E.prove _ _ _ h
theorem Ij(a b c d e:F)(l r:E->E->E->E->E->E)
  (h:E.peq (l (.var 0) (.var 1) (.var 2) (.var 3) (.var 4)).norm (r (.var 0) (.var 1) (.var 2) (.var 3) (.var 4)).norm=true) :
  (l (.var 0) (.var 1) (.var 2) (.var 3) (.var 4)).den (s8 [a,b,c,d,e])=(r (.var 0) (.var 1) (.var 2) (.var 3) (.var 4)).den (s8 [a,b,c,d,e]):=E.prove _ _ _ h
theorem aKq(a b c d e f:F)(l r:E->E->E->E->E->E->E)
  (h:E.peq (l (.var 0) (.var 1) (.var 2) (.var 3) (.var 4) (.var 5)).norm (r (.var 0) (.var 1) (.var 2) (.var 3) (.var 4) (.var 5)).norm=true) :
  (l (.var 0) (.var 1) (.var 2) (.var 3) (.var 4) (.var 5)).den (s8 [a,b,c,d,e,f])=(r (.var 0) (.var 1) (.var 2) (.var 3) (.var 4) (.var 5)).den (s8 [a,b,c,d,e,f]):=E.prove _ _ _ h
theorem sub_zero(a:F):a-0=a:=Ii a (λa=>a-0) (λa=>a) d_
theorem sub_self(a:F):a-a=0:=Ii a (λa=>a-a) (λ_=>0) d_
theorem sub_eq_zero{a b:F}:a-b=0↔a=b:=by
 constructor
 ·intro h;have:a=(a-b)+b:=jP a b (λa _=>a) (λa b=>(a-b)+b) d_;rw[this,h,CR.zero_add]
 ·rintro rfl;exact sub_self a
theorem gj{a:F}:0<a↔aH a=1:=by rw[lt_def,sub_zero]
theorem Ik{a:F}:a<0↔aH a=-1:=by rw[lt_def,show(0:F)-a=-a from Ii a (λa=>0-a) (λa=>-a) d_,pS];omega
theorem OH{a:F}:a=0↔aH a=0:=(fH a).symm
theorem KT{a:F}:0<=a↔aH a≠-1:=by rw[le_def,sub_zero]
theorem Ue{a:F}:a<=0↔aH a≠1:=by rw[le_def,show(0:F)-a=-a from Ii a (λa=>0-a) (λa=>-a) d_,pS];omega
theorem neg_sub(a b:F):-(a-b)=b-a:=jP a b (λa b=>-(a-b)) (λa b=>b-a) d_
theorem FO(a b:F):aH (a-b)=- aH (b-a):=by rw[<-neg_sub,pS]
theorem lt_irrefl(a:F):¬a<a:=by rw[lt_def,sub_self,(fH (0:F)).2 rfl];decide
theorem not_lt{a b:F}:¬a<b↔b<=a:=by rw[lt_def,le_def,FO a b];omega
theorem not_le{a b:F}:¬a<=b↔b<a:=by rw[lt_def,le_def,FO a b];rcases ja (b-a)with h|h|h<;>rw[h]<;>decide
theorem lt_trans{a b c:F}(h:a<b)(k:b<c):a<c:=by rw[lt_def]at *;rw[show c-a=(c-b)+(b-a)from kJ a b c (λa _ c=>c-a) (λa b c=>(c-b)+(b-a)) d_];exact DK _ _ k h
theorem le_of_lt{a b:F}(h:a<b):a<=b:=by rw[lt_def]at h;rw[le_def,h];decide
theorem le_refl(a:F):a<=a:=by rw[le_def,sub_self,(fH (0:F)).2 rfl];decide
theorem le_of_eq{a b:F}(h:a=b):a<=b:=h▸le_refl a
theorem nX{a b:F}(h:a<=b):a<b\/a=b:=by
 rw[le_def]at h;rw[lt_def];rcases ja (b-a)with k|k|k
 ·exact absurd k h
 ·exact .inr (sub_eq_zero.1 ((fH _).1 k)).symm
 ·exact .inl k
theorem lt_of_lt_of_le{a b c:F}(h:a<b)(k:b<=c):a<c:=by
 rcases nX k with k|rfl
 ·exact lt_trans h k
 ·exact h
theorem lt_of_le_of_lt{a b c:F}(h:a<=b)(k:b<c):a<c:=by
 rcases nX h with h|rfl
 ·exact lt_trans h k
 ·exact k
theorem le_trans{a b c:F}(h:a<=b)(k:b<=c):a<=c:=by
 rcases nX h with h|rfl
 ·exact le_of_lt (lt_of_lt_of_le h k)
 ·exact k
theorem le_antisymm{a b:F}(h:a<=b)(k:b<=a):a=b:=by
 rcases nX h with h|h
 ·exact absurd (lt_of_lt_of_le h k) (lt_irrefl a)
 ·exact h
theorem lt_trichotomy(a b:F):a<b\/a=b\/b<a:=by
 by_cases h:a<b
 ·exact .inl h
 ·rcases nX (not_lt.1 h)with h|h
  ·exact .inr (.inr h)
  ·exact .inr (.inl h.symm)
theorem le_total(a b:F):a<=b\/b<=a:=by
 by_cases h:a<b
 ·exact .inl (le_of_lt h)
 ·exact .inr (not_lt.1 h)
theorem ne_of_lt{a b:F}(h:a<b):a≠b:=λe=>lt_irrefl b (e▸h)
theorem ne_of_gt{a b:F}(h:a<b):b≠a:=λe=>lt_irrefl b (e▸h)
theorem sub_pos{a b:F}:0<b-a↔a<b:=by rw[gj,lt_def]
theorem sub_nonneg{a b:F}:0<=b-a↔a<=b:=by rw[KT,le_def]
theorem add_pos{a b:F}(h:0<a)(k:0<b):0<a+b:=by rw[gj]at *;exact DK _ _ h k
theorem add_nonneg{a b:F}(h:0<=a)(k:0<=b):0<=a+b:=by
 rcases nX h with h|h
 ·rcases nX k with k|k
  ·exact le_of_lt (add_pos h k)
  ·rw[<-k,CR.add_zero];exact le_of_lt h
 ·rw[<-h,CR.zero_add];exact k
theorem Il{a b:F}(h:0<a)(k:0<=b):0<a+b:=by
 rcases nX k with k|k
 ·exact add_pos h k
 ·rw[<-k,CR.add_zero];exact h
theorem aA6{a b:F}(h:0<=a)(k:0<b):0<a+b:=by rw[CR.add_comm];exact Il k h
theorem mul_pos{a b:F}(h:0<a)(k:0<b):0<a*b:=by rw[gj]at *;rw[mL,h,k];rfl
theorem mul_nonneg{a b:F}(h:0<=a)(k:0<=b):0<=a*b:=by
 rcases nX h with h|h
 ·rcases nX k with k|k
  ·exact le_of_lt (mul_pos h k)
  ·rw[<-k,CR.mul_zero];exact le_refl _
 ·rw[<-h,CR.zero_mul];exact le_refl _
theorem neg_pos{a:F}:0 < -a↔a<0:=by rw[gj,Ik,pS];omega
theorem neg_nonneg{a:F}:0<=-a↔a<=0:=by rw[KT,Ue,pS];omega
theorem FP{a:F}:-a<0↔0<a:=by rw[gj,Ik,pS];omega
theorem Im{a:F}:-a<=0↔0<=a:=by rw[KT,Ue,pS];omega
theorem zero_lt_one:(0:F)<1:=by rw[gj];exact Ih
theorem nC(a:F):0<=a*a:=by rw[KT,mL];rcases ja a with h|h|h<;>rw[h]<;>decide
theorem Uf{a:F}(h:a≠0):0<a*a:=by
 rw[gj,mL];rcases ja a with k|k|k
 ·rw[k];decide
 ·exact absurd ((fH a).1 k) h
 ·rw[k];decide
theorem mul_eq_zero{a b:F}:a*b=0↔a=0\/b=0:=by rw[<-fH,mL,<-fH,<-fH,Int.mul_eq_zero]
theorem mul_ne_zero{a b:F}(h:a≠0)(k:b≠0):a*b≠0:=λe=>by
 rcases mul_eq_zero.1 e with e|e
 ·exact h e
 ·exact k e
theorem mul_lt_mul_left{a b c:F}(hc:0<c):c*a<c*b↔a<b:=by rw[lt_def,lt_def,show c*b-c*a=c*(b-a)from kJ a b c (λa b c=>c*b-c*a) (λa b c=>c*(b-a)) d_,mL,gj.1 hc,OC]
theorem mul_le_mul_left{a b c:F}(hc:0<c):c*a<=c*b↔a<=b:=by rw[le_def,le_def,show c*b-c*a=c*(b-a)from kJ a b c (λa b c=>c*b-c*a) (λa b c=>c*(b-a)) d_,mL,gj.1 hc,OC]
theorem add_lt_add_left{a b:F}(c:F):c+a<c+b↔a<b:=by rw[lt_def,lt_def,show c+b-(c+a)=b-a from kJ a b c (λa b c=>c+b-(c+a)) (λa b _=>b-a) d_]
theorem add_le_add_left{a b:F}(c:F):c+a<=c+b↔a<=b:=by rw[le_def,le_def,show c+b-(c+a)=b-a from kJ a b c (λa b c=>c+b-(c+a)) (λa b _=>b-a) d_]
theorem add_lt_add_right{a b:F}(c:F):a+c<b+c↔a<b:=by rw[CR.add_comm a,CR.add_comm b];exact add_lt_add_left c
theorem add_le_add_right{a b:F}(c:F):a+c<=b+c↔a<=b:=by rw[CR.add_comm a,CR.add_comm b];exact add_le_add_left c
theorem add_le_add{a b c d:F}(h:a<=b)(k:c<=d):a+c<=b+d:=le_trans ((add_le_add_right c).2 h) ((add_le_add_left b).2 k)
theorem add_lt_add{a b c d:F}(h:a<b)(k:c<d):a+c<b+d:=lt_trans ((add_lt_add_right c).2 h) ((add_lt_add_left b).2 k)
theorem add_lt_add_of_lt_of_le{a b c d:F}(h:a<b)(k:c<=d):a+c<b+d:=lt_of_lt_of_le ((add_lt_add_right c).2 h) ((add_le_add_left b).2 k)
theorem add_lt_add_of_le_of_lt{a b c d:F}(h:a<=b)(k:c<d):a+c<b+d:=lt_of_le_of_lt ((add_le_add_right c).2 h) ((add_lt_add_left b).2 k)
theorem inv_mul{a:F}(h:a≠0):a⁻¹*a=1:=by rw[CR.mul_comm,jz a h]
theorem aKr(a:F):aH a⁻¹=aH a:=by
 by_cases h:a=0
 ·rw[h,inv_zero]
 ·have:=mL a a⁻¹;rw[jz a h,Ih]at this;rcases ja a with k|k|k<;>rcases ja a⁻¹ with l|l|l<;>rw[k,l]at this ⊢<;>omega
theorem inv_pos{a:F}(h:0<a):0<a⁻¹:=by rw[gj]at *;rw[aKr,h]
theorem KU{u v:F}(h:v*v<u*u):aH (u+v)=aH u:=by
 have e:(u+v)*(u-v)=u*u-v*v:=jP u v (λu v=>(u+v)*(u-v)) (λu v=>u*u-v*v) d_;have s:aH (u+v)*aH (u-v)=1:=by rw[<-mL,e];exact h
 have t:(u+v)+(u-v)=u+u:=jP u v (λu v=>(u+v)+(u-v)) (λu _=>u+u) d_;have two:∀ x y:F,aH x=1->aH y=1->x+y=u+u->aH u=1:=by
  intro x y hx hy kR;have:=DK x y hx hy;rw[kR]at this;rcases ja u with k|k|k
  ·have h2:=DK (-u) (-u) (by rw[pS,k];rfl) (by rw[pS,k];rfl);rw[<-CR.B3,pS,this]at h2;exact absurd h2 d_
  ·rw[(fH u).1 k,CR.add_zero,(fH (0:F)).2 rfl]at this;exact absurd this d_
  ·exact k
 rcases ja (u+v)with k|k|k<;>rcases ja (u-v)with l|l|l<;>rw[k,l]at s<;>first|exact absurd s d_|skip
 ·have h1:=DK (-(u+v)) (-(u-v)) (by rw[pS,k];rfl) (by rw[pS,l];rfl);rw[<-CR.B3,t,CR.B3]at h1;rw[k];rcases ja u with m|m|m
  ·exact m.symm
  ·rw[(fH u).1 m,CR.neg_zero,CR.add_zero,(fH (0:F)).2 rfl]at h1;exact absurd h1 d_
  ·have h2:=DK u u m m;rw[<-CR.B3,pS,h2]at h1;exact absurd h1 d_
 ·rw[k,two _ _ k l t]
theorem OI{a b:F}(h:0<a):aH (a*b)=aH b:=by rw[mL,gj.1 h,OC]
theorem mul_lt_mul''{a b c d:F}(ha:0<=a)(h:a<b)(hc:0<=c)(k:c<d):a*c<b*d:=by have hb:=lt_of_le_of_lt ha h;have hd:=lt_of_le_of_lt hc k;have e:b*d-a*c=(b-a)*d+a*(d-c):=zX a b c d (λa b c d=>b*d-a*c) (λa b c d=>(b-a)*d+a*(d-c)) d_;rw[<-sub_pos,e];exact Il (mul_pos (sub_pos.2 h) hd) (mul_nonneg ha (sub_nonneg.2 (le_of_lt k)))
end OF
end
section
open CR OF
class xN (F:Type) [OF F] (s:F):Prop where
 pos:0<s
 Ug:∀ x y:F,x*x=s*(y*y)->y=0
@[ext] structure bL (F:Type) (s:F) where
 re:F
 im:F
namespace bL
variable{F:Type}[OF F]{s:F}
instance:Add (bL F s):=⟨λx y=>⟨x.re+y.re,x.im+y.im⟩⟩
instance:Mul (bL F s):=⟨λx y=>⟨x.re*y.re+s*(x.im*y.im),x.re*y.im+x.im*y.re⟩⟩
instance:Neg (bL F s):=⟨λx=>⟨-x.re,-x.im⟩⟩
instance:Sub (bL F s):=⟨λx y=>⟨x.re-y.re,x.im-y.im⟩⟩
instance:Zero (bL F s):=⟨⟨0,0⟩⟩
instance:One (bL F s):=⟨⟨1,0⟩⟩
def nm(x:bL F s):F:=x.re*x.re-s*(x.im*x.im)
instance:Inv (bL F s):=⟨λx=>⟨x.re*(nm x)⁻¹,-(x.im*(nm x)⁻¹)⟩⟩
def sg(x:bL F s):Int:=if aH (nm x)=1 then aH x.re else aH x.im
theorem Uh(x y:bL F s):(x+y).re=x.re+y.re:=rfl
theorem Ui(x y:bL F s):(x+y).im=x.im+y.im:=rfl
theorem Io(x y:bL F s):(x*y).re=x.re*y.re+s*(x.im*y.im):=rfl
theorem Ip(x y:bL F s):(x*y).im=x.re*y.im+x.im*y.re:=rfl
theorem OJ(x:bL F s):(-x).re=-x.re:=rfl
theorem OL(x:bL F s):(-x).im=-x.im:=rfl
theorem Iq:(0:bL F s).re=0:=rfl
theorem Ir:(0:bL F s).im=0:=rfl
theorem Uj:(1:bL F s).re=1:=rfl
theorem aA7:(1:bL F s).im=0:=rfl
theorem Uk(x:bL F s):(x⁻¹).re=x.re*(nm x)⁻¹:=rfl
theorem Ul(x:bL F s):(x⁻¹).im=-(x.im*(nm x)⁻¹):=rfl
theorem OM(x y:bL F s):nm (x*y)=nm x*nm y:=by
 unfold nm;rw[Io,Ip]
 exact Ij x.re x.im y.re y.im s (λa b c d s=>(a*c+s*(b*d))*(a*c+s*(b*d))-s*((a*d+b*c)*(a*d+b*c)))
  (λa b c d s=>(a*a-s*(b*b))*(c*c-s*(d*d))) d_
theorem aA8(x:bL F s):nm (-x)=nm x:=by unfold nm;rw[OJ,OL];exact kJ x.re x.im s (λa b s=>-a*-a-s*(-b*-b)) (λa b s=>a*a-s*(b*b)) d_
theorem s9{x:bL F s}(h:aH (nm x)=1):sg x=aH x.re:=by unfold sg;rw[aB h]
theorem uk{x:bL F s}(h:aH (nm x)=-1):sg x=aH x.im:=by unfold sg;rw[az (by rw[h];decide)]
theorem Is:sg (0:bL F s)=0:=by unfold sg;split<;>exact(fH _).2 rfl
theorem Um(x:bL F s):sg (-x)=- sg x:=by unfold sg;rw[aA8,OJ,OL,OF.pS,OF.pS];split<;>rfl
theorem aKs(x:bL F s):sg x=-1\/sg x=0\/sg x=1:=by unfold sg;split<;>exact ja _
theorem ON(x:bL F s):(-x).re*(-x).re=x.re*x.re/\(-x).im*(-x).im=x.im*x.im:=by rw[OJ,OL];exact⟨Ii x.re (λa=>-a*-a) (λa=>a*a) d_,Ii x.im (λa=>-a*-a) (λa=>a*a) d_⟩
theorem aKt(x y:bL F s):x+y=y+x:=bL.ext (CR.add_comm _ _) (CR.add_comm _ _)
theorem aKu:sg (1:bL F s)=1:=by
 have:nm (1:bL F s)=1:=by unfold nm;rw[Uj,aA7,CR.mul_zero,CR.mul_zero,OF.sub_zero,CR.one_mul]
 rw[s9 (by rw[this];exact Ih),Uj];exact Ih
variable[hs:xN F s]
theorem OO{x:bL F s}(h:nm x=0):x=0:=by
 have h1:=OF.sub_eq_zero.1 h;have h2:=xN.Ug _ _ h1;have h3:x.re=0:=by rw[h2,CR.mul_zero,CR.mul_zero]at h1;rcases mul_eq_zero.1 h1 with h|h<;>exact h
 exact bL.ext h3 h2
theorem ways(x:bL F s):x=0\/(aH (nm x)=1/\s*(x.im*x.im)<x.re*x.re)\/(aH (nm x)=-1/\x.re*x.re<s*(x.im*x.im)):=by
 rcases OF.lt_trichotomy (x.re*x.re) (s*(x.im*x.im))with h|h|h
 ·refine .inr (.inr ⟨?_,h⟩);unfold nm;rw[FO,show aH (s*(x.im*x.im)-x.re*x.re)=1 from h]
 ·exact .inl (OO (OF.sub_eq_zero.2 h))
 ·exact .inr (.inl ⟨h,h⟩)
theorem aKv:aH s=1:=gj.1 (xN.pos (F:=F) (s:=s))
theorem aKw(x y:bL F s):sg (x*y)=sg x*sg y:=by
 have hz:∀ z:bL F s,(0:bL F s)*z=0:=λz=>by
  apply bL.ext
  ·rw[Io,Iq,Ir,CR.zero_mul,CR.zero_mul,CR.mul_zero,CR.add_zero]
  ·rw[Ip,Iq,Ir,CR.zero_mul,CR.zero_mul,CR.add_zero]
 have ox:∀ z:bL F s,z*(0:bL F s)=0:=λz=>by
  apply bL.ext
  ·rw[Io,Iq,Ir,CR.mul_zero,CR.mul_zero,CR.mul_zero,CR.add_zero]
  ·rw[Ip,Iq,Ir,CR.mul_zero,CR.mul_zero,CR.add_zero]
 have hp:=xN.pos (F:=F) (s:=s);rcases ways x with rfl|⟨hx,lx⟩|⟨hx,lx⟩
 ·rw[hz,Is,Int.zero_mul]
 ·rcases ways y with rfl|⟨hy,ly⟩|⟨hy,ly⟩
  ·rw[ox,Is,Int.mul_zero]
  ·have hn:aH (nm (x*y))=1:=by rw[OM,mL,hx,hy];rfl
   rw[s9 hx,s9 hy,s9 hn,<-mL,Io];apply KU;have:=mul_lt_mul'' (mul_nonneg (le_of_lt hp) (nC _)) lx (mul_nonneg (le_of_lt hp) (nC _)) ly;rw[show s*(x.im*y.im)*(s*(x.im*y.im))=s*(x.im*x.im)*(s*(y.im*y.im))from kJ x.im y.im s (λb d s=>s*(b*d)*(s*(b*d))) (λb d s=>s*(b*b)*(s*(d*d))) d_];rw[show x.re*y.re*(x.re*y.re)=x.re*x.re*(y.re*y.re)from jP x.re y.re (λa c=>a*c*(a*c)) (λa c=>a*a*(c*c)) d_];exact this
  ·have hn:aH (nm (x*y))=-1:=by rw[OM,mL,hx,hy];rfl
   rw[s9 hx,uk hy,uk hn,<-mL,Ip];apply KU;have:=mul_lt_mul'' (mul_nonneg (le_of_lt hp) (nC _)) lx (nC _) ly;rw[<-mul_lt_mul_left hp];rw[show s*(x.im*y.re*(x.im*y.re))=s*(x.im*x.im)*(y.re*y.re)from kJ x.im y.re s (λb c s=>s*(b*c*(b*c))) (λb c s=>s*(b*b)*(c*c)) d_];rw[show s*(x.re*y.im*(x.re*y.im))=x.re*x.re*(s*(y.im*y.im))from kJ x.re y.im s (λa d s=>s*(a*d*(a*d))) (λa d s=>a*a*(s*(d*d))) d_];exact this
 ·rcases ways y with rfl|⟨hy,ly⟩|⟨hy,ly⟩
  ·rw[ox,Is,Int.mul_zero]
  ·have hn:aH (nm (x*y))=-1:=by rw[OM,mL,hx,hy];rfl
   rw[uk hx,s9 hy,uk hn,<-mL,Ip,CR.add_comm];apply KU;have:=mul_lt_mul'' (nC _) lx (mul_nonneg (le_of_lt hp) (nC _)) ly;rw[<-mul_lt_mul_left hp];rw[show s*(x.im*y.re*(x.im*y.re))=s*(x.im*x.im)*(y.re*y.re)from kJ x.im y.re s (λb c s=>s*(b*c*(b*c))) (λb c s=>s*(b*b)*(c*c)) d_];rw[show s*(x.re*y.im*(x.re*y.im))=x.re*x.re*(s*(y.im*y.im))from kJ x.re y.im s (λa d s=>s*(a*d*(a*d))) (λa d s=>a*a*(s*(d*d))) d_];exact this
  ·have hn:aH (nm (x*y))=1:=by rw[OM,mL,hx,hy];rfl
   rw[uk hx,uk hy,s9 hn,<-mL,Io,CR.add_comm];rw[show aH (x.im*y.im)=aH (s*(x.im*y.im))by rw[OI hp]];apply KU;have:=mul_lt_mul'' (nC _) lx (nC _) ly;rw[show s*(x.im*y.im)*(s*(x.im*y.im))=s*(x.im*x.im)*(s*(y.im*y.im))from kJ x.im y.im s (λb d s=>s*(b*d)*(s*(b*d))) (λb d s=>s*(b*b)*(s*(d*d))) d_];rw[show x.re*y.re*(x.re*y.re)=x.re*x.re*(y.re*y.re)from jP x.re y.re (λa c=>a*c*(a*c)) (λa c=>a*a*(c*c)) d_];exact this
theorem aKx(x:bL F s):sg x=0↔x=0:=by
 constructor
 ·intro h;rcases ways x with rfl|⟨hx,lx⟩|⟨hx,lx⟩
  ·rfl
  ·rw[s9 hx]at h;rw[(fH _).1 h,CR.mul_zero]at lx;exact absurd (lt_of_le_of_lt (mul_nonneg (le_of_lt (xN.pos (F:=F) (s:=s))) (nC _)) lx) (OF.lt_irrefl _)
  ·rw[uk hx]at h;rw[(fH _).1 h,CR.mul_zero,CR.mul_zero]at lx;exact absurd (lt_of_le_of_lt (nC _) lx) (OF.lt_irrefl _)
 ·rintro rfl;exact Is
theorem aA9{u v:F}(hu:0<u)(h:v*v<u*u):0<u+v:=by rw[gj,KU h];exact gj.1 hu
theorem add_one{x y:bL F s}(hx:s*(x.im*x.im)<x.re*x.re)(hy:s*(y.im*y.im)<y.re*y.re)(px:0<x.re)(py:0<y.re):sg (x+y)=1:=by
 have hp:=xN.pos (F:=F) (s:=s);have:=mul_lt_mul'' (mul_nonneg (le_of_lt hp) (nC _)) hx (mul_nonneg (le_of_lt hp) (nC _)) hy;have h1:0<x.re*y.re+-(s*(x.im*y.im)):=by apply aA9 (mul_pos px py);rw[show -(s*(x.im*y.im))*-(s*(x.im*y.im))=s*(x.im*x.im)*(s*(y.im*y.im))from kJ x.im y.im s (λb d s=>-(s*(b*d))*-(s*(b*d))) (λb d s=>s*(b*b)*(s*(d*d))) d_];rw[show x.re*y.re*(x.re*y.re)=x.re*x.re*(y.re*y.re)from jP x.re y.re (λa c=>a*c*(a*c)) (λa c=>a*a*(c*c)) d_];exact this
 have hn:aH (nm (x+y))=1:=by
  rw[<-gj];unfold nm;rw[Uh,Ui];rw[show(x.re+y.re)*(x.re+y.re)-s*((x.im+y.im)*(x.im+y.im))=(x.re*x.re-s*(x.im*x.im))+(y.re*y.re-s*(y.im*y.im))+((x.re*y.re+-(s*(x.im*y.im)))+(x.re*y.re+-(s*(x.im*y.im))))from
   Ij x.re x.im y.re y.im s (λa b c d s=>(a+c)*(a+c)-s*((b+d)*(b+d))) (λa b c d s=>(a*a-s*(b*b))+(c*c-s*(d*d))+((a*c+-(s*(b*d)))+(a*c+-(s*(b*d))))) d_]
  exact add_pos (add_pos (sub_pos.2 hx) (sub_pos.2 hy)) (add_pos h1 h1)
 rw[s9 hn,Uh];exact gj.1 (add_pos px py)
theorem aBa{x y:bL F s}(hx:x.re*x.re<s*(x.im*x.im))(hy:y.re*y.re<s*(y.im*y.im))(px:0<x.im)(py:0<y.im):sg (x+y)=1:=by
 have hp:=xN.pos (F:=F) (s:=s);have:=mul_lt_mul'' (nC _) hx (nC _) hy;have h1:0<s*(x.im*y.im)+-(x.re*y.re):=by apply aA9 (mul_pos hp (mul_pos px py));rw[show s*(x.im*y.im)*(s*(x.im*y.im))=s*(x.im*x.im)*(s*(y.im*y.im))from kJ x.im y.im s (λb d s=>s*(b*d)*(s*(b*d))) (λb d s=>s*(b*b)*(s*(d*d))) d_];rw[show -(x.re*y.re)*-(x.re*y.re)=x.re*x.re*(y.re*y.re)from jP x.re y.re (λa c=>-(a*c)*-(a*c)) (λa c=>a*a*(c*c)) d_];exact this
 have hn:aH (nm (x+y))=-1:=by
  rw[<-Ik,<-neg_pos];unfold nm;rw[Uh,Ui];rw[show -((x.re+y.re)*(x.re+y.re)-s*((x.im+y.im)*(x.im+y.im)))=(s*(x.im*x.im)-x.re*x.re)+(s*(y.im*y.im)-y.re*y.re)+((s*(x.im*y.im)+-(x.re*y.re))+(s*(x.im*y.im)+-(x.re*y.re)))from
   Ij x.re x.im y.re y.im s (λa b c d s=>-((a+c)*(a+c)-s*((b+d)*(b+d)))) (λa b c d s=>(s*(b*b)-a*a)+(s*(d*d)-c*c)+((s*(b*d)+-(a*c))+(s*(b*d)+-(a*c)))) d_]
  exact add_pos (add_pos (sub_pos.2 hx) (sub_pos.2 hy)) (add_pos h1 h1)
 rw[uk hn,Ui];exact gj.1 (add_pos px py)
theorem aKy(x y:bL F s)(hx:sg x=1)(hy:sg y=1):sg (x+y)=1:=by
 have ne:∀ z:bL F s,sg z=1->z≠0:=λz h e=>by rw[e,Is]at h;exact absurd h d_
 -- the first part of x aVV,the second one of y
 have mixed:∀ x y:bL F s,sg x=1->sg y=1->aH (nm x)=1->s*(x.im*x.im)<x.re*x.re->aH (nm y)=-1->y.re*y.re<s*(y.im*y.im)->sg (x+y)=1:=by
  intro x y hx hy nx lx ny ly;rw[s9 nx]at hx;rw[uk ny]at hy;rcases ways (x+y)with h|⟨hn,ln⟩|⟨hn,ln⟩
  ·have:y=-x:=by have h1:x.re+y.re=0:=cS bL.re h;have h2:x.im+y.im=0:=cS bL.im h;exact bL.ext (CR.Ie h1) (CR.Ie h2)
   rw[this,aA8,nx]at ny;exact absurd ny d_
  ·rw[s9 hn];rcases ja (x+y).re with k|k|k
   ·-- then -(x+y) and x add up to -y
    have h3:=add_one (x:=-(x+y)) (y:=x) (by rw[(ON _).1,(ON _).2];exact ln) lx (by rw[OJ];exact neg_pos.2 (Ik.2 k)) (gj.2 hx);have h4:-(x+y)+x=-y:=bL.ext (jP x.re y.re (λa c=>-(a+c)+a) (λ_ c=>-c) d_) (jP x.im y.im (λa c=>-(a+c)+a) (λ_ c=>-c) d_);rw[h4,Um,uk ny,hy]at h3;exact absurd h3 d_
   ·have k0:=(fH _).1 k;rw[k0,CR.mul_zero]at ln;exact absurd (lt_of_le_of_lt (mul_nonneg (le_of_lt (xN.pos (F:=F) (s:=s))) (nC _)) ln) (OF.lt_irrefl _)
   ·exact k
  ·rw[uk hn];rcases ja (x+y).im with k|k|k
   ·have h3:=aBa (x:=-(x+y)) (y:=y) (by rw[(ON _).1,(ON _).2];exact ln) ly (by rw[OL];exact neg_pos.2 (Ik.2 k)) (gj.2 hy);have h4:-(x+y)+y=-x:=bL.ext (jP x.re y.re (λa c=>-(a+c)+c) (λa _=>-a) d_) (jP x.im y.im (λa c=>-(a+c)+c) (λa _=>-a) d_);rw[h4,Um,s9 nx,hx]at h3;exact absurd h3 d_
   ·have k0:=(fH _).1 k;rw[k0,CR.mul_zero,CR.mul_zero]at ln;exact absurd (lt_of_le_of_lt (nC _) ln) (OF.lt_irrefl _)
   ·exact k
 rcases ways x with h|⟨nx,lx⟩|⟨nx,lx⟩
 ·exact absurd h (ne x hx)
 ·rcases ways y with h|⟨ny,ly⟩|⟨ny,ly⟩
  ·exact absurd h (ne y hy)
  ·rw[s9 nx]at hx;rw[s9 ny]at hy;exact add_one lx ly (gj.2 hx) (gj.2 hy)
  ·exact mixed x y hx hy nx lx ny ly
 ·rcases ways y with h|⟨ny,ly⟩|⟨ny,ly⟩
  ·exact absurd h (ne y hy)
  ·rw[aKt];exact mixed y x hy hx ny ly nx lx
  ·rw[uk nx]at hx;rw[uk ny]at hy;exact aBa lx ly (gj.2 hx) (gj.2 hy)
instance:OF (bL F s) where
 add_assoc a b c:=bL.ext (CR.add_assoc _ _ _) (CR.add_assoc _ _ _)
 add_comm a b:=bL.ext (CR.add_comm _ _) (CR.add_comm _ _)
 zero_add a:=bL.ext (CR.zero_add _) (CR.zero_add _)
 neg_add a:=bL.ext (CR.neg_add _) (CR.neg_add _)
 mul_assoc x y z:=bL.ext
  (E.prove (s8 [x.re,x.im,y.re,y.im,z.re,z.im,s]) ((E.var 0*E.var 2+E.var 6*(E.var 1*E.var 3))*E.var 4+E.var 6*((E.var 0*E.var 3+E.var 1*E.var 2)*E.var 5))
   (E.var 0*(E.var 2*E.var 4+E.var 6*(E.var 3*E.var 5))+E.var 6*(E.var 1*(E.var 2*E.var 5+E.var 3*E.var 4))) d_)
  (E.prove (s8 [x.re,x.im,y.re,y.im,z.re,z.im,s]) ((E.var 0*E.var 2+E.var 6*(E.var 1*E.var 3))*E.var 5+(E.var 0*E.var 3+E.var 1*E.var 2)*E.var 4)
   (E.var 0*(E.var 2*E.var 5+E.var 3*E.var 4)+E.var 1*(E.var 2*E.var 4+E.var 6*(E.var 3*E.var 5))) d_)
 mul_comm x y:=bL.ext
  (Ij x.re x.im y.re y.im s (λa b c d s=>a*c+s*(b*d)) (λa b c d s=>c*a+s*(d*b)) d_)
  (zX x.re x.im y.re y.im (λa b c d=>a*d+b*c) (λa b c d=>c*b+d*a) d_)
 one_mul x:=bL.ext
  (kJ x.re x.im s (λa b s=>1*a+s*(0*b)) (λa _ _=>a) d_)
  (jP x.re x.im (λa b=>1*b+0*a) (λ_ b=>b) d_)
 mul_add x y z:=bL.ext
  (E.prove (s8 [x.re,x.im,y.re,y.im,z.re,z.im,s]) (E.var 0*(E.var 2+E.var 4)+E.var 6*(E.var 1*(E.var 3+E.var 5)))
   ((E.var 0*E.var 2+E.var 6*(E.var 1*E.var 3))+(E.var 0*E.var 4+E.var 6*(E.var 1*E.var 5))) d_)
  (aKq x.re x.im y.re y.im z.re z.im (λa b c d e f=>a*(d+f)+b*(c+e)) (λa b c d e f=>(a*d+b*c)+(a*f+b*e)) d_)
 sub_def a b:=bL.ext (CR.sub_def _ _) (CR.sub_def _ _)
 jz x h:=by
  have hn:nm x≠0:=λe=>h (OO e);have h1:=jz (nm x) hn;apply bL.ext
  ·rw[Io,Uk,Ul,Uj,<-h1];exact zX x.re x.im s (nm x)⁻¹ (λa b s n=>a*(a*n)+s*(b*-(b*n))) (λa b s n=>(a*a-s*(b*b))*n) d_
  ·rw[Ip,Uk,Ul,aA7];exact kJ x.re x.im (nm x)⁻¹ (λa b n=>a*-(b*n)+b*(a*n)) (λ_ _ _=>0) d_
 inv_zero:=by
  apply bL.ext
  ·rw[Uk,Iq,CR.zero_mul]
  ·rw[Ul,Ir,CR.zero_mul,CR.neg_zero]
 aH:=sg
 fH:=aKx
 ja:=aKs
 pS:=Um
 mL:=aKw
 DK:=aKy
 Ih:=aKu
end bL
theorem B4(q:Rat):q.num.sign=1↔0<q:=by rw[Int.sign_eq_one_iff_pos,Rat.lt_iff];simp
theorem It(q:Rat):q.num.sign=-1↔q<0:=by rw[aKz,Rat.lt_iff];simp
theorem Iu(q:Rat):q.num.sign=0↔q=0:=by rw[aKA];exact Rat.num_eq_zero
theorem Un(q:Rat):q.num.sign=-1\/q.num.sign=0\/q.num.sign=1:=by
 rcases OP q.num 0 with h|h|h
 ·exact .inl (aKz.2 h)
 ·exact .inr (.inl (aKA.2 h))
 ·exact .inr (.inr (Int.sign_eq_one_iff_pos.2 h))
instance:OF Rat where
 add_assoc:=Rat.add_assoc
 add_comm:=Rat.add_comm
 zero_add:=Rat.zero_add
 neg_add:=Rat.neg_add_cancel
 mul_assoc:=Rat.mul_assoc
 mul_comm:=Rat.mul_comm
 one_mul:=Rat.one_mul
 mul_add:=Rat.mul_add
 sub_def:=Rat.sub_eq_add_neg
 jz:=λx h=>Iv x h
 inv_zero:=Rat.inv_zero
 aH q:=q.num.sign
 fH:=Iu
 ja:=Un
 pS q:=by rw[Rat.neg_num,Int.sign_neg]
 mL x y:=by
  rcases Un x with h|h|h<;>rcases Un y with k|k|k<;>rw[h,k]
  ·exact(B4 _).2 (by have:=(It _).1 h;have:=(It _).1 k;have h2:=Uo (a:=-x) (b:=-y) (by grind) (by grind);grind)
  ·rw[(Iu y).1 k,Rat.mul_zero];rfl
  ·exact(It _).2 (by have:=(It _).1 h;have:=(B4 _).1 k;have h2:=Uo (a:=-x) (b:=y) (by grind) (by grind);grind)
  ·rw[(Iu x).1 h,Rat.zero_mul];rfl
  ·rw[(Iu x).1 h,Rat.zero_mul];rfl
  ·rw[(Iu x).1 h,Rat.zero_mul];rfl
  ·exact(It _).2 (by have:=(B4 _).1 h;have:=(It _).1 k;have h2:=Uo (a:=x) (b:=-y) (by grind) (by grind);grind)
  ·rw[(Iu y).1 k,Rat.mul_zero];rfl
  ·exact(B4 _).2 (Uo ((B4 _).1 h) ((B4 _).1 k))
 DK x y h k:=(B4 _).2 (by have:=(B4 _).1 h;have:=(B4 _).1 k;grind)
 Ih:=rfl
theorem aKB(n:Nat)(hn:n=2\/n=3\/n=6)(p q:Nat)(h:p*p=n*(q*q))(hc:Nat.gcd p q=1):False:=by
 rcases hn with rfl|rfl|rfl
 ·have h1:p%2=0:=by
   have:(p*p)%2=0:=by rw[h];omega
   rcases Up p with k|k
   ·exact k
   ·rw[KV,k]at this;exact absurd this d_
  obtain⟨r,rfl⟩:∃ r,p=2*r:=⟨p/2,by omega⟩;have h2:q*q=2*(r*r):=by
   have:2*r*(2*r)=2*(2*(r*r)):=by simp only[gh,nt]
   omega
  have h3:q%2=0:=by
   have:(q*q)%2=0:=by rw[h2];omega
   rcases Up q with k|k
   ·exact k
   ·rw[KV,k]at this;exact absurd this d_
  have:=Iw (KW h1) (KW h3);rw[hc]at this;exact absurd this d_
 ·have m3:∀ k:Nat,(k*k)%3=0->k%3=0:=by
   intro k hk;have:k%3=0\/k%3=1\/k%3=2:=by omega
   rcases this with e|e|e
   ·exact e
   ·rw[KV,e]at hk;exact absurd hk d_
   ·rw[KV,e]at hk;exact absurd hk d_
  have h1:p%3=0:=m3 p (by rw[h];omega);obtain⟨r,rfl⟩:∃ r,p=3*r:=⟨p/3,by omega⟩;have h2:q*q=3*(r*r):=by
   have:3*r*(3*r)=3*(3*(r*r)):=by simp only[gh,nt]
   omega
  have h3:q%3=0:=m3 q (by rw[h2];omega);have:=Iw (KW h1) (KW h3);rw[hc]at this;exact absurd this d_
 ·have h1:p%2=0:=by
   have:(p*p)%2=0:=by rw[h];omega
   rcases Up p with k|k
   ·exact k
   ·rw[KV,k]at this;exact absurd this d_
  obtain⟨r,rfl⟩:∃ r,p=2*r:=⟨p/2,by omega⟩;have h2:3*(q*q)=2*(r*r):=by
   have:2*r*(2*r)=2*(2*(r*r)):=by simp only[gh,nt]
   omega
  have h3:q%2=0:=by
   have:(q*q)%2=0:=by omega
   rcases Up q with k|k
   ·exact k
   ·rw[KV,k]at this;exact absurd this d_
  have:=Iw (KW h1) (KW h3);rw[hc]at this;exact absurd this d_
theorem Uq(n:Nat)(hn:n=2\/n=3\/n=6)(x:Rat)(h:x*x=(n:Rat)):False:=by
 have hd:(x.den:Rat)≠0:=by have:=x.den_nz;simpa[Rat.natCast_eq_zero_iff]using this
 have e:(x.num:Rat)*x.num=n*(x.den*x.den):=by
  have h3:x*(x.den:Rat)=x.num:=by have h4:(x.num:Rat)/x.den*x.den=x.num:=aBb hd;rw[<-Rat.mkRat_eq_div,Rat.mkRat_self]at h4;exact h4
  rw[<-h3,<-h];grind
 have e':x.num*x.num=n*(x.den*x.den):=by
  have:((x.num*x.num:Int):Rat)=((n*(x.den*x.den):Int):Rat):=by simp only[DL,Rat.intCast_natCast];exact e
  exact Rat.intCast_inj.1 this
 have e'':x.num.natAbs*x.num.natAbs=n*(x.den*x.den):=by have:=cS Int.natAbs e';rw[xO]at this;rw[this];simp[xO]
 exact aKB n hn _ _ e'' x.reduced
theorem aKC{x y c:Rat}(h:x*x=c*(y*y))(hy:y≠0):(x*y⁻¹)*(x*y⁻¹)=c:=by
 have:=Iv y hy;have e:(x*y⁻¹)*(x*y⁻¹)=(x*x)*(y⁻¹*y⁻¹):=by grind
 rw[e,h];grind
instance aVW:xN Rat 2 where
 pos:=by rw[gj];rfl
 Ug x y h:=by
  by_cases hy:y=0
  ·exact hy
  ·exact(Uq 2 (.inl rfl) _ (aKC h hy)).elim
abbrev K2:=bL Rat 2
def xP:K2:=⟨3,0⟩
theorem aKD(x:K2)(h:x*x=xP):False:=by
 have h1:x.re*x.re+2*(x.im*x.im)=3:=cS bL.re h;have h2:x.re*x.im+x.im*x.re=0:=cS bL.im h;have h3:x.re=0\/x.im=0:=by
  have:x.re*x.im=0:=by grind
  exact Rat.mul_eq_zero.1 this
 rcases h3 with h3|h3
 ·have:(2*x.im)*(2*x.im)=((6:Nat):Rat):=by rw[h3]at h1;have:((6:Nat):Rat)=6:=rfl;grind
  exact Uq 6 (.inr (.inr rfl)) _ this
 ·have:x.re*x.re=((3:Nat):Rat):=by rw[h3]at h1;have:((3:Nat):Rat)=3:=rfl;grind
  exact Uq 3 (.inr (.inl rfl)) _ this
instance aVX:xN K2 xP where
 pos:=by rw[gj];decide +kernel
 Ug x y h:=by
  by_cases hy:y=0
  ·exact hy
  ·refine(aKD (x*y⁻¹) ?_).elim;have h1:=OF.jz y hy;rw[show x*y⁻¹*(x*y⁻¹)=x*x*(y⁻¹*y⁻¹)from jP x y⁻¹ (λx i=>x*i*(x*i)) (λx i=>x*x*(i*i)) d_,h];rw[show xP*(y*y)*(y⁻¹*y⁻¹)=xP*((y*y⁻¹)*(y*y⁻¹))from kJ y y⁻¹ xP (λy i t=>t*(y*y)*(i*i)) (λy i t=>t*((y*i)*(y*i))) d_,h1,CR.mul_one,CR.mul_one]
abbrev K:=bL K2 xP
instance:OF K:=inferInstance
instance:DecidableEq K2:=λx y=>decidable_of_iff (x.re=y.re/\x.im=y.im) ⟨λh=>bL.ext h.1 h.2,λh=>by subst h;exact⟨rfl,rfl⟩⟩
instance:DecidableEq K:=λx y=>decidable_of_iff (x.re=y.re/\x.im=y.im) ⟨λh=>bL.ext h.1 h.2,λh=>by subst h;exact⟨rfl,rfl⟩⟩
structure Fr where
 a:Int
 b:Int
 c:Int
 e:Int
 d:Int
theorem Fr.ext'{x y:Fr}(h1:x.a=y.a)(h2:x.b=y.b)(h3:x.c=y.c)(h4:x.e=y.e)(h5:x.d=y.d):x=y:=by cases x;cases y;simp at *;exact⟨h1,h2,h3,h4,h5⟩
def Fr.val(x:Fr):K:=⟨⟨Rat.divInt x.a x.d,Rat.divInt x.b x.d⟩,⟨Rat.divInt x.c x.d,Rat.divInt x.e x.d⟩⟩
def Fr.g(x:Fr):Nat:=Nat.gcd (Nat.gcd (Nat.gcd (Nat.gcd x.d.natAbs x.a.natAbs) x.b.natAbs) x.c.natAbs) x.e.natAbs
structure Fr.pT(x:Fr):Prop where
 pos:0<x.d
 one:x.g=1
theorem aKE{x:Fr}(hd:k ∣ x.d.natAbs)(ha:k ∣ x.a.natAbs)(hb:k ∣ x.b.natAbs)(hc:k ∣ x.c.natAbs)(he:k ∣ x.e.natAbs):k ∣ x.g:=
 Iw (Iw (Iw (Iw hd ha) hb) hc) he
theorem FQ(x:Fr):x.g ∣ x.d.natAbs:=DM (DM (DM (B5 _ _) (B5 _ _)) (B5 _ _)) (B5 _ _)
theorem OQ(x:Fr):x.g ∣ x.a.natAbs:=DM (DM (DM (B5 _ _) (B5 _ _)) (B5 _ _)) (Ur _ _)
theorem OR(x:Fr):x.g ∣ x.b.natAbs:=DM (DM (B5 _ _) (B5 _ _)) (Ur _ _)
theorem OS(x:Fr):x.g ∣ x.c.natAbs:=DM (B5 _ _) (Ur _ _)
theorem OT(x:Fr):x.g ∣ x.e.natAbs:=Ur _ _
theorem aBc(x:Fr)(k:Nat):(Fr.mk (x.a*k) (x.b*k) (x.c*k) (x.e*k) (x.d*k)).g=x.g*k:=by unfold Fr.g;simp only[xO,zY,Nat.gcd_mul_right]
theorem aBd{x y:Fr}(hx:x.pT)(hy:y.pT)(h:x.val=y.val):x.d.natAbs ∣ y.d.natAbs:=by
 have xQ:x.d≠0:=by have:=hx.pos;omega
 have wx:y.d≠0:=by have:=hy.pos;omega
 have hr:=cS bL.re h;have hi:=cS bL.im h;have h1:Rat.divInt x.a x.d=Rat.divInt y.a y.d:=cS bL.re hr;have h2:Rat.divInt x.b x.d=Rat.divInt y.b y.d:=cS bL.im hr;have h3:Rat.divInt x.c x.d=Rat.divInt y.c y.d:=cS bL.re hi;have h4:Rat.divInt x.e x.d=Rat.divInt y.e y.d:=cS bL.im hi;rw[Rat.divInt_eq_divInt_iff xQ wx]at h1 h2 h3 h4;have key:∀ u v:Int,u*y.d=v*x.d->x.d.natAbs ∣ (u*(y.d.natAbs:Int)).natAbs:=by
  intro u v e;have e2:(u*(y.d.natAbs:Int)).natAbs=(u*y.d).natAbs:=by simp[xO]
  rw[e2,e,xO];exact Nat.dvd_mul_left _ _
 have:=aKE (x:=Fr.mk (x.a*(y.d.natAbs:Int)) (x.b*(y.d.natAbs:Int)) (x.c*(y.d.natAbs:Int)) (x.e*(y.d.natAbs:Int)) (x.d*(y.d.natAbs:Int))) (k:=x.d.natAbs)
  (by rw[xO];exact Nat.dvd_mul_right _ _) (key _ _ h1) (key _ _ h2) (key _ _ h3) (key _ _ h4)
 rw[aBc,hx.one,qB]at this;exact this
theorem aBe{x y:Fr}(hx:x.pT)(hy:y.pT)(h:x.val=y.val):x=y:=by
 have mn:=hx.pos;have hyp:=hy.pos;have hd:x.d=y.d:=by have:=Nat.dvd_antisymm (aBd hx hy h) (aBd hy hx h.symm);omega
 have xQ:x.d≠0:=by omega
 have wx:y.d≠0:=by omega
 have hr:=cS bL.re h;have hi:=cS bL.im h;have h1:Rat.divInt x.a x.d=Rat.divInt y.a y.d:=cS bL.re hr;have h2:Rat.divInt x.b x.d=Rat.divInt y.b y.d:=cS bL.im hr;have h3:Rat.divInt x.c x.d=Rat.divInt y.c y.d:=cS bL.re hi;have h4:Rat.divInt x.e x.d=Rat.divInt y.e y.d:=cS bL.im hi;rw[Rat.divInt_eq_divInt_iff xQ wx,hd]at h1 h2 h3 h4;exact Fr.ext' (Us wx h1) (Us wx h2) (Us wx h3) (Us wx h4) hd
def Fr.s(x:Fr):Int:=if x.d<0 then -(x.g:Int)else x.g
def Fr.low(x:Fr):Fr:=⟨x.a/x.s,x.b/x.s,x.c/x.s,x.e/x.s,x.d/x.s⟩
theorem Ut{x:Fr}(hd:x.d≠0):0<x.g:=Nat.pos_of_dvd_of_pos (FQ x) o_
theorem Uu{x:Fr}(hd:x.d≠0):x.s≠0:=by have:=Ut hd;unfold Fr.s;split<;>omega
theorem OU(x:Fr):x.s.natAbs=x.g:=by unfold Fr.s;split<;>simp
theorem DN{x:Fr}{u:Int}(h:x.g ∣ u.natAbs):x.s ∣ u:=by rw[<-Int.natAbs_dvd_natAbs,OU];exact h
theorem aBf{x:Fr}:x.a=x.low.a*x.s/\x.b=x.low.b*x.s/\x.c=x.low.c*x.s/\x.e=x.low.e*x.s/\x.d=x.low.d*x.s:=
 ⟨(OV (DN (OQ x))).symm,(OV (DN (OR x))).symm,(OV (DN (OS x))).symm,(OV (DN (OT x))).symm,(OV (DN (FQ x))).symm⟩
theorem aBg{x:Fr}(hd:x.d≠0):x.low.val=x.val:=by obtain⟨h1,h2,h3,h4,h5⟩:=aBf (x:=x);have hs:=Uu hd;have key:∀ u v:Int,Rat.divInt u x.low.d=Rat.divInt (u*x.s) (x.low.d*x.s):=λu _=>(Rat.divInt_mul_right hs).symm;unfold Fr.val;rw[key _ 0,key _ 0,key _ 0,key _ 0,<-h1,<-h2,<-h3,<-h4,<-h5]
theorem aBh{x:Fr}(hd:x.d≠0):x.low.pT:=by
 obtain⟨h1,h2,h3,h4,h5⟩:=aBf (x:=x);have hg:=Ut hd;constructor
 ·have:x.d=x.low.d*x.s:=h5;rcases Int.lt_or_gt_of_ne hd with h|h
  ·have hs:x.s<0:=by unfold Fr.s;rw[aB h];omega
   rcases OP x.low.d 0 with k|k|k
   ·have:=Int.mul_pos_of_neg_of_neg k hs;omega
   ·rw[k,Int.zero_mul]at this;omega
   ·exact k
  ·have hs:0<x.s:=by unfold Fr.s;rw[az o_];omega
   rcases OP x.low.d 0 with k|k|k
   ·have:=Int.mul_neg_of_neg_of_pos k hs;omega
   ·rw[k,Int.zero_mul]at this;omega
   ·exact k
 ·have e:x.g=x.low.g*x.g:=by
   obtain⟨G,hG⟩:∃ G,G=x.g:=⟨_,rfl⟩;have ab:∀ u v:Int,u=v*x.s->u.natAbs=(v*(G:Int)).natAbs:=λu v h=>by rw[h,xO,xO,OU,zY,hG]
   have h:=aBc x.low G;have e2:x.g=(Fr.mk (x.low.a*G) (x.low.b*G) (x.low.c*G) (x.low.e*G) (x.low.d*G)).g:=by unfold Fr.g;dsimp only;rw[<-ab _ _ h1,<-ab _ _ h2,<-ab _ _ h3,<-ab _ _ h4,<-ab _ _ h5]
   have:=e2.trans h;rw[hG]at this;exact this
  have:=aKF hg (show 1*x.g=x.low.g*x.g by rw[qB];exact e);exact this.symm
theorem KX{x:Fr}{u:Int}(hd:x.d≠0):(u/x.s).natAbs<=u.natAbs:=aKG u x.s
def bW(k:K):Fr:=(Fr.mk (k.re.re.num*(k.re.im.den*(k.im.re.den*k.im.im.den):Nat)) (k.re.im.num*(k.re.re.den*(k.im.re.den*k.im.im.den):Nat))
 (k.im.re.num*(k.re.re.den*(k.re.im.den*k.im.im.den):Nat)) (k.im.im.num*(k.re.re.den*(k.re.im.den*k.im.re.den):Nat)) ((k.re.re.den*(k.re.im.den*(k.im.re.den*k.im.im.den)):Nat):Int)).low
theorem kU(k:K):(bW k).pT:=aBh (by have h1:=k.re.re.den_pos;have h2:=k.re.im.den_pos;have h3:=k.im.re.den_pos;have h4:=k.im.im.den_pos;have:=rL h1 (rL h2 (rL h3 h4));show((k.re.re.den*(k.re.im.den*(k.im.re.den*k.im.im.den)):Nat):Int)≠0;omega)
theorem OW(q:Rat){n:Nat}(hm:0<m)(e:n=q.den*m):Rat.divInt (q.num*(m:Nat)) ((n:Nat):Int)=q:=by have h:Rat.divInt (q.num*(m:Int)) ((q.den:Int)*(m:Int))=Rat.divInt q.num q.den:=Rat.divInt_mul_right o_;rw[e,oy,h];exact aBi q
theorem pk(k:K):(bW k).val=k:=by have h1:=k.re.re.den_pos;have h2:=k.re.im.den_pos;have h3:=k.im.re.den_pos;have h4:=k.im.im.den_pos;have hp:=rL h1 (rL h2 (rL h3 h4));unfold bW;rw[aBg (by show((k.re.re.den*(k.re.im.den*(k.im.re.den*k.im.im.den)):Nat):Int)≠0;omega)];unfold Fr.val;dsimp only;rw[OW k.re.re (rL h2 (rL h3 h4)) rfl,OW k.re.im (rL h1 (rL h3 h4)) (by simp only[nt]),OW k.im.re (rL h1 (rL h2 h4)) (by simp only[nt]),OW k.im.im (rL h1 (rL h2 h3)) (by simp only[cX,nt])]
theorem FR{x:Fr}(h:x.pT):bW x.val=x:=aBe (kU _) h (pk _)
theorem FT{x:Fr}(hd:x.d≠0):bW x.val=x.low:=aBe (kU _) (aBh hd) ((pk _).trans (aBg hd).symm)
theorem aKH{x y:K}(h:bW x=bW y):x=y:=by rw[<-pk x,<-pk y,h]
def qK(x y:Fr):Fr:=⟨x.a*y.d+y.a*x.d,x.b*y.d+y.b*x.d,x.c*y.d+y.c*x.d,x.e*y.d+y.e*x.d,x.d*y.d⟩
def ep(x y:Fr):Fr:=
 ⟨x.a*y.a+2*(x.b*y.b)+3*(x.c*y.c)+6*(x.e*y.e),x.a*y.b+x.b*y.a+3*(x.c*y.e)+3*(x.e*y.c),x.a*y.c+2*(x.b*y.e)+x.c*y.a+2*(x.e*y.b),x.a*y.e+x.b*y.c+x.c*y.b+x.e*y.a,x.d*y.d⟩
def zZ(x:Fr):Fr:=⟨-x.a,-x.b,-x.c,-x.e,x.d⟩
theorem aKI{x y:Fr}(hx:x.d≠0)(hy:y.d≠0):(qK x y).val=x.val+y.val:=by
 apply bL.ext
 ·exact bL.ext (Uv _ _ hx hy).symm (Uv _ _ hx hy).symm
 ·exact bL.ext (Uv _ _ hx hy).symm (Uv _ _ hx hy).symm
theorem aKJ(x:Fr):(zZ x).val=-x.val:=by have h:∀ u:Int,Rat.divInt (-u) x.d=-Rat.divInt u x.d:=λu=>(Rat.neg_divInt u x.d).symm;exact bL.ext (bL.ext (h _) (h _)) (bL.ext (h _) (h _))
theorem FU{p:Int}{x y:Fr}(hx:x.d≠0)(hy:y.d≠0){r:Rat}(h:r*((x.d:Rat)*(y.d:Rat))=(p:Rat)):Rat.divInt p (x.d*y.d)=r:=by
 have xD:(x.d:Rat)≠0:=by simpa using hx
 have OX:(y.d:Rat)≠0:=by simpa using hy
 rw[B6,DL,<-h,FV,Rat.mul_assoc,Iv _ (by
  intro e;rcases Rat.mul_eq_zero.1 e with e|e
  ·exact xD e
  ·exact OX e),Rat.mul_one]
theorem po{u d:Int}(hd:d≠0):Rat.divInt u d*(d:Rat)=(u:Rat):=by
 have OY:(d:Rat)≠0:=by simpa using hd
 rw[B6,aBb OY]
theorem KY{x y:Fr}(hx:x.d≠0)(hy:y.d≠0):(ep x y).val=x.val*y.val:=by
 have a1:=po (u:=x.a) hx;have b1:=po (u:=x.b) hx;have c1:=po (u:=x.c) hx;have e1:=po (u:=x.e) hx;have a2:=po (u:=y.a) hy;have b2:=po (u:=y.b) hy;have c2:=po (u:=y.c) hy;have e2:=po (u:=y.e) hy;apply bL.ext
 ·apply bL.ext
  ·refine FU hx hy ?_;show((Rat.divInt x.a x.d*Rat.divInt y.a y.d+2*(Rat.divInt x.b x.d*Rat.divInt y.b y.d))+(3*(Rat.divInt x.c x.d*Rat.divInt y.c y.d+2*(Rat.divInt x.e x.d*Rat.divInt y.e y.d))+2*(0*(Rat.divInt x.c x.d*Rat.divInt y.e y.d+Rat.divInt x.e x.d*Rat.divInt y.c y.d))))*((x.d:Rat)*(y.d:Rat))=_;unfold ep;simp only[OZ,DL,<-a1,<-b1,<-c1,<-e1,<-a2,<-b2,<-c2,<-e2];have t2:((2:Int):Rat)=2:=rfl;have t3:((3:Int):Rat)=3:=rfl;have t6:((6:Int):Rat)=6:=rfl;rw[t2,t3,t6];grind
  ·refine FU hx hy ?_;show((Rat.divInt x.a x.d*Rat.divInt y.b y.d+Rat.divInt x.b x.d*Rat.divInt y.a y.d)+(3*(Rat.divInt x.c x.d*Rat.divInt y.e y.d+Rat.divInt x.e x.d*Rat.divInt y.c y.d)+0*(Rat.divInt x.c x.d*Rat.divInt y.c y.d+2*(Rat.divInt x.e x.d*Rat.divInt y.e y.d))))*((x.d:Rat)*(y.d:Rat))=_;unfold ep;simp only[OZ,DL,<-a1,<-b1,<-c1,<-e1,<-a2,<-b2,<-c2,<-e2];have t3:((3:Int):Rat)=3:=rfl;rw[t3];grind
 ·apply bL.ext
  ·refine FU hx hy ?_;show((Rat.divInt x.a x.d*Rat.divInt y.c y.d+2*(Rat.divInt x.b x.d*Rat.divInt y.e y.d))+(Rat.divInt x.c x.d*Rat.divInt y.a y.d+2*(Rat.divInt x.e x.d*Rat.divInt y.b y.d)))*((x.d:Rat)*(y.d:Rat))=_;unfold ep;simp only[OZ,DL,<-a1,<-b1,<-c1,<-e1,<-a2,<-b2,<-c2,<-e2];have t2:((2:Int):Rat)=2:=rfl;rw[t2];grind
  ·refine FU hx hy ?_;show((Rat.divInt x.a x.d*Rat.divInt y.e y.d+Rat.divInt x.b x.d*Rat.divInt y.c y.d)+(Rat.divInt x.c x.d*Rat.divInt y.b y.d+Rat.divInt x.e x.d*Rat.divInt y.a y.d))*((x.d:Rat)*(y.d:Rat))=_;unfold ep;simp only[OZ,DL,<-a1,<-b1,<-c1,<-e1,<-a2,<-b2,<-c2,<-e2]
   grind
theorem Uw(x y:K):bW (x+y)=(qK (bW x) (bW y)).low:=by have hx:=(kU x).pos;have hy:=(kU y).pos;have:=FT (x:=qK (bW x) (bW y)) (DO o_ o_);rw[aKI o_ o_,pk,pk]at this;exact this
theorem Ux(x y:K):bW (x*y)=(ep (bW x) (bW y)).low:=by have hx:=(kU x).pos;have hy:=(kU y).pos;have:=FT (x:=ep (bW x) (bW y)) (DO o_ o_);rw[KY o_ o_,pk,pk]at this;exact this
theorem aKK{x:Fr}(h:x.pT):(zZ x).pT:=⟨h.pos,by have:=h.one;unfold Fr.g at this ⊢;simpa[zZ]using this⟩
theorem Uy(x:K):bW (-x)=zZ (bW x):=by have:=FR (aKK (kU x));rw[aKJ,pk]at this;exact this
def dU(n:Nat)(x:Fr):Prop:=x.a.natAbs<2^n/\x.b.natAbs<2^n/\x.c.natAbs<2^n/\x.e.natAbs<2^n/\x.d.natAbs<2^n
def Sz(n:Nat)(x:K):Prop:=dU n (bW x)
theorem dU.mono{n:Nat}(h:m<=n){x:Fr}(hx:dU m x):dU n x:=by have:=di (show 0<2 by decide) h;obtain⟨h1,h2,h3,h4,h5⟩:=hx;exact⟨by omega,by omega,by omega,by omega,by omega⟩
theorem Sz.mono{n:Nat}(h:m<=n){x:K}(hx:Sz m x):Sz n x:=dU.mono h hx
theorem dU.low{n:Nat}{x:Fr}(h:dU n x)(hd:x.d≠0):dU n x.low:=by obtain⟨h1,h2,h3,h4,h5⟩:=h;exact⟨eZ (KX hd) h1,eZ (KX hd) h2,eZ (KX hd) h3,eZ (KX hd) h4,eZ (KX hd) h5⟩
theorem eV{n:Nat}{u v:Int}(hu:u.natAbs<2^m)(hv:v.natAbs<2^n):(u*v).natAbs<2^(m+n):=by
 rw[xO,eU];rcases nU v.natAbs with h|h
 ·rw[h,Nat.mul_zero];exact rL (cO d_) (cO d_)
 ·exact cF (BN hu h) (jN _ (j5 hv))
theorem dU.add{n:Nat}{x y:Fr}(hx:dU m x)(hy:dU n y):dU (m+n+1) (qK x y):=by
 obtain⟨x1,x2,x3,x4,x5⟩:=hx;obtain⟨y1,y2,y3,y4,y5⟩:=hy;have e:2^(m+n+1)=2^(m+n)*2:=dH ..;have e':2^(n+m)=2^(m+n):=by rw[nr]
 have key:∀{u v:Int},u.natAbs<2^m->v.natAbs<2^n->(u*y.d+v*x.d).natAbs<2^(m+n+1):=λ{u v} hu hv=>by have h1:=eV hu y5;have h2:=eV hv x5;rw[e']at h2;have:=aBj (u*y.d) (v*x.d);omega
 refine⟨key x1 y1,key x2 y2,key x3 y3,key x4 y4,?_⟩;have:=eV x5 y5;show(x.d*y.d).natAbs<_;omega
theorem dU.mul{n:Nat}{x y:Fr}(hx:dU m x)(hy:dU n y):dU (m+n+4) (ep x y):=by
 obtain⟨x1,x2,x3,x4,x5⟩:=hx;obtain⟨y1,y2,y3,y4,y5⟩:=hy;have e:2^(m+n+4)=2^(m+n)*16:=by rw[eU]
 have t:∀{u v:Int} (k:Nat),u.natAbs<2^m->v.natAbs<2^n->((k:Int)*(u*v)).natAbs<=k*2^(m+n):=λ{u v} k hu hv=>by have h1:=eV hu hv;rw[xO,zY];exact jN _ (j5 h1)
 have four:∀ p q r s:Int,(p+q+r+s).natAbs<=p.natAbs+q.natAbs+r.natAbs+s.natAbs:=λp q r s=>by omega
 have hp:0<2^(m+n):=cO d_;refine⟨?_,?_,?_,?_,?_⟩
 ·have:=four (x.a*y.a) (2*(x.b*y.b)) (3*(x.c*y.c)) (6*(x.e*y.e));have h1:=eV x1 y1;have h2:=t 2 x2 y2;have h3:=t 3 x3 y3;have h4:=t 6 x4 y4;show(x.a*y.a+2*(x.b*y.b)+3*(x.c*y.c)+6*(x.e*y.e)).natAbs<_;omega
 ·have:=four (x.a*y.b) (x.b*y.a) (3*(x.c*y.e)) (3*(x.e*y.c));have h1:=eV x1 y2;have h2:=eV x2 y1;have h3:=t 3 x3 y4;have h4:=t 3 x4 y3;show(x.a*y.b+x.b*y.a+3*(x.c*y.e)+3*(x.e*y.c)).natAbs<_;omega
 ·have:=four (x.a*y.c) (2*(x.b*y.e)) (x.c*y.a) (2*(x.e*y.b));have h1:=eV x1 y3;have h2:=t 2 x2 y4;have h3:=eV x3 y1;have h4:=t 2 x4 y2;show(x.a*y.c+2*(x.b*y.e)+x.c*y.a+2*(x.e*y.b)).natAbs<_;omega
 ·have:=four (x.a*y.e) (x.b*y.c) (x.c*y.b) (x.e*y.a);have h1:=eV x1 y4;have h2:=eV x2 y3;have h3:=eV x3 y2;have h4:=eV x4 y1;show(x.a*y.e+x.b*y.c+x.c*y.b+x.e*y.a).natAbs<_;omega
 ·have:=eV x5 y5;show(x.d*y.d).natAbs<_;omega
theorem Sz.add{n:Nat}{x y:K}(hx:Sz m x)(hy:Sz n y):Sz (m+n+1) (x+y):=by unfold Sz;rw[Uw];exact(dU.add hx hy).low (DO (by have:=(kU x).pos;omega) (by have:=(kU y).pos;omega))
theorem Sz.mul{n:Nat}{x y:K}(hx:Sz m x)(hy:Sz n y):Sz (m+n+4) (x*y):=by unfold Sz;rw[Ux];exact(dU.mul hx hy).low (DO (by have:=(kU x).pos;omega) (by have:=(kU y).pos;omega))
theorem Sz.neg{n:Nat}{x:K}(hx:Sz n x):Sz n (-x):=by unfold Sz at *;rw[Uy];obtain⟨h1,h2,h3,h4,h5⟩:=hx;exact⟨by simpa[zZ]using h1,by simpa[zZ]using h2,by simpa[zZ]using h3,by simpa[zZ]using h4,h5⟩
theorem Sz.sub{n:Nat}{x y:K}(hx:Sz m x)(hy:Sz n y):Sz (m+n+1) (x-y):=by rw[CR.sub_def];exact hx.add hy.neg
def um(a b s:Int):Int:=if a=b\/b=0 then a else if a=0 then b else a*s
namespace bL
variable{F:Type}[OF F]{s:F}[hs:xN F s]
theorem aBk(x:bL F s):sg x=um (aH x.re) (aH x.im) (aH (nm x)):=by
 unfold um;rcases ways x with h|⟨h,h2⟩|⟨h,h2⟩
 ·subst h;have e:aH (0:F)=0:=(fH (0:F)).2 rfl;rw[Is,Iq,Ir,e,aB (.inl rfl)]
 ·rw[s9 h,h,Int.mul_one];by_cases h3:aH x.re=aH x.im\/aH x.im=0
  ·rw[aB h3]
  ·rw[az h3];by_cases h4:aH x.re=0
   ·exfalso;rw[(fH _).1 h4,CR.zero_mul]at h2;have h5:aH (s*(x.im*x.im))=1:=by
     have h6:aH x.im≠0:=λe=>h3 (.inr e);rw[mL,mL,aKv];rcases ja x.im with e|e|e
     ·rw[e];rfl
     ·exact absurd e h6
     ·rw[e];rfl
    have h7:(0:F)<s*(x.im*x.im):=gj.2 h5;exact OF.lt_irrefl _ (OF.lt_trans h7 h2)
   ·rw[az h4]
 ·rw[uk h,h];by_cases h3:aH x.re=aH x.im\/aH x.im=0
  ·rw[aB h3];rcases h3 with h3|h3
   ·exact h3.symm
   ·exfalso;rw[(fH _).1 h3,CR.zero_mul,CR.mul_zero]at h2;have h5:aH (x.re*x.re)≠-1:=by rw[mL];rcases ja x.re with e|e|e<;>rw[e]<;>decide
    exact h5 (Ik.1 h2)
  ·rw[az h3];by_cases h4:aH x.re=0
   ·rw[aB h4]
   ·rw[az h4];have h5:aH x.im≠0:=λe=>h3 (.inr e);have h6:aH x.re≠aH x.im:=λe=>h3 (.inl e);rcases ja x.re with e|e|e<;>rcases ja x.im with k|k|k<;>first|exact absurd e h4|exact absurd k h5|exact absurd (e.trans k.symm) h6|(rw[e,k];rfl)
end bL
theorem aBl(u:Int):aH (u:Rat)=u.sign:=by show(u:Rat).num.sign=u.sign;rw[Rat.num_intCast]
theorem Uz{u d:Int}(hd:0<d):aH (Rat.divInt u d)=u.sign:=by have h1:=po (u:=u) (d:=d) o_;have h2:=cS aH h1;rw[mL,aBl,aBl,BZ hd,Int.mul_one]at h2;exact h2
def pU(a b:Int):Int:=um a.sign b.sign (a*a-2*(b*b)).sign
theorem UA{a b d:Int}(hd:0<d):aH (⟨Rat.divInt a d,Rat.divInt b d⟩:K2)=pU a b:=by
 have h:=bL.aBk (⟨Rat.divInt a d,Rat.divInt b d⟩:K2);have a1:=po (u:=a) (d:=d) o_;have b1:=po (u:=b) (d:=d) o_;have hn:bL.nm (⟨Rat.divInt a d,Rat.divInt b d⟩:K2)=Rat.divInt (a*a-2*(b*b)) (d*d):=by refine(FU (x:=⟨0,0,0,0,d⟩) (y:=⟨0,0,0,0,d⟩) (by show d≠0;omega) (by show d≠0;omega) ?_).symm;show(Rat.divInt a d*Rat.divInt a d-2*(Rat.divInt b d*Rat.divInt b d))*((d:Rat)*(d:Rat))=_;simp only[aBm,DL,<-a1,<-b1];have t2:((2:Int):Rat)=2:=rfl;rw[t2];grind
 rw[hn]at h;show bL.sg _=_;rw[h];show um (aH (Rat.divInt a d)) (aH (Rat.divInt b d)) _=_;rw[Uz hd,Uz hd,Uz (UB hd hd)];rfl
def O0(a b c e:Int):Int:=um (pU a b) (pU c e) (pU ((a*a+2*(b*b))-(3*(c*c)+6*(e*e))) (2*(a*b)-6*(c*e)))
theorem aKL{x:Fr}(hd:0<x.d):aH x.val=O0 x.a x.b x.c x.e:=by
 have h:=bL.aBk x.val;have a1:=po (u:=x.a) (d:=x.d) o_;have b1:=po (u:=x.b) (d:=x.d) o_;have c1:=po (u:=x.c) (d:=x.d) o_;have e1:=po (u:=x.e) (d:=x.d) o_;have hn:bL.nm x.val=(⟨Rat.divInt ((x.a*x.a+2*(x.b*x.b))-(3*(x.c*x.c)+6*(x.e*x.e))) (x.d*x.d),Rat.divInt (2*(x.a*x.b)-6*(x.c*x.e)) (x.d*x.d)⟩:K2):=by
  apply bL.ext
  ·refine(FU (x:=x) (y:=x) o_ o_ ?_).symm;show((Rat.divInt x.a x.d*Rat.divInt x.a x.d+2*(Rat.divInt x.b x.d*Rat.divInt x.b x.d))-(3*(Rat.divInt x.c x.d*Rat.divInt x.c x.d+2*(Rat.divInt x.e x.d*Rat.divInt x.e x.d))+2*(0*(Rat.divInt x.c x.d*Rat.divInt x.e x.d+Rat.divInt x.e x.d*Rat.divInt x.c x.d))))*((x.d:Rat)*(x.d:Rat))=_;simp only[aBm,OZ,DL,<-a1,<-b1,<-c1,<-e1];have t2:((2:Int):Rat)=2:=rfl;have t3:((3:Int):Rat)=3:=rfl;have t6:((6:Int):Rat)=6:=rfl;rw[t2,t3,t6];grind
  ·refine(FU (x:=x) (y:=x) o_ o_ ?_).symm;show((Rat.divInt x.a x.d*Rat.divInt x.b x.d+Rat.divInt x.b x.d*Rat.divInt x.a x.d)-(3*(Rat.divInt x.c x.d*Rat.divInt x.e x.d+Rat.divInt x.e x.d*Rat.divInt x.c x.d)+0*(Rat.divInt x.c x.d*Rat.divInt x.c x.d+2*(Rat.divInt x.e x.d*Rat.divInt x.e x.d))))*((x.d:Rat)*(x.d:Rat))=_;simp only[aBm,DL,<-a1,<-b1,<-c1,<-e1];have t2:((2:Int):Rat)=2:=rfl;have t6:((6:Int):Rat)=6:=rfl;rw[t2,t6];grind
 rw[hn]at h;show bL.sg _=_;rw[h];have KZ:=UB hd hd;show um (aH (⟨Rat.divInt x.a x.d,Rat.divInt x.b x.d⟩:K2)) (aH (⟨Rat.divInt x.c x.d,Rat.divInt x.e x.d⟩:K2)) _=_;rw[UA hd,UA hd,UA KZ];rfl
theorem aBn(k:K):aH k=O0 (bW k).a (bW k).b (bW k).c (bW k).e:=by have:=aKL (kU k).pos;rw[pk]at this;exact this
end
variable{x:K}
structure RI where
 neg:Bool
 bo:List UInt8
structure RN where
 a:RI
 b:RI
 c:RI
 e:RI
 d:RI
structure RV where
 x:RN
 y:RN
 z:RN
structure RP where
 n:RV
 d:RN
def RI.cs(r:RI):ak:=[.bool r.neg,.string (BA r.bo)]
def RN.cs(r:RN):ak:=[.bool r.a.neg,.string (BA r.a.bo),.bool r.b.neg,.string (BA r.b.bo),.bool r.c.neg,.string (BA r.c.bo),.bool r.e.neg,.string (BA r.e.bo),.bool r.d.neg,.string (BA r.d.bo)]
def RV.cs(r:RV):ak:=r.x.cs++(r.y.cs++r.z.cs)
def RP.cs(r:RP):ak:=r.n.cs++r.d.cs
def RI.v(r:RI):Value:=.agg r.cs.toArray
def RN.v(r:RN):Value:=.agg r.cs.toArray
def RV.v(r:RV):Value:=.agg r.cs.toArray
def RP.v(r:RP):Value:=.agg r.cs.toArray
def RI.Sm(r:RI):Prop:=r.bo.length<=maxLen
def RN.Sm(r:RN):Prop:=r.a.Sm/\r.b.Sm/\r.c.Sm/\r.e.Sm/\r.d.Sm
def RV.Sm(r:RV):Prop:=r.x.Sm/\r.y.Sm/\r.z.Sm
def RP.Sm(r:RP):Prop:=r.n.Sm/\r.d.Sm
def RI.ls(r:RI):List Lit:=[.bool r.neg,.string r.bo]
def RN.ls(r:RN):List Lit:=r.a.ls++(r.b.ls++(r.c.ls++(r.e.ls++r.d.ls)))
def RV.ls(r:RV):List Lit:=r.x.ls++(r.y.ls++r.z.ls)
def RP.ls(r:RP):List Lit:=r.n.ls++r.d.ls
theorem RI.wy{r s:RI}:r.ls=s.ls↔r=s:=by cases r;cases s;simp[RI.ls]
theorem RN.wy{r s:RN}:r.ls=s.ls↔r=s:=by obtain⟨⟨_,_⟩,⟨_,_⟩,⟨_,_⟩,⟨_,_⟩,⟨_,_⟩⟩:=r;obtain⟨⟨_,_⟩,⟨_,_⟩,⟨_,_⟩,⟨_,_⟩,⟨_,_⟩⟩:=s;simp[RN.ls,RI.ls,and_assoc]
theorem RN.Ix(r:RN):r.ls.length=10:=rfl
theorem RV.wy{r s:RV}:r.ls=s.ls↔r=s:=by
 obtain⟨x,y,z⟩:=r;obtain⟨x',y',z'⟩:=s;unfold RV.ls;constructor
 ·intro h;obtain⟨h1,h2⟩:=List.append_inj h (by rw[RN.Ix,RN.Ix]);obtain⟨h2,h3⟩:=List.append_inj h2 (by rw[RN.Ix,RN.Ix]);have a1:x=x':=RN.wy.1 h1;have a2:y=y':=RN.wy.1 h2;have a3:z=z':=RN.wy.1 h3;rw[a1,a2,a3]
 ·intro h;rw[h]
theorem RP.wy{r s:RP}:r.ls=s.ls↔r=s:=by
 obtain⟨x,y⟩:=r;obtain⟨x',y'⟩:=s;unfold RP.ls;constructor
 ·intro h;obtain⟨h1,h2⟩:=List.append_inj' h (by rw[RN.Ix,RN.Ix]);have a1:x=x':=RV.wy.1 h1;have a2:y=y':=RN.wy.1 h2;rw[a1,a2]
 ·intro h;rw[h]
theorem RN.nY(r:RN):∀ u∈r.cs,flat u=true:=λu hu=>by simp[RN.cs]at hu;rcases hu with h|h|h|h|h|h|h|h|h|h<;>subst h<;>rfl
theorem RV.nY(r:RV):∀ u∈r.cs,flat u=true:=λu hu=>by
 simp only[RV.cs,eX]at hu;rcases hu with h|h|h
 ·exact r.x.nY u h
 ·exact r.y.nY u h
 ·exact r.z.nY u h
def O1(P:j_)(t:TypeId):Array Field:=match P.underlying t with|some (.struct fs)=>fs|_=>#[]
theorem FX(r:RI)(h:r.Sm)(d:Nat):prog.keyLits (d+2) 30 r.cs=some r.ls:=by
 obtain ⟨fs, h1, h2, h3⟩ : ∃ fs, prog.underlying 30 = some (.struct fs) ∧ fs.toList.map (fun g => (g.type, g.offset)) = [(4, 0), (9, 1)] ∧ fs.all (fun g => g.name != "_") = true := ⟨O1 prog 30, (by kernel_rfl), (by kernel_rfl), (by kernel_rfl)⟩;rw[OE h1 h2 h3 k_];have e1:prog.keyLits (d+1) 4 ((r.cs.drop 0).take (prog.cellsOf 4))=some [.bool r.neg]:=by
  have e:(r.cs.drop 0).take (prog.cellsOf 4)=[.bool r.neg]:=k_;rw[e];exact aKj k_ _ d
 have e2:prog.keyLits (d+1) 9 ((r.cs.drop 1).take (prog.cellsOf 9))=some [.string r.bo]:=by have e:(r.cs.drop 1).take (prog.cellsOf 9)=[.string (BA r.bo)]:=k_;rw[e];exact aKk k_ _ (by rw[pc];exact h) d
 simp only[Kb,UC,e1,e2];simp[RI.ls]
theorem aKM(r:RN)(h:r.Sm)(d:Nat):prog.keyLits (d+3) 31 (r.a.cs++(r.b.cs++(r.c.cs++r.e.cs)))=some (r.a.ls++(r.b.ls++(r.c.ls++r.e.ls))):=by rw[aKi (n:=4) (e:=30) k_ k_];obtain⟨h0,h1,h2,h3,_⟩:=h;have c:prog.cellsOf 30=2:=k_;have e0:=FX r.a h0 d;have e1:=FX r.b h1 d;have e2:=FX r.c h2 d;have e3:=FX r.e h3 d;rw[c];simp[K0,RI.cs]at e0 e1 e2 e3 ⊢;simp[e0,e1,e2,e3]
theorem O2(r:RN)(h:r.Sm)(d:Nat):prog.keyLits (d+4) 33 r.cs=some r.ls:=by
 obtain ⟨fs, h1, h2, h3⟩ : ∃ fs, prog.underlying 33 = some (.struct fs) ∧ fs.toList.map (fun g => (g.type, g.offset)) = [(31, 0), (30, 8)] ∧ fs.all (fun g => g.name != "_") = true := ⟨O1 prog 33, (by kernel_rfl), (by kernel_rfl), (by kernel_rfl)⟩;rw[OE h1 h2 h3 k_];have e1:prog.keyLits (d+3) 31 ((r.cs.drop 0).take (prog.cellsOf 31))=some (r.a.ls++(r.b.ls++(r.c.ls++r.e.ls))):=by
  have e:(r.cs.drop 0).take (prog.cellsOf 31)=r.a.cs++(r.b.cs++(r.c.cs++r.e.cs)):=k_;rw[e];exact aKM r h d
 have e2:prog.keyLits (d+3) 30 ((r.cs.drop 8).take (prog.cellsOf 30))=some r.d.ls:=by have e:(r.cs.drop 8).take (prog.cellsOf 30)=r.d.cs:=k_;rw[e];exact FX r.d h.2.2.2.2 (d+1)
 simp only[Kb,UC,e1,e2];simp[RN.ls]
theorem UD(r:RV)(h:r.Sm)(d:Nat):prog.keyLits (d+5) 38 r.cs=some r.ls:=by
 obtain ⟨fs, h1, h2, h3⟩ : ∃ fs, prog.underlying 38 = some (.struct fs) ∧ fs.toList.map (fun g => (g.type, g.offset)) = [(33, 0), (33, 10), (33, 20)] ∧ fs.all (fun g => g.name != "_") = true := ⟨O1 prog 38, (by kernel_rfl), (by kernel_rfl), (by kernel_rfl)⟩;rw[OE h1 h2 h3 k_];have e:∀(k:Nat) (s:RN),(r.cs.drop k).take (prog.cellsOf 33)=s.cs->s.Sm->prog.keyLits (d+4) 33 ((r.cs.drop k).take (prog.cellsOf 33))=some s.ls:=λk s e hs=>by rw[e];exact O2 s hs d
 simp only[Kb,UC,e 0 r.x k_ h.1,e 10 r.y k_ h.2.1,e 20 r.z k_ h.2.2];simp[RV.ls]
theorem aBo(r:RP)(h:r.Sm)(d:Nat):prog.keyLits (d+6) 50 r.cs=some r.ls:=by
 obtain ⟨fs, h1, h2, h3⟩ : ∃ fs, prog.underlying 50 = some (.struct fs) ∧ fs.toList.map (fun g => (g.type, g.offset)) = [(38, 0), (33, 30)] ∧ fs.all (fun g => g.name != "_") = true := ⟨O1 prog 50, (by kernel_rfl), (by kernel_rfl), (by kernel_rfl)⟩;rw[OE h1 h2 h3 k_];have e1:prog.keyLits (d+5) 38 ((r.cs.drop 0).take (prog.cellsOf 38))=some r.n.ls:=by
  have e:(r.cs.drop 0).take (prog.cellsOf 38)=r.n.cs:=k_;rw[e];exact UD r.n h.1 d
 have e2:prog.keyLits (d+5) 33 ((r.cs.drop 30).take (prog.cellsOf 33))=some r.d.ls:=by have e:(r.cs.drop 30).take (prog.cellsOf 33)=r.d.cs:=k_;rw[e];exact O2 r.d h.2 (d+1)
 simp only[Kb,UC,e1,e2];simp[RP.ls]
section
variable{Bs:aa}{N:Nat}
theorem B7{neg:Bool}(ho:FM o=some (neg,30))(r s:RI)(hr:r.Sm)(hs:s.Sm){b:Bool}(hb:(if neg then b else !b)=true↔r=s):cI prog Bs o [r.v,s.v] [] (.bool b) []:=
 OD (m:=2) ho o_ k_ k_ k_ k_ (FX r hr 0) (FX s hs 0) rfl rfl (by rw[hb];exact RI.wy.symm)
theorem O3{neg:Bool}(ho:FM o=some (neg,33))(r s:RN)(hr:r.Sm)(hs:s.Sm){b:Bool}(hb:(if neg then b else !b)=true↔r=s):cI prog Bs o [r.v,s.v] [] (.bool b) []:=
 OD (m:=4) ho o_ k_ k_ k_ k_ (O2 r hr 0) (O2 s hs 0) rfl rfl (by rw[hb];exact RN.wy.symm)
theorem FY{neg:Bool}(ho:FM o=some (neg,38))(r s:RV)(hr:r.Sm)(hs:s.Sm){b:Bool}(hb:(if neg then b else !b)=true↔r=s):cI prog Bs o [r.v,s.v] [] (.bool b) []:=
 OD (m:=5) ho o_ k_ k_ k_ k_ (UD r hr 0) (UD s hs 0) rfl rfl (by rw[hb];exact RV.wy.symm)
theorem UE{neg:Bool}(ho:FM o=some (neg,50))(r s:RP)(hr:r.Sm)(hs:s.Sm){b:Bool}(hb:(if neg then b else !b)=true↔r=s):cI prog Bs o [r.v,s.v] [] (.bool b) []:=
 OD (m:=6) ho o_ k_ k_ k_ k_ (aBo r hr 0) (aBo s hs 0) rfl rfl (by rw[hb];exact RP.wy.symm)
end
def bO(z:Int):RI:=⟨decide (z<0),cM z.natAbs⟩
theorem aBp(z:Int):aX z=(bO z).v:=rfl
theorem xR{x y:Int}(h:bO x=bO y):x=y:=by have h1:decide (x<0)=decide (y<0):=cS RI.neg h;have h2:x.natAbs=y.natAbs:=aJj (cS RI.bo h);rw[qx]at h1;omega
def tf(f:Fr):RN:=⟨bO f.a,bO f.b,bO f.c,bO f.e,bO f.d⟩
def iz(f:Fr):Value:=(tf f).v
theorem aKN{f g:Fr}(h:tf f=tf g):f=g:=Fr.ext' (xR (cS RN.a h)) (xR (cS RN.b h)) (xR (cS RN.c h)) (xR (cS RN.e h)) (xR (cS RN.d h))
def du(x:K):RN:=tf (bW x)
def bX(x:K):Value:=(du x).v
theorem K1{y:K}(h:du x=du y):x=y:=aKH (aKN h)
abbrev aE:Nat:=1099511627774
theorem uo{n:Nat}(h:z.natAbs<2^n)(hn:n<=aE):(bO z).Sm:=by show(cM z.natAbs).length<=maxLen;rw[uj];have:=wm h;unfold aE at hn;simp[maxLen];omega
theorem aKO{f:Fr}{n:Nat}(h:dU n f)(hn:n<=aE):(tf f).Sm:=⟨uo h.1 hn,uo h.2.1 hn,uo h.2.2.1 hn,uo h.2.2.2.1 hn,uo h.2.2.2.2 hn⟩
theorem xT{n:Nat}(h:Sz n x)(hn:n<=aE):(du x).Sm:=aKO h hn
def ic(c:Nat->Int):ak:=[.bool (bO (c 0)).neg,.string (BA (bO (c 0)).bo),.bool (bO (c 1)).neg,.string (BA (bO (c 1)).bo),.bool (bO (c 2)).neg,.string (BA (bO (c 2)).bo),.bool (bO (c 3)).neg,.string (BA (bO (c 3)).bo)]
def pV(c:Nat->Int):Value:=.agg (ic c).toArray
def co(f:Fr):Nat->Int
 |0=>f.a
 |1=>f.b
 |2=>f.c
 |_=>f.e
def pq(c:Nat->Int)(d:Int):Fr:=⟨c 0,c 1,c 2,c 3,d⟩
theorem DP{g:Nat}{x:Int}{p:Nat}(h1:g<2^p)(h2:x.natAbs<2^q)(hp:p<=1099511627776)(hq:q<=1099511627776):aG prog 156 [aX g,aX x] (aX (Nat.gcd g x.natAbs:Nat)):=by have:=FK (x:=(g:Int)) (y:=x) (by rw[zY];exact h1) h2 hp hq;rw[zY]at this;exact this
theorem aKP{g p:Nat}(h:g<2^p):Nat.gcd g m<2^p\/g=0:=by
 by_cases hg:g=0
 ·exact .inr hg
 ·exact .inl (eZ (aBq m (ue hg)) h)
theorem z7{g p:Nat}(h:g<2^p)(h2:m<2^p):Nat.gcd g m<2^p:=by
 rcases aKP (m:=m) h with h3|h3
 ·exact h3
 ·rw[h3,UF];exact h2
theorem aBr{c:Nat->Int}{d:Int}{n:Nat}(h:dU n (pq c d))(hn:n<=aE):aG prog 108 [pV c,aX d] (aX ((pq c d).g:Nat)):=by
 obtain⟨h0,h1,h2,h3,h4⟩:=h;have oV:n<=1099511627776:=by unfold aE at hn;omega
 have g1:=FK h4 h0 oV oV;have s1:=z7 h4 h0;have g2:=DP s1 h1 oV oV;have s2:=z7 s1 h1;have g3:=DP s2 h2 oV oV;have s3:=z7 s2 h2;have g4:=DP s3 h3 oV oV;exact bC func108 (λ_=>[g1.at 15,g2.at 15,g3.at 15,g4.at 15])
theorem FZ{x y:Int}{n:Nat}(hy:y≠0)(h1:x.natAbs<2^n)(h2:y.natAbs<2^n)(hn:n<=aE):aG prog 153 [aX x,aX y] (aX (x.fdiv y)):=
 bC func153 (λ_=>[(T7 hy h1 h2 hn hn).at 11])
theorem DQ{c:Nat->Int}{d:Int}{n:Nat}(hd:d≠0)(h:dU n (pq c d))(hn:n<=aE):aG prog 98 [pV c,aX d] (iz (pq c d).low):=by
 have hc:=aBr h hn;have oV:n<=1099511627776:=by unfold aE at hn;omega
 obtain⟨f,hf⟩:∃ f,f=pq c d:=⟨_,rfl⟩;have vU:f.d≠0:=by rw[hf];exact hd
 have qL:=Uu vU;have UG:=OU f;have hg:f.g<2^n:=by
  have h5:f.d.natAbs<2^n:=by rw[hf];exact h.2.2.2.2
  exact eZ (Nat.le_of_dvd o_ (FQ f)) h5
 have bH:f.s.natAbs<2^n:=by rw[UG];exact hg
 have ov:∀ u:Int,f.g ∣ u.natAbs->u.natAbs<2^n->aG prog 153 [aX u,aX f.s] (aX (u/f.s)):=λu hu vp=>by have:=FZ qL vp bH hn;rw[Int.fdiv_eq_ediv_of_dvd (DN hu)]at this;exact this
 have o0:=ov f.a (OQ f) (by rw[hf];exact h.1);have o1:=ov f.b (OR f) (by rw[hf];exact h.2.1);have o2:=ov f.c (OS f) (by rw[hf];exact h.2.2.1);have o3:=ov f.e (OT f) (by rw[hf];exact h.2.2.2.1);have o4:=ov f.d (FQ f) (by rw[hf];exact h.2.2.2.2);have B8:=lq (z:=1) d_;have aH:=pR d;rw[<-hf]at hc ⊢;have e0:f.a=c 0:=by rw[hf];rfl
 have e1:f.b=c 1:=by rw[hf];rfl
 have e2:f.c=c 2:=by rw[hf];rfl
 have e3:f.e=c 3:=by rw[hf];rfl
 have e4:f.d=d:=by rw[hf];rfl
 have one:(bO 1).Sm:=uo (n:=1) d_ d_;have sm:(bO f.s).Sm:=uo bH hn;by_cases F0:d<0
 ·have hs:f.s=-(f.g:Int):=by unfold Fr.s;rw[e4,aB F0]
  have bw:bO f.s≠bO 1:=λe=>by have:=xR e;omega
  have ng:=oJ (f.g:Int);rw[<-hs]at ng;rw[e0]at o0;rw[e1]at o1;rw[e2]at o2;rw[e3]at o3;rw[e4]at o4;have dG:f.low=⟨c 0/f.s,c 1/f.s,c 2/f.s,c 3/f.s,d/f.s⟩:=by unfold Fr.low;rw[e0,e1,e2,e3,e4]
  rw[dG];have B9:decide (d.sign<0)=true:=aJ (by rw[FG F0];decide);generalize f.s=s at *;exact bC func98 (λ_=>[hc.at 9,aH.at 11,.rw 12 (.bool (decide (d.sign<0))) b_ (by rw[B9]),ng.at 14,B8.at 16,.step 17 (au f98 17) _ _ _ _ (B7 (neg:=true) k_ (bO s) (bO 1) sm one (b:=false) (by simp;exact bw)),o0.at 29,o1.at 29,o2.at 29,o3.at 29,o4.at 35])
 ·have hs:f.s=(f.g:Int):=by unfold Fr.s;rw[e4,az F0]
  have B9:decide (d.sign<0)=false:=bd (by rw[BZ o_];decide);by_cases ur:f.g=1
  ·have dG:f.low=f:=by unfold Fr.low;rw[hs,ur];simp
   rw[dG,hf];rw[ur]at hc;exact bC func98 (λ_=>[hc.at 9,aH.at 11,.rw 12 (.bool (decide (d.sign<0))) a_ (by rw[B9]),B8.at 16,.step 17 (au f98 17) _ _ _ _ (B7 (neg:=true) k_ (bO 1) (bO 1) one one (b:=true) s_)])
  ·have bw:bO f.s≠bO 1:=λe=>by have:=xR e;omega
   rw[e0]at o0;rw[e1]at o1;rw[e2]at o2;rw[e3]at o3;rw[e4]at o4;have dG:f.low=⟨c 0/f.s,c 1/f.s,c 2/f.s,c 3/f.s,d/f.s⟩:=by unfold Fr.low;rw[e0,e1,e2,e3,e4]
   rw[dG];rw[<-hs]at hc;generalize f.s=s at *;exact bC func98 (λ_=>[hc.at 9,aH.at 11,.rw 12 (.bool (decide (d.sign<0))) a_ (by rw[B9]),B8.at 16,.step 17 (au f98 17) _ _ _ _ (B7 (neg:=true) k_ (bO s) (bO 1) sm one (b:=false) (by simp;exact bw)),o0.at 29,o1.at 29,o2.at 29,o3.at 29,o4.at 35])
theorem K3{f:Fr}{n:Nat}(hf:f.pT)(h:dU n f)(hn:n<=aE):aG prog 54 [iz f] b_:=by have hc:=aBr (c:=co f) (d:=f.d) h hn;have e:pq (co f) f.d=f:=rfl;rw[e,hf.one]at hc;have hp:=hf.pos;have hs:decide (f.d.sign>0)=true:=aJ (by rw[BZ hp];decide);have one:(bO 1).Sm:=uo (n:=1) d_ d_;exact bC func54 (λ_=>[(pj f.a).at 11,(pj f.b).at 11,(pj f.c).at 11,(pj f.e).at 11,(pj f.d).at 16,(pR f.d).at 20,.rw 21 (.bool (decide (f.d.sign>0))) b_ (by rw[hs]),hc.at 28,(lq (z:=1) d_).at 29,.step 30 (au f54 30) _ _ _ _ (B7 (neg:=true) k_ (bO 1) (bO 1) one one (b:=true) s_)])
theorem kV{n:Nat}(h:Sz n x)(hn:n<=aE):aG prog 54 [bX x] b_:=K3 (kU x) h hn
theorem UH(z:Int):bW (⟨⟨z,0⟩,⟨0,0⟩⟩:K)=⟨z,0,0,0,1⟩:=by
 have hl:Fr.pT ⟨z,0,0,0,1⟩:=⟨Int.zero_lt_one,by simp[Fr.g]⟩;have hv:Fr.val ⟨z,0,0,0,1⟩=⟨⟨z,0⟩,⟨0,0⟩⟩:=by
  unfold Fr.val;dsimp only;have e:∀ u:Int,Rat.divInt u 1=(u:Rat):=λu=>by rw[B6,FV];grind
  rw[e,e];rfl
 rw[<-hv];exact FR hl
def kI(z:Int):K:=⟨⟨z,0⟩,⟨0,0⟩⟩
theorem aBs(z:Int):bX (kI z)=iz ⟨z,0,0,0,1⟩:=by unfold bX du kI;rw[UH];rfl
theorem pr{n:Nat}(h:z.natAbs<2^n)(hn:0<n):Sz n (kI z):=by unfold Sz kI;rw[UH];have:2^1<=2^n:=di d_ hn;exact⟨h,by simp;omega,by simp;omega,by simp;omega,by simp;omega⟩
theorem DR:bO 0=⟨false,[]⟩:=by unfold bO;simp[Du]
theorem rO(h:z.natAbs<9223372036854775808):aG prog 88 [.int .i64 z] (bX (kI z)):=by
 rw[aBs];have e:iz ⟨z,0,0,0,1⟩=(RN.mk (bO z) ⟨false,[]⟩ ⟨false,[]⟩ ⟨false,[]⟩ (bO 1)).v:=by unfold iz tf;rw[DR]
 rw[e];exact bC func88 (λ_=>[(lq h).at 4,(lq (z:=1) d_).at 6])
theorem aKQ{c:Nat->Int}{d:Int}{n:Nat}(hd:d≠0)(h:dU n (pq c d))(hn:n<=aE):aG prog 154 [pV c,aX d] (.tuple #[iz (pq c d).low,.int .i64 0]):=by
 have hl:=DQ hd h hn;have hs:(d.sign==0)=false:=by simp;exact hd
 exact bC func154 (λ_=>[(pj (c 0)).at 13,(pj (c 1)).at 13,(pj (c 2)).at 13,(pj (c 3)).at 13,(pj d).at 19,(pR d).at 24,.rw 25 (.bool (d.sign==0)) a_ (by rw[hs]),hl.at 29])
theorem UI{p q:Int}{n:Nat}(hq:q≠0)(h1:p.natAbs<2^n)(h2:q.natAbs<2^n)(hn:n<=63):aG prog 99 [.int .i64 p,.int .i64 q] (.tuple #[iz (Fr.mk p 0 0 0 q).low,.int .i64 0]):=by
 have h63:2^n<=9223372036854775808:=dh (di d_ hn) d_;have hp:0<2^n:=cO d_;have hm:=aKQ (c:=λi=>match i with|0=>p|_=>0) (d:=q) (n:=n) hq ⟨h1,hp,hp,hp,h2⟩ (by unfold aE;omega);have e:pV (λi=>match i with|0=>p|_=>0)=.agg #[.bool (bO p).neg,.string (BA (bO p).bo),.bool false,.string ⟨#[]⟩,.bool false,.string ⟨#[]⟩,.bool false,.string ⟨#[]⟩]:=by show Value.agg #[.bool (bO p).neg,.string (BA (bO p).bo),.bool (bO 0).neg,.string (BA (bO 0).bo),.bool (bO 0).neg,.string (BA (bO 0).bo),.bool (bO 0).neg,.string (BA (bO 0).bo)]=_;rw[DR];rfl
 rw[e]at hm;exact bC func99 (λ_=>[(lq (z:=p) o_).at 7,(lq (z:=q) o_).at 10,hm.at 11])
theorem z8{n:Nat}(h:Sz n x)(hn:n<=aE):aG prog 169 [bX x] (bX (-x)):=by
 have hv:=kV h hn;have e:bX (-x)=iz (zZ (bW x)):=by unfold bX du;rw[Uy];rfl
 rw[e];exact bC func169 (λ_=>[hv.at 5,(oJ (bW x).a).at 16,(oJ (bW x).b).at 16,(oJ (bW x).c).at 16,(oJ (bW x).e).at 16])
theorem uu{y:K}{n:Nat}(hx:Sz m x)(hy:Sz n y)(cQ:m+n<aE):aG prog 90 [bX x,bX y] (bX (x+y)):=by
 have v1:=kV hx o_;have v2:=kV hy o_;have pW:aE<=1099511627776:=by decide
 have xQ:=(kU x).pos;have wx:=(kU y).pos;have hl:=DQ (c:=co (qK (bW x) (bW y))) (d:=(qK (bW x) (bW y)).d) (n:=m+n+1) (DO o_ o_) (dU.add hx hy) o_;have e:bX (x+y)=iz (qK (bW x) (bW y)).low:=by unfold bX du;rw[Uw];rfl
 rw[e];obtain⟨x1,x2,x3,x4,x5⟩:=hx;obtain⟨y1,y2,y3,y4,y5⟩:=hy;have mu:∀{u v:Int} {p q:Nat},u.natAbs<2^p->v.natAbs<2^q->p+q<=aE->aG prog 148 [aX u,aX v] (aX (u*v)):=λh1 h2 h3=>nB h1 h2 o_ o_;have ad:∀{u v:Int},u.natAbs<2^m->v.natAbs<2^n->aG prog 147 [aX (u*(bW y).d),aX (v*(bW x).d)] (aX (u*(bW y).d+v*(bW x).d)):=λh1 h2=>
  zT (eV h1 y5) (eV h2 x5) o_ o_
 exact bC func90 (λ_=>[v1.at 8,v2.at 12,(mu x1 y5 o_).at 26,(mu y1 x5 o_).at 33,(ad x1 y1).at 34,(mu x2 y5 o_).at 26,(mu y2 x5 o_).at 33,(ad x2 y2).at 34,(mu x3 y5 o_).at 26,(mu y3 x5 o_).at 33,(ad x3 y3).at 34,(mu x4 y5 o_).at 26,(mu y4 x5 o_).at 33,(ad x4 y4).at 34,(mu x5 y5 o_).at 42,hl.at 43])
theorem Ca{y:K}{n:Nat}(hx:Sz m x)(hy:Sz n y)(cQ:m+n<aE):aG prog 123 [bX x,bX y] (bX (x-y)):=by rw[CR.sub_def];exact bC func123 (λ_=>[(z8 hy o_).at 7,(uu hx hy.neg cQ).at 8])
section
open CR OF
def nD(x:K):K:=⟨x.re,-x.im⟩
def mo(x:K):K:=⟨⟨x.re.re,-x.re.im⟩,⟨x.im.re,-x.im.im⟩⟩
def xU(f:Fr):Fr:=⟨f.a,f.b,-f.c,-f.e,f.d⟩
def xV(f:Fr):Fr:=⟨f.a,-f.b,f.c,-f.e,f.d⟩
theorem O4(u d:Int):Rat.divInt (-u) d=-Rat.divInt u d:=(Rat.neg_divInt u d).symm
theorem aBt(f:Fr):(xU f).val=nD f.val:=bL.ext rfl (bL.ext (O4 _ _) (O4 _ _))
theorem UJ(f:Fr):(xV f).val=mo f.val:=bL.ext (bL.ext rfl (O4 _ _)) (bL.ext rfl (O4 _ _))
theorem aKR{f:Fr}(h:f.pT):(xU f).pT:=⟨h.pos,by have:=h.one;unfold Fr.g at this ⊢;simpa[xU]using this⟩
theorem aKS{f:Fr}(h:f.pT):(xV f).pT:=⟨h.pos,by have:=h.one;unfold Fr.g at this ⊢;simpa[xV]using this⟩
theorem aBu(x:K):bW (nD x)=xU (bW x):=by have:=FR (aKR (kU x));rw[aBt,pk]at this;exact this
theorem aBv(x:K):bW (mo x)=xV (bW x):=by have:=FR (aKS (kU x));rw[UJ,pk]at this;exact this
theorem Sz.nD{n:Nat}{x:K}(h:Sz n x):Sz n (nD x):=by unfold Sz at *;rw[aBu];obtain⟨h1,h2,h3,h4,h5⟩:=h;exact⟨h1,h2,by simpa[xU]using h3,by simpa[xU]using h4,h5⟩
theorem Sz.mo{n:Nat}{x:K}(h:Sz n x):Sz n (mo x):=by unfold Sz at *;rw[aBv];obtain⟨h1,h2,h3,h4,h5⟩:=h;exact⟨h1,by simpa[xV]using h2,h3,by simpa[xV]using h4,h5⟩
def two(y:K):K:=y*nD y
def rP(y:K):K:=two y*mo (two y)
theorem aKT(y:K):two y=⟨bL.nm y,0⟩:=by
 unfold two nD;apply bL.ext
 ·show y.re*y.re+xP*(y.im*-y.im)=y.re*y.re-xP*(y.im*y.im);exact kJ y.re y.im xP (λa b s=>a*a+s*(b*-b)) (λa b s=>a*a-s*(b*b)) d_
 ·show y.re*-y.im+y.im*y.re=0;exact jP y.re y.im (λa b=>a*-b+b*a) (λ_ _=>0) d_
theorem O5(y:K):rP y=⟨⟨bL.nm (bL.nm y),0⟩,⟨0,0⟩⟩:=by
 unfold rP;rw[aKT];obtain⟨p,q⟩:=bL.nm y;have e:mo (⟨⟨p,q⟩,0⟩:K)=⟨⟨p,-q⟩,0⟩:=by unfold mo;show(⟨⟨p,-q⟩,⟨0,-0⟩⟩:K)=_;rw[CR.neg_zero];rfl
 rw[e];apply bL.ext
 ·show(⟨p,q⟩:K2)*⟨p,-q⟩+xP*(0*0)=_;rw[CR.zero_mul,CR.mul_zero,CR.add_zero];apply bL.ext
  ·show p*p+2*(q*-q)=p*p-2*(q*q)
   grind
  ·show p*-q+q*p=0
   grind
 ·show(⟨p,q⟩:K2)*0+0*⟨p,-q⟩=0;rw[CR.mul_zero,CR.zero_mul,CR.add_zero]
theorem UK{y:K}(h:y≠0):bL.nm (bL.nm y)≠0:=λe=>h (bL.OO (bL.OO e))
theorem aBw(q:Rat):bW (⟨⟨q,0⟩,⟨0,0⟩⟩:K)=⟨q.num,0,0,0,q.den⟩:=by
 have hl:Fr.pT ⟨q.num,0,0,0,q.den⟩:=⟨by show(0:Int)<(q.den:Int);have:=q.den_pos;omega,by have:=q.reduced;unfold Nat.Coprime at this;simp[Fr.g];rw[Ia];exact this⟩
 have hv:Fr.val ⟨q.num,0,0,0,q.den⟩=⟨⟨q,0⟩,⟨0,0⟩⟩:=by
  unfold Fr.val;have e:∀ d:Int,Rat.divInt 0 d=0:=λd=>by simp
  dsimp only;rw[e,aBi]
 rw[<-hv];exact FR hl
def oK(y:K):Fr:=⟨(bW (rP y)).d,0,0,0,(bW (rP y)).a⟩
theorem O6{y:K}(h:y≠0):(oK y).d≠0:=by unfold oK;dsimp only;rw[O5,aBw];exact λe=>UK h (Rat.num_eq_zero.1 e)
theorem aKU{y:K}(h:y≠0):rP y*(oK y).val=1:=by
 have hq:=UK h;have e1:(oK y).val=⟨⟨(bL.nm (bL.nm y))⁻¹,0⟩,⟨0,0⟩⟩:=by
  unfold oK Fr.val;rw[O5,aBw];have e:∀ d:Int,Rat.divInt 0 d=0:=λd=>by simp
  dsimp only;rw[e,B6];generalize bL.nm (bL.nm y)=q at *;have h2:((q.den:Int):Rat)/(q.num:Rat)=q⁻¹:=by
   have h3:(q.num:Rat)≠0:=by simpa using hq
   have h4:((q.den:Int):Rat)*q=q.num:=by
    have h5:(q.num:Rat)/((q.den:Int):Rat)=q:=by rw[<-B6];exact aBi q
    have h6:((q.den:Int):Rat)≠0:=by have:=q.den_nz;simpa using this
    have h7:=aBb (a:=(q.num:Rat)) h6;rw[h5,Rat.mul_comm]at h7;exact h7
   have h8:=Iv q hq;have h9:=Iv (q.num:Rat) h3;rw[FV]
   grind
  rw[h2]
 rw[e1,O5];generalize bL.nm (bL.nm y)=q at *;have h8:=Iv q hq;apply bL.ext
 ·apply bL.ext
  ·show(q*q⁻¹+2*(0*0))+(3*(0*0+2*(0*0))+2*(0*(0*0+0*0)))=1
   grind
  ·show(q*0+0*q⁻¹)+(3*(0*0+0*0)+0*(0*0+2*(0*0)))=0
   grind
 ·apply bL.ext
  ·show(q*0+2*(0*0))+(0*q⁻¹+2*(0*0))=0
   grind
  ·show(q*0+0*0)+(0*0+0*q⁻¹)=0
   grind
theorem aBx{y:K}(h:y≠0):(x*nD y)*(mo (two y)*(oK y).val)=x*y⁻¹:=by
 have h1:=aKU h;have h2:=OF.jz y h;have e1:y*(nD y*(mo (two y)*(oK y).val))=1:=by rw[<-h1];unfold rP two;exact zX y (nD y) (mo (y*nD y)) (oK y).val (λy c b i=>y*(c*(b*i))) (λy c b i=>y*c*b*i) d_
 have e2:nD y*(mo (two y)*(oK y).val)=y⁻¹:=by have h3:=cS (λt=>y⁻¹*t) e1;rw[CR.mul_one,<-CR.mul_assoc,CR.mul_comm y⁻¹ y,h2,CR.one_mul]at h3;exact h3
 rw[<-e2,CR.mul_assoc]
theorem Sz.inv{n:Nat}{y:K}(h:y≠0)(hy:Sz n y):Sz (4*n+12) (oK y).val:=by have h1:Sz (n+n+4) (two y):=hy.mul hy.nD;have h2:Sz (n+n+4+(n+n+4)+4) (rP y):=h1.mul h1.mo;have h3:Sz (4*n+12) (rP y):=h2.mono o_;unfold Sz;rw[FT (O6 h)];obtain⟨a1,a2,a3,a4,a5⟩:=h3;have hp:0<2^(4*n+12):=cO d_;exact dU.low ⟨a5,hp,hp,hp,a1⟩ (O6 h)
theorem Sz.div{n:Nat}{y:K}(h:y≠0)(hx:Sz m x)(hy:Sz n y):Sz (m+7*n+28) (x*y⁻¹):=by rw[<-aBx h];have h1:Sz (n+n+4) (two y):=hy.mul hy.nD;exact((hx.mul hy.nD).mul (h1.mo.mul (Sz.inv h hy))).mono o_
end
def sq(n:Nat):Int:=match n with|0=>1|1=>2|2=>3|_=>6
def xW(n:Nat)(a b c:Nat->Int):Nat->Int:=λk=>if Nat.beq k ((n/4) ^^^ (n%4))then c k+sq ((n/4)&&& (n%4))*(a (n/4)*b (n%4))else c k
def j6(a b:Nat->Int):Nat->Nat->Int
 |0=>λ_=>0
 |n+1=>xW n a b (j6 a b n)
def m7(n:Nat):Nat:=4+9*(n/4)
def nx(n:Nat):Nat:=m7 n+1+2*(n%4)
def ptr(k:Nat):Value:=.pointer (some ⟨k,0,some 7⟩)
section
variable{Bs:aa}{a b:Nat->Int}
def UL(n:Nat)(b:Nat->Int):aT:=[(18,pV b),(19,vI (n%4)),(6,vI (n/4)),(7,ptr (m7 n)),(5,ptr 3)]
def Iy(n:Nat)(a c:Nat->Int):aM:=[(3,.aK (ic c) 31),(m7 n,.aK (bO (a (n/4))).cs 30)]
theorem O7{n:Nat}{c:Nat->Int}(h:a (n/4)=0\/b (n%4)=0):xW n a b c=c:=by
 funext k
 unfold xW;split
 ·rcases h with h|h<;>rw[h]<;>simp
 ·rfl
theorem K4:((BA (cM z.natAbs)).toList==(ByteArray.mk #[]).toList)=decide (z=0):=by rw[qH,qx];omega
theorem aKV(n:Nat)(hn:n<16){c:Nat->Int}{p:Nat}(ha:∀ i,(a i).natAbs<2^p)(hb:∀ i,(b i).natAbs<2^q)(hc:∀ i,(c i).natAbs<2^r)(F1:p+q+3<=aE)(hr:r<=aE):
  ah prog Bs 62 (.block 3 (ag f97 3)) (UL n b) (Iy n a c) (nx n) ⟨.normal,[],Iy n a (xW n a b c),nx n+2⟩:=by
 have pW:aE<=1099511627776:=by decide
 have rQ:∀ m,(sq m).natAbs<2^3:=λm=>by unfold sq;split<;>decide
 have m1:=nB (ha (n/4)) (hb (n%4)) o_ o_;have m2:=nB (rQ ((n/4)&&& (n%4))) (eV (ha (n/4)) (hb (n%4))) o_ o_;have ad:=zT (hc ((n/4) ^^^ (n%4))) (eV (rQ ((n/4)&&& (n%4))) (eV (ha (n/4)) (hb (n%4)))) o_ o_;have so:=lq (z:=sq ((n/4)&&& (n%4))) (mJ (rQ _) d_);by_cases h1:a (n/4)=0
 ·rw[O7 (.inl h1)];have e:((BA (cM (a (n/4)).natAbs)).toList==(ByteArray.mk #[]).toList)=true:=by rw[K4];exact aJ h1
  rcases n with _|_|_|_|_|_|_|_|_|_|_|_|_|_|_|_|n
  all_goals first|omega|exact aD [.rw 25 _ b_ (cS Value.bool e)]
 ·by_cases h2:b (n%4)=0
  ·rw[O7 (.inr h2)];have e:((BA (cM (a (n/4)).natAbs)).toList==(ByteArray.mk #[]).toList)=false:=by rw[K4];exact bd h1
   have e':((BA (cM (b (n%4)).natAbs)).toList==(ByteArray.mk #[]).toList)=true:=by rw[K4];exact aJ h2
   rcases n with _|_|_|_|_|_|_|_|_|_|_|_|_|_|_|_|n
   all_goals first|omega|exact aD [.rw 25 _ a_ (cS Value.bool e),.rw 29 _ b_ (cS Value.bool e')]
  ·have e:((BA (cM (a (n/4)).natAbs)).toList==(ByteArray.mk #[]).toList)=false:=by rw[K4];exact bd h1
   have e':((BA (cM (b (n%4)).natAbs)).toList==(ByteArray.mk #[]).toList)=false:=by rw[K4];exact bd h2
   rcases n with _|_|_|_|_|_|_|_|_|_|_|_|_|_|_|_|n
   all_goals first|omega|exact aD [.rw 25 _ a_ (cS Value.bool e),.rw 29 _ a_ (cS Value.bool e'),so.at 37,m1.at 49,m2.at 50,ad.at 51]
theorem UM{p q:Nat}(ha:∀ i,(a i).natAbs<2^p)(hb:∀ i,(b i).natAbs<2^q):∀ n,n<=16->∀ k,(j6 a b n k).natAbs<=n*2^(p+q+3)
 |0,_,k=>by show(0:Int).natAbs<=_;simp
 |n+1,hn,k=>by
  have ih:=UM ha hb n o_ k;show(xW n a b (j6 a b n) k).natAbs<=_;unfold xW;rw[fP,qB];split
  ·have rQ:∀ m,(sq m).natAbs<2^3:=λm=>by unfold sq;split<;>decide
   have h1:=eV (rQ ((n/4)&&& (n%4))) (eV (ha (n/4)) (hb (n%4)));rw[show 3+(p+q)=p+q+3 by omega]at h1;have:=aBj (j6 a b n k) (sq ((n/4)&&& (n%4))*(a (n/4)*b (n%4)));exact dh this (K5 ih (j5 h1))
  ·exact dh ih (Ks _ _)
end
theorem K6(f g:Fr):pq (j6 (co f) (co g) 16) (f.d*g.d)=ep f g:=by
 apply Fr.ext'
 ·show j6 (co f) (co g) 16 0=_;simp[j6,xW,sq,co,ep]
 ·show j6 (co f) (co g) 16 1=_;simp[j6,xW,sq,co,ep]
 ·show j6 (co f) (co g) 16 2=_;simp[j6,xW,sq,co,ep]
 ·show j6 (co f) (co g) 16 3=_;simp[j6,xW,sq,co,ep]
 ·rfl
theorem Iz{f:Fr}{n:Nat}(h:dU n f):∀ i,(co f i).natAbs<2^n
 |0=>h.1
 |1=>h.2.1
 |2=>h.2.2.1
 |_+3=>h.2.2.2.1
theorem aBy:ic (λ_=>0)=[.bool false,.string ⟨#[]⟩,.bool false,.string ⟨#[]⟩,.bool false,.string ⟨#[]⟩,.bool false,.string ⟨#[]⟩]:=by unfold ic;rw[DR];rfl
theorem aKW{f g:Fr}{n:Nat}(hf:dU m f)(hg:dU n g)(vU:f.d≠0)(oC:g.d≠0)(cQ:m+n+8<=aE):aG prog 97 [iz f,iz g] (iz (ep f g).low):=by
 have pW:aE<=1099511627776:=by decide
 have ca:=Iz hf;have cb:=Iz hg;have hl:=DQ (c:=j6 (co f) (co g) 16) (d:=f.d*g.d) (n:=m+n+4) (DO vU oC) (by rw[K6];exact hf.mul hg) o_;rw[K6]at hl;have md:=nB hf.2.2.2.2 hg.2.2.2.2 o_ o_;have hs:∀ i,i<=16->∀ k,(j6 (co f) (co g) i k).natAbs<2^(m+n+8):=λi hi k=>by
  have h1:=UM ca cb i hi k;have h2:i*2^(m+n+3)<=16*2^(m+n+3):=eE _ hi;have h3:2^(m+n+8)=32*2^(m+n+3):=by rw[show m+n+8=5+(m+n+3)by omega,eU]
  have h4:0<2^(m+n+3):=cO d_;omega
 have go:∀(w:h_) (i:Nat),i<16->ah prog (aa.at w) 62 (.block 3 (ag f97 3)) (UL i (co g)) (Iy i (co f) (j6 (co f) (co g) i)) (nx i) ⟨.normal,[],Iy i (co f) (j6 (co f) (co g) (i+1)),nx i+2⟩:=λw i hi=>
  aKV i hi ca cb (hs i o_) o_ o_
 have UN:∀(w:h_),ah prog (aa.at w) 62 (.block 3 (ag f97 3)) (UL 0 (co g)) [(3,.aK [.bool false,.string ⟨#[]⟩,.bool false,.string ⟨#[]⟩,.bool false,.string ⟨#[]⟩,.bool false,.string ⟨#[]⟩] 31),(m7 0,.aK (bO (co f 0)).cs 30)] (nx 0)
   ⟨.normal,[],Iy 0 (co f) (j6 (co f) (co g) 1),nx 0+2⟩:=λw=>by
  have h:=go w 0 o_;have e:Iy 0 (co f) (j6 (co f) (co g) 0)=[(3,.aK [.bool false,.string ⟨#[]⟩,.bool false,.string ⟨#[]⟩,.bool false,.string ⟨#[]⟩,.bool false,.string ⟨#[]⟩] 31),(m7 0,.aK (bO (co f 0)).cs 30)]:=by show[(3,Obj.aK (ic (λ_=>0)) 31),(m7 0,.aK (bO (co f 0)).cs 30)]=_;rw[aBy]
  rw[e]at h;exact h
 generalize j6 (co f) (co g)=c at *;exact eY mixed func97 200 (λw=>[.code 3 _ _ _ _ _ (UN w),.code 3 _ _ _ _ _ (go w 1 o_),.code 3 _ _ _ _ _ (go w 2 o_),.code 3 _ _ _ _ _ (go w 3 o_),.code 3 _ _ _ _ _ (go w 4 o_),.code 3 _ _ _ _ _ (go w 5 o_),.code 3 _ _ _ _ _ (go w 6 o_),.code 3 _ _ _ _ _ (go w 7 o_),.code 3 _ _ _ _ _ (go w 8 o_),.code 3 _ _ _ _ _ (go w 9 o_),.code 3 _ _ _ _ _ (go w 10 o_),.code 3 _ _ _ _ _ (go w 11 o_),.code 3 _ _ _ _ _ (go w 12 o_),.code 3 _ _ _ _ _ (go w 13 o_),.code 3 _ _ _ _ _ (go w 14 o_),.code 3 _ _ _ _ _ (go w 15 o_),md.at 60,hl.at 61]) (λ_=>k_) k_ k_
theorem IA{y:K}{n:Nat}(hx:Sz m x)(hy:Sz n y)(cQ:m+n+8<=aE):aG prog 97 [bX x,bX y] (bX (x*y)):=by
 have e:bX (x*y)=iz (ep (bW x) (bW y)).low:=by unfold bX du;rw[Ux];rfl
 rw[e];exact aKW hx hy (by have:=(kU x).pos;omega) (by have:=(kU y).pos;omega) cQ
theorem nE{y:K}{n:Nat}(hx:Sz m x)(hy:Sz n y)(cQ:m+n+8<=aE):aG prog 52 [bX x,bX y] (bX (x*y)):=
 bC func52 (λ_=>[(kV hx o_).at 6,(kV hy o_).at 10,(IA hx hy cQ).at 16])
theorem aKX:aG prog 96 [bX x,vI 2] (bX (nD x)):=by
 have e:bX (nD x)=iz (xU (bW x)):=by unfold bX du;rw[aBu];rfl
 rw[e];exact bC func96 (λ_=>[(oJ (bW x).c).at 18,(oJ (bW x).e).at 18])
theorem aKY:aG prog 96 [bX x,vI 1] (bX (mo x)):=by
 have e:bX (mo x)=iz (xV (bW x)):=by unfold bX du;rw[aBv];rfl
 rw[e];exact bC func96 (λ_=>[(oJ (bW x).b).at 18,(oJ (bW x).e).at 18])
theorem aKZ:kI 0=0:=rfl
theorem IB{y:K}{n:Nat}(h:y≠0)(hx:Sz m x)(hy:Sz n y)(cQ:m+7*n+40<=aE):aG prog 44 [bX x,bX y] (.tuple #[bX (x*y⁻¹),.int .i64 0]):=by
 have h1:Sz (n+n+4) (two y):=hy.mul hy.nD;have h2:Sz (n+n+4+(n+n+4)+4) (rP y):=h1.mul h1.mo;have h3:=Sz.inv h hy;have d1:=IA hy hy.nD o_;have d2:=IA h1 h1.mo o_;have d3:=IA hx hy.nD o_;have d4:=IA h1.mo h3 o_;have d5:=IA (hx.mul hy.nD) (h1.mo.mul h3) o_;rw[aBx h]at d5;have hi:=DQ (c:=co (oK y)) (d:=(oK y).d) (n:=n+n+4+(n+n+4)+4) (O6 h) (by obtain⟨a1,a2,a3,a4,a5⟩:=h2;have hp:0<2^(n+n+4+(n+n+4)+4):=cO d_;exact⟨a5,hp,hp,hp,a1⟩) o_
 have e:pq (co (oK y)) (oK y).d=oK y:=rfl;have e2:iz (oK y).low=bX (oK y).val:=by unfold bX du;rw[FT (O6 h)];rfl
 rw[e,e2]at hi;have e3:pV (co (oK y))=.agg #[.bool (bO (bW (rP y)).d).neg,.string (BA (bO (bW (rP y)).d).bo),.bool false,.string ⟨#[]⟩,.bool false,.string ⟨#[]⟩,.bool false,.string ⟨#[]⟩]:=by show Value.agg #[.bool (bO (bW (rP y)).d).neg,.string (BA (bO (bW (rP y)).d).bo),.bool (bO 0).neg,.string (BA (bO 0).bo),.bool (bO 0).neg,.string (BA (bO 0).bo),.bool (bO 0).neg,.string (BA (bO 0).bo)]=_;rw[DR];rfl
 rw[e3]at hi;have e4:(oK y).d=(bW (rP y)).a:=rfl;rw[e4]at hi;have z:=rO (z:=0) d_;have zs:Sz 1 (kI 0):=pr d_ o_;have ne:du y≠du (kI 0):=λe=>h (by rw[K1 e];rfl);generalize (oK y).val=v at *;exact bC func44 (λ_=>[(kV hx o_).at 13,(kV hy o_).at 17,z.at 23,.step 24 (au f44 24) _ _ _ _ (O3 (neg:=true) k_ (du y) (du (kI 0)) (xT hy o_) (xT zs d_) (b:=false) (by simp;exact ne)),(aKX (x:=y)).at 27,d1.at 30,(aKY (x:=two y)).at 32,d2.at 35,hi.at 42,d3.at 45,d4.at 48,d5.at 49])
theorem aK0(hx:Sz m x)(hm:m<=aE):aG prog 44 [bX x,bX 0] (.tuple #[.agg #[.bool false,.string ⟨#[]⟩,.bool false,.string ⟨#[]⟩,.bool false,.string ⟨#[]⟩,.bool false,.string ⟨#[]⟩,.bool false,.string ⟨#[]⟩],.int .i64 10]):=by have zs:Sz 1 (kI 0):=pr d_ o_;exact bC func44 (λ_=>[(kV hx hm).at 13,(kV (x:=0) zs d_).at 17,(rO (z:=0) d_).at 23,.step 24 (au f44 24) _ _ _ _ (O3 (neg:=true) k_ (du 0) (du (kI 0)) (xT zs d_) (xT zs d_) (b:=true) (by simp;rfl))])
theorem UO{a b s:Int}(ha:a.natAbs<=1)(hs:s.natAbs<=1):aG prog 166 [.int .i64 a,.int .i64 b,.int .i64 s] (.int .i64 (um a b s)):=by
 have hw:IntKind.i64.wrap (a*s)=a*s:=by
  have h1:a=-1\/a=0\/a=1:=by omega
  rcases h1 with h1|h1|h1<;>rw[h1,eh]<;>omega
 unfold um;by_cases h1:a=b
 ·rw[aB (.inl h1)];exact bC func166 (λ_=>[.rw 10 (.bool (a==b)) b_ (by rw[h1];simp)])
 ·by_cases h2:b=0
  ·rw[aB (.inr h2)];exact bC func166 (λ_=>[.rw 10 (.bool (a==b)) a_ (by congr 1;simpa using h1),.rw 13 (.bool (b==0)) b_ (by rw[h2];rfl)])
  ·rw[az (λh=>h.elim h1 h2)];by_cases h3:a=0
   ·rw[aB h3];exact bC func166 (λ_=>[.rw 10 (.bool (a==b)) a_ (by congr 1;simpa using h1),.rw 13 (.bool (b==0)) a_ (by congr 1;simpa using h2),.rw 18 (.bool (a==0)) b_ (by rw[h3];rfl)])
   ·rw[az h3];exact bC func166 (λ_=>[.rw 10 (.bool (a==b)) a_ (by congr 1;simpa using h1),.rw 13 (.bool (b==0)) a_ (by congr 1;simpa using h2),.rw 18 (.bool (a==0)) a_ (by congr 1;simpa using h3),.wr 22 .i64 (a*s) (a*s) hw])
theorem F2{k:Int}{x y:Int}{p:Nat}(hk:k.natAbs<2^3)(h1:x.natAbs<2^p)(h2:y.natAbs<2^q)(F1:p+q+3<=aE):aG prog 168 [.int .i64 k,aX x,aX y] (aX (k*(x*y))):=by
 have pW:aE<=1099511627776:=by decide
 exact bC func168 (λ_=>[(lq (z:=k) (mJ hk d_)).at 8,(nB h1 h2 o_ o_).at 11,(nB hk (eV h1 h2) o_ o_).at 12])
theorem IC{k x y:Int}{p:Nat}(hk:k.natAbs<2^3)(h1:x.natAbs<2^p)(h2:y.natAbs<2^q):(k*(x*y)).natAbs<2^(p+q+3):=by have:=eV hk (eV h1 h2);rwa[show 3+(p+q)=p+q+3 by omega]at this
theorem ID{x y:Int}{p:Nat}(h1:x.natAbs<2^p)(h2:y.natAbs<2^p):(x+y).natAbs<2^(p+1):=by have:=aBj x y;rw[dH];omega
theorem O8{x y:Int}{p:Nat}(h1:x.natAbs<2^p)(h2:y.natAbs<2^p):(x-y).natAbs<2^(p+1):=by have:=Int.natAbs_sub_le x y;rw[dH];omega
theorem F3(z:Int):z.sign.natAbs<=1:=by
 rcases OP z 0 with h|h|h
 ·rw[FG h];decide
 ·rw[h];decide
 ·rw[BZ h];decide
theorem UP{x y:Int}{p:Nat}(h1:x.natAbs<2^p)(h2:y.natAbs<2^q)(hp:p+p+3<=aE)(hq:q+q+3<=aE):aG prog 165 [aX x,aX y] (.int .i64 (pU x y)):=by
 have pW:aE<=1099511627776:=by decide
 exact bC func165 (λ_=>[(pR x).at 6,(pR y).at 8,(nB h1 h1 o_ o_).at 11,(F2 (k:=2) d_ h2 h2 o_).at 14,(TZ (eV h1 h1) (IC (k:=2) d_ h2 h2) o_ o_).at 15,(UO (b:=y.sign) (s:=(x*x-2*(y*y)).sign) (F3 x) (F3 _)).at 16])
theorem O9(x y:Int):(pU x y).natAbs<=1:=by
 unfold pU um;have h1:=F3 x;have h2:=F3 y;have h3:=F3 (x*x-2*(y*y));split
 ·exact h1
 ·split
  ·exact h2
  ·rw[xO];exact dh (xB h1 h3) d_
theorem nF{n:Nat}(hx:Sz n x)(hn:4*n+20<=aE):aG prog 122 [bX x] (.int .i64 (OF.aH x)):=by
 have pW:aE<=1099511627776:=by decide
 have hv:=kV hx o_;rw[aBn];obtain⟨x1,x2,x3,x4,x5⟩:=hx;unfold bX du at *;generalize bW x=f at *;have s1:=UP x1 x2 o_ o_;have s2:=UP x3 x4 o_ o_;have t1:=F2 (k:=1) d_ x1 x1 o_;rw[OC]at t1;have t2:=F2 (k:=2) d_ x2 x2 o_;have t3:=F2 (k:=3) d_ x3 x3 o_;have t6:=F2 (k:=6) d_ x4 x4 o_;have z1:(f.a*f.a).natAbs<2^(n+n+3):=cF (eV x1 x1) (di d_ o_);have z2:=IC (k:=2) d_ x2 x2;have z3:=IC (k:=3) d_ x3 x3;have z6:=IC (k:=6) d_ x4 x4;have a1:=zT z1 z2 o_ o_;have a2:=zT z3 z6 o_ o_;have b1:=FJ (ID z1 z2) (ID z3 z6) o_ o_;have u2:=F2 (k:=2) d_ x1 x2 o_;have u6:=F2 (k:=6) d_ x3 x4 o_;have y2:=IC (k:=2) d_ x1 x2;have y6:=IC (k:=6) d_ x3 x4;have b2:=FJ y2 y6 o_ o_;have s3:=UP (O8 (ID z1 z2) (ID z3 z6)) (O8 y2 y6) o_ o_;have xX:=O9 f.a f.b;have UQ:=O9 ((f.a*f.a+2*(f.b*f.b))-(3*(f.c*f.c)+6*(f.e*f.e))) (2*(f.a*f.b)-6*(f.c*f.e));have mx:=UO (b:=pU f.c f.e) xX UQ;have m0:=UO (a:=pU f.a f.b) (b:=pU f.c f.e) (s:=0) xX d_;unfold O0;generalize pU f.a f.b=p at *;generalize pU f.c f.e=q at *;by_cases h:p=q\/q=0\/p=0
 ·have e:um p q (pU ((f.a*f.a+2*(f.b*f.b))-(3*(f.c*f.c)+6*(f.e*f.e))) (2*(f.a*f.b)-6*(f.c*f.e)))=um p q 0:=by
   unfold um;by_cases h1:p=q\/q=0
   ·rw[aB h1,aB h1]
   ·rw[az h1,az h1];have h2:p=0:=by
     rcases h with h|h|h
     ·exact absurd (.inl h) h1
     ·exact absurd (.inr h) h1
     ·exact h
    rw[aB h2,aB h2]
  rw[e];by_cases h1:p=q
  ·exact bC func122 (λ_=>[hv.at 12,s1.at 28,s2.at 31,.rw 34 (.bool (p==q)) b_ (by rw[h1];simp),m0.at 45])
  ·by_cases h2:q=0
   ·exact bC func122 (λ_=>[hv.at 12,s1.at 28,s2.at 31,.rw 34 (.bool (p==q)) a_ (by congr 1;simpa using h1),.rw 37 (.bool (q==0)) b_ (by rw[h2];rfl),m0.at 45])
   ·have h3:p=0:=by
     rcases h with h|h|h
     ·exact absurd h h1
     ·exact absurd h h2
     ·exact h
    exact bC func122 (λ_=>[hv.at 12,s1.at 28,s2.at 31,.rw 34 (.bool (p==q)) a_ (by congr 1;simpa using h1),.rw 37 (.bool (q==0)) a_ (by congr 1;simpa using h2),.rw 41 (.bool (p==0)) b_ (by rw[h3];rfl),m0.at 45])
 ·have h1:p≠q:=λe=>h (.inl e);have h2:q≠0:=λe=>h (.inr (.inl e));have h3:p≠0:=λe=>h (.inr (.inr e));exact bC func122 (λ_=>[hv.at 12,s1.at 28,s2.at 31,.rw 34 (.bool (p==q)) a_ (by congr 1;simpa using h1),.rw 37 (.bool (q==0)) a_ (by congr 1;simpa using h2),.rw 41 (.bool (p==0)) a_ (by congr 1;simpa using h3),t1.at 48,t2.at 51,a1.at 52,t3.at 55,t6.at 58,a2.at 59,b1.at 60,u2.at 63,u6.at 66,b2.at 67,s3.at 72,mx.at 73])
theorem mN{y:K}{n:Nat}(hx:Sz m x)(hy:Sz n y)(cQ:4*(m+n)+24<=aE):aG prog 69 [bX x,bX y] (.int .i64 (OF.aH (x-y))):=
 bC func69 (λ_=>[(Ca hx hy o_).at 7,(nF (hx.sub hy) o_).at 8])
def jb(x:K):K:=if OF.aH x<0 then -x else x
theorem UR{n:Nat}(hx:Sz n x)(hn:4*n+20<=aE):aG prog 239 [bX x] (bX (jb x)):=by
 unfold jb;have n1:=z8 hx o_;have n2:=z8 hx.neg o_;rw[CR.neg_neg]at n2;by_cases h:OF.aH x<0
 ·rw[aB h];exact bC func239 (λ_=>[(nF hx hn).at 4,.rw 5 (.bool (decide (OF.aH x<0))) b_ (by rw[aJ h]),n1.at 7])
 ·rw[az h];exact bC func239 (λ_=>[(nF hx hn).at 4,.rw 5 (.bool (decide (OF.aH x<0))) a_ (by rw[bd h]),n1.at 9,n2.at 10])
theorem aBz{o:Nat}{x:Obj}(h:jV ι w (.at b o cap) x)(hx:x.owns=true):∃ cs ty,w.heap[b]?=some (.cells cs ty (0,0)):=by
 cases x with
 |aK cells ty=>
  obtain⟨b',cr,e,_,h2⟩:=h;injection e with e _ _;subst e;exact⟨_,_,h2⟩
 |row cells ty size=>
  rcases h with ⟨h,_⟩|⟨b',aQ,cur,e,h2,_⟩
  ·cases h
  ·injection e with e _ _;subst e;exact⟨_,_,h2⟩
 |_=>cases hx
def Obj.soft:Obj->Bool
 |.view _=>true
 |.fact F=>!F.rc
 |_=>false
theorem Pa{x:Obj}(h:x.soft=true)(k:x.owns=true):False:=by cases x<;>simp[Obj.soft,Obj.owns]at h k
theorem Pb{F:Fact}(h:(Obj.fact F).soft=true):F.rc=false:=by simpa[Obj.soft]using h
def Else(w:h_)(l:Nat):Prop:=∀ cs ty f,w.heap[l]?≠some (.cells cs ty f)
theorem Pc{l:Nat}{r:Loop}(h:w.heap[l]?=some (.loop r)):Else w l:=λcs ty f e=>by rw[h]at e;cases e
theorem aK1{l:Nat}{r:Option (List Deferred)}(h:w.heap[l]?=some (.deferred r)):Else w l:=λcs ty f e=>by rw[h]at e;cases e
theorem Pd{loc:pI}{x:Obj}{l:Nat}(hl:Else w l)(h:jV ι w loc x)(hx:∀ F,x=.fact F->F.rc=false)(hz:w.heap.size<=w'.heap.size)
  (hs:∀ b o cap,x.owns=true\/x.kh=true->loc=.at b o cap->b=l\/w'.heap[b]?=w.heap[b]?) (hf:∀ F v b,x=.fact F->loc=.val v->F.cW v w b->b=l\/w'.heap[b]?=w.heap[b]?):jV ι w' loc x:=by
 cases x with
 |aK cells ty=>
  obtain⟨b,cr,e,h1,h2⟩:=h;rcases hs b 0 0 (.inl rfl) e with rfl|hb
  ·exact absurd h2 (hl _ _ _)
  ·exact⟨b,cr,e,h1,by rw[hb];exact h2⟩
 |row cells ty size=>
  rcases h with h|⟨b,cap,cur,e,h1,h2⟩
  ·exact .inl h
  ·rcases hs b 0 cap (.inl rfl) e with rfl|hb
   ·exact absurd h1 (hl _ _ _)
   ·exact .inr ⟨b,cap,cur,e,by rw[hb];exact h1,h2⟩
 |view cells=>
  rcases h with h|⟨b,o,cap,cr,e,h1,h2⟩
  ·exact .inl h
  ·rcases hs b o cap (.inr rfl) e with rfl|hb
   ·have:cr=[]:=by
     cases cr with
     |nil=>rfl
     |cons u t=>
      have:=h2 0 u rfl;unfold World.cell? at this;dsimp only at this;split at this
      ·rename_i h3;exact absurd h3 (hl _ _ _)
      ·cases this
    subst this;exact .inr ⟨b,o,cap,[],e,h1,λj u hj=>by cases hj⟩
   ·exact .inr ⟨b,o,cap,cr,e,h1,λj u hj=>by rw[World.cell?_of_block (w:=w) (w':=w') (a:=⟨b,o+j,none⟩) hb];exact h2 j u hj⟩
 |fact F=>
  obtain⟨v,e,h1⟩:=h;refine⟨v,e,(F.soft (hx F rfl) v w w' h1 hz λk hk cs ty f hc=>?_).1⟩;rcases hf F v k rfl e hk with rfl|hb
  ·exact absurd hc (hl _ _ _)
  ·rw[hb];exact hc
 |dead=>trivial
theorem Pe{B1 B2:aa}{c2:g_}{w1 w2:h_}{L:aM}(h:aO B1 ι c w1)(hL:cY c L)(sO:∀ k x,ai L k=some x->κ k=ι k)
  (aK2:∀ k x l,ai L k=some x->ι k=some l->jV ι w1 l x->jV κ w2 l x) (aK3:B2.G w2) (JO:∀ k x b o cap,ai L k=some x->x.owns=true->ι k=some (.at b o cap)->¬B2.cW b)
  (y8:w1.heap.size<=w2.heap.size) (Tp:∀ k,c2 k=none->κ k=none) (dq:∀ k x,c2 k=some x->ai L k=some x\/(x=.dead/\∃ l,κ k=some l)) (Cb:∀ k F,ai L k=some (.fact F)->F.rc=true->B2.Fa F) (F4:∀ k F v b,ai L k=some (.fact F)->ι k=some (.val v)->F.cW v w2 b->F.cW v w1 b)
  (hle:Map.le B2.mp κ):aO B2 κ c2 w2:=by
 have src:∀{k x},c2 k=some x->x≠.dead->c k=some x/\κ k=ι k/\ai L k=some x:=λ{k x} hk hx=>by
  rcases dq k x hk with h1|⟨h1,_⟩
  ·exact⟨hL k x h1,sO k x h1,h1⟩
  ·exact absurd h1 hx
 have nd:∀{x:Obj},x.owns=true->x≠.dead:=λh e=>by subst e;cases h
 have nv:∀{x:Obj},x.kh=true->x≠.dead:=λh e=>by subst e;cases h
 refine⟨aK3,Tp,?_,?_,?_,?_,?_,?_,?_,hle⟩
 ·intro k x hk;rcases dq k x hk with h1|⟨rfl,l,hl⟩
  ·obtain⟨l,e1,e2⟩:=h.born k x (hL k x h1);exact⟨l,(sO k x h1).trans e1,aK2 k x l h1 e1 e2⟩
  ·exact⟨l,hl,trivial⟩
 ·intro k x b o cap hk hx hl;obtain⟨q1,q2,q3⟩:=src hk (nd hx);rw[q2]at hl;exact⟨cF (h.own k x b o cap q1 hx hl).1 y8,JO k x b o cap q3 hx hl⟩
 ·intro k j x y b o cap o' aQ hk hx hj hy hl cA;obtain⟨q1,q2,_⟩:=src hk (nd hx);obtain⟨p1,p2,_⟩:=src hj (nd hy);exact h.inj k j x y b o cap o' aQ q1 hx p1 hy (q2▸hl) (p2▸cA)
 ·intro k j x F b o cap v hk hx hl hj hv;obtain⟨q1,q2,_⟩:=src hk (nd hx);obtain⟨p1,p2,p3⟩:=src hj n_;intro hF;exact h.apart k j x F b o cap v q1 hx (q2▸hl) p1 (p2▸hv) (F4 j F v b p3 (p2▸hv) hF)
 ·intro k x b o cap hk hx hl;obtain⟨q1,q2,_⟩:=src hk (nv hx);obtain⟨s1,s2⟩:=h.seen k x b o cap q1 hx (q2▸hl);refine⟨cF s1 y8,λj y o' aQ hj hy hm=>?_⟩;obtain⟨p1,p2,_⟩:=src hj (nd hy);exact s2 j y o' aQ p1 hy (p2▸hm)
 ·intro j F hj;exact Cb j F (src hj n_).2.2
 ·intro j k F F' hj hk;exact h.one j k F F' (src hj n_).1 (src hk n_).1
def fJ(l:Nat)(r:Loop):Fact where
 G _ W:=W.heap[l]?=some (.loop r)
 cW _ _ k:=k=l
 lt _ w k h hk:=by subst hk;exact(zt.1 h).1
 dep _ w w' h _ hk:=⟨(hk l rfl).trans h,λk h=>h⟩
 rc:=true
 soft h:=by cases h
def kW(W1:h_)(l:Nat)(S:Nat->Prop)(m:Map):aa where
 G W:=tT W1 W/\W.tape=W1.tape/\W.output=W1.output/\W1.heap.size<=W.heap.size/\∀ k,k<W1.heap.size->¬S k->k≠l->W.heap[k]?=W1.heap[k]?
 cW k:=k<W1.heap.size/\¬S k/\k≠l
 Fa F:=∃ r,F=fJ l r
 mp:=m
 lt w k h hk:=cF hk.1 h.2.2.2.1
 dep w w' h h1 h2 h3 h4 h5:=⟨h1.trans h.1,h2.trans h.2.1,h3.trans h.2.2.1,dh h.2.2.2.1 h4,λk hk hS hl=>(h5 k ⟨hk,hS,hl⟩).trans (h.2.2.2.2 k hk hS hl)⟩
section
variable{W1 W:h_}{l g:Nat}{S:Nat->Prop}{m ι:Map}{c:g_}{r r':Loop}
theorem Cc(h:aO B ι c W)(hg:c g=some (.fact (fJ l r))):W.heap[l]?=some (.loop r):=by obtain⟨lc,hl,v,_,hr⟩:=h.born g _ hg;exact hr
theorem aBA(h:aO (kW W1 l S m) ι c W)(hg:c g=some (.fact (fJ l r))):aO (kW W1 l S m) ι (bt c g (.fact (fJ l r'))) (W.putObj l (.loop r')):=by
 have hr:=Cc h hg;have al:=(zt.1 hr).1;have tg:=Pc hr;have ne:∀ b,b≠l->(W.putObj l (.loop r')).heap[b]?=W.heap[b]?:=λb hb=>aBB hb;have da:∀ j y,j≠g->bt c g (.fact (fJ l r')) j=some y->c j=some y:=λj y hj e=>by unfold bt at e;rw[az hj]at e;exact e
 have new:∀ y,bt c g (.fact (fJ l r')) g=some y->y=.fact (fJ l r'):=λy e=>by unfold bt at e;rw[aB rfl]at e;injection e with e;exact e.symm
 have nf:∀ j y,j≠g->c j=some y->∀ F,y=.fact F->F.rc=false:=λj y hj e F e2=>by
  subst e2;cases hr:F.rc with
  |false=>rfl
  |true=>exact absurd (h.one j g F _ e hg hr rfl) hj
 have og:∀ j y,bt c g (.fact (fJ l r')) j=some y->y.owns=true\/y.kh=true->c j=some y:=λj y e hy=>by
  by_cases hj:j=g
  ·subst hj;rw[new y e]at hy;rcases hy with hy|hy<;>cases hy
  ·exact da j y hj e
 refine⟨⟨h.base.1,h.base.2.1,h.base.2.2.1,by rw[vt];exact h.base.2.2.2.1,λk hk hS hl=>(ne k hl).trans (h.base.2.2.2.2 k hk hS hl)⟩,?_,?_,?_,?_,?_,?_,?_,?_,h.oT⟩
 ·intro j hj;unfold bt at hj;by_cases lM:j=g
  ·rw[aB lM]at hj;cases hj
  ·rw[az lM]at hj;exact h.dE j hj
 ·intro j y hj;by_cases lM:j=g
  ·subst lM;rw[new y hj];obtain⟨lc,hl,v,e,_⟩:=h.born j _ hg;exact⟨lc,hl,v,e,World.putObj_heap_same al⟩
  ·have hc:=da j y lM hj;obtain⟨lc,hl,ho⟩:=h.born j y hc;exact⟨lc,hl,Pd tg ho (nf j y lM hc) (by rw[vt];exact bF _) (λb o cap _ _=>(Nat.decEq b l).casesOn (λhb=>.inr (ne b hb)) λhb=>.inl hb) λF v b _ _ _=>(Nat.decEq b l).casesOn (λhb=>.inr (ne b hb)) λhb=>.inl hb⟩
 ·intro k x b o cap hk hx hl;rw[vt];exact h.own k x b o cap (og k x hk (.inl hx)) hx hl
 ·intro k j x y b o cap o' aQ hk hx hj hy;exact h.inj k j x y b o cap o' aQ (og k x hk (.inl hx)) hx (og j y hj (.inl hy)) hy
 ·intro k j x F b o cap v hk hx hl hj hv hF;have gL:=og k x hk (.inl hx);by_cases lM:j=g
  ·subst lM;have e:=new _ hj;injection e with e;subst e;exact h.apart k j x _ b o cap v gL hx hl hg hv hF
  ·have fY:=da j _ lM hj;obtain⟨lc,q1,v',q2,q3⟩:=h.born j _ fY;rw[hv]at q1;injection q1 with q1;subst q1;injection q2 with q2;subst q2;refine h.apart k j x F b o cap v gL hx hl fY hv ((F.soft (nf j _ lM fY F rfl) v W _ q3 (by rw[vt];exact bF _) λk2 fO cs ty f hc=>?_).2 b hF);rw[ne k2 (λe=>by subst e;exact tg _ _ _ hc)];exact hc
 ·intro k x b o cap hk hx hl;rw[vt];obtain⟨q1,q2⟩:=h.seen k x b o cap (og k x hk (.inr hx)) hx hl;exact⟨q1,λj y o' aQ hj hy=>q2 j y o' aQ (og j y hj (.inl hy)) hy⟩
 ·intro j F hj;by_cases lM:j=g
  ·subst lM;have e:=new _ hj;injection e with e;exact λ_=>⟨r',e⟩
  ·exact h.fa j F (da j _ lM hj)
 ·intro j k F F' hj hk hr sD;by_cases lM:j=g
  ·by_cases mz:k=g
   ·rw[lM,mz]
   ·have:=nf k _ mz (da k _ mz hk) F' rfl;rw[sD]at this;cases this
  ·have:=nf j _ lM (da j _ lM hj) F rfl;rw[hr]at this;cases this
end
section
variable{P:j_}{W1 W W4:h_}{l g next:Nat}{S:Nat->Prop}{m ι:Map}{c:g_}{r r2:Loop}
def wz(ι:Map)(next:Nat):Map:=λk=>if k<next then ι k else none
def pv(c:g_)(next:Nat)(L:aM):g_:=λk=>if k<next then(match ai L k with|some x=>some x|none=>(c k).map λ_=>.dead)else none
theorem xY(h:k<next):wz ι next k=ι k:=by unfold wz;rw[aB h]
theorem aK4(h:aO (kW W1 l S m) ι c W)(hg:c g=some (.fact (fJ l r)))(US:g<next){L:aM}(hL:cY c L)(F5:ai L g=none)(dG:∀ k x,ai L k=some x->k<next/\fE next x)
  (qj:∀ k F,ai L k=some (.fact F)->F.rc=false) (hS:∀ k x b o cap,ai L k=some x->x.owns=true->ι k=some (.at b o cap)->S b) :
  aO (kW W l S (wz ι next)) (wz ι next) (pv c next ((g,.fact (fJ l r))::L)) W/\cY (pv c next ((g,.fact (fJ l r))::L)) L/\pv c next ((g,.fact (fJ l r))::L) g=some (.fact (fJ l r))/\eK (pv c next ((g,.fact (fJ l r))::L)) next:=by
 have hr:=Cc h hg;have UT:∀ k,ai ((g,.fact (fJ l r))::L) k=if g=k then some (.fact (fJ l r))else ai L k:=λk=>by
  show(if Nat.beq g k then _ else _)=_;by_cases e:g=k
  ·subst e;simp
  ·rw[az e,oA e];rfl
 have jr:∀ k x,ai ((g,.fact (fJ l r))::L) k=some x->k<next/\c k=some x/\(x=.fact (fJ l r)/\k=g\/ai L k=some x):=λk x e=>by
  rw[UT]at e;by_cases hk:g=k
  ·subst hk;rw[aB rfl]at e;injection e with e;subst e;exact⟨US,hg,.inl ⟨rfl,rfl⟩⟩
  ·rw[az hk]at e;exact⟨(dG k x e).1,hL k x e,.inr e⟩
 refine⟨Pe (L:=(g,.fact (fJ l r))::L) h (λk x e=>(jr k x e).2.1) (λk x e=>xY (jr k x e).1) (λk x lc e _ ho=>?_) ⟨.refl _,rfl,rfl,bF _,λ_ _ _ _=>rfl⟩ (λk x b o cap e hx hb hF=>?_) (bF _) (λk e=>?_) (λk x e=>?_) (λk F e=>?_) (λ_ _ _ _ _ _ h=>h) (Map.le.refl _),λk x e=>?_,?_,λk hk=>?_⟩
 ·rcases(jr k x e).2.2 with ⟨rfl,_⟩|e
  ·exact ho
  ·exact ho.below (λk hk l e=>by rw[xY hk];exact e) (dG k x e).2
 ·rcases(jr k x e).2.2 with ⟨rfl,_⟩|e
  ·cases hx
  ·exact hF.2.1 (hS k x b o cap e hx hb)
 ·unfold pv at e;unfold wz;split at e
  ·rename_i hk;rw[aB hk];split at e
   ·cases e
   ·cases hc:c k with
    |none=>exact h.dE k hc
    |some x=>rw[hc]at e;cases e
  ·rename_i hk;rw[az hk]
 ·unfold pv at e;split at e
  ·rename_i hk;split at e
   ·rename_i y hy;injection e with e;subst e;exact .inl hy
   ·cases hc:c k with
    |none=>rw[hc]at e;cases e
    |some y=>
     rw[hc]at e;injection e with e;obtain⟨lc,q,_⟩:=h.born k y hc;exact .inr ⟨e.symm,lc,by rw[xY hk];exact q⟩
  ·cases e
 ·rcases(jr k _ e).2.2 with ⟨e,_⟩|e
  ·injection e with e;exact λ_=>⟨r,e⟩
  ·exact λhr=>by rw[qj k F e]at hr;cases hr
 ·unfold pv;rw[aB (dG k x e).1,UT,az (λh=>by subst h;rw[F5]at e;cases e),e]
 ·unfold pv;rw[aB US,UT,aB rfl]
 ·unfold pv;rw[az o_]
theorem aK5(h:aO (kW W1 l S m) ι c W)(hg:c g=some (.fact (fJ l r)))(hO:cY c Os)(UU:ai Os g=none)(dY:∀ k x,ai Os k=some x->x.owns=true)(th:∀ k x,ai cz k=some x->x.owns=true)
  (km:∀ k,ai cz k=none↔ai Os k=none) (hS:∀ b,S b->∃ k x o cap,ai Os k=some x/\ι k=some (.at b o cap)) (jX:∀ k x,ai cz k=some x->fE next x)
  {aA:Map} {c':g_} {aK6:Map} (hm:aO (kW W l S aK6) aA c' W4) (Pf:c' g=some (.fact (fJ l r2))) (ti:cY c' cz) (dG:∀ k,k<next->∀ lc,aA k=some lc->ι k=some lc)
  (US:g<next) (oF:∀ k x,ai cz k=some x->k<next):aO (kW W1 l S m) ι (lZ c ((g,.fact (fJ l r2))::cz)) W4:=by
 have hr:=Cc h hg;have hr4:=Cc hm Pf;have tg:=Pc hr;have aK7:=Pc hr4;have bH:W.heap.size<=W4.heap.size:=hm.base.2.2.2.1;have aK:∀ b,b<W.heap.size->¬S b->b≠l->W4.heap[b]?=W.heap[b]?:=hm.base.2.2.2.2
 -- xP kinds of marks
 have kinds:∀ k x,lZ c ((g,.fact (fJ l r2))::cz) k=some x->(k=g/\x=.fact (fJ l r2))\/(k≠g/\ai cz k=some x/\c' k=some x/\x.owns=true)\/(k≠g/\ai Os k=none/\c k=some x/\∀ F,x=.fact F->F.rc=false):=λk x e=>by
  rw[vX]at e;by_cases hk:k=g
  ·subst hk;have:ai ((k,Obj.fact (fJ l r2))::cz) k=some (.fact (fJ l r2)):=by show(if Nat.beq k k then _ else _)=_;simp
   rw[this]at e;injection e with e;exact .inl ⟨rfl,e.symm⟩
  ·have:ai ((g,Obj.fact (fJ l r2))::cz) k=ai cz k:=by show(if Nat.beq g k then _ else _)=_;rw[oA (kO hk)];rfl
   rw[this]at e;cases ho:ai cz k with
   |some y=>rw[ho]at e;injection e with e;subst e;exact .inr (.inl ⟨hk,rfl,ti k y ho,th k y ho⟩)
   |none=>
    rw[ho]at e;refine .inr (.inr ⟨hk,(km k).1 ho,e,λF ef=>?_⟩);subst ef;cases hr:F.rc with
    |false=>rfl
    |true=>exact absurd (h.one k g F _ e hg hr rfl) hk
 -- the map is the same at the marks of the list
 have same:∀ k x,ai cz k=some x->aA k=ι k:=λk x e=>by obtain⟨lc,q,_⟩:=hm.born k x (ti k x e);rw[q,dG k (oF k x e) lc q]
 have DS:∀ k x b o cap,ai Os k=none->c k=some x->x.owns=true->ι k=some (.at b o cap)->¬S b:=λk x b o cap hn hc hx hl hs=>by obtain⟨k',x',o',aQ,e1,e2⟩:=hS b hs;have:=h.inj k k' x x' b o cap o' aQ hc hx (hO k' x' e1) (dY k' x' e1) hl e2;subst this;rw[hn]at e1;cases e1
 have DT:∀ k x b o cap,c k=some x->x.kh=true->ι k=some (.at b o cap)->¬S b:=λk x b o cap hc hx hl hs=>by obtain⟨k',x',o',aQ,e1,e2⟩:=hS b hs;exact(h.seen k x b o cap hc hx hl).2 k' x' o' aQ (hO k' x' e1) (dY k' x' e1) e2
 have xZ:∀ k F v b,c k=some (.fact F)->ι k=some (.val v)->F.cW v W b->¬S b:=λk F v b hc hl hF hs=>by obtain⟨k',x',o',aQ,e1,e2⟩:=hS b hs;exact h.apart k' k x' F b o' aQ v (hO k' x' e1) (dY k' x' e1) e2 hc hl hF
 have aBC:∀ k x b o cap,c k=some x->x.owns=true->ι k=some (.at b o cap)->b≠l:=λk x b o cap hc hx hl e=>by obtain⟨lc,q1,q2⟩:=h.born k x hc;rw[hl]at q1;injection q1 with q1;subst q1;obtain⟨cs,ty,q⟩:=aBz q2 hx;subst e;exact tg _ _ _ q
 have UW:∀ k x b o cap,c' k=some x->x.owns=true->aA k=some (.at b o cap)->b≠l:=λk x b o cap hc hx hl e=>by obtain⟨lc,q1,q2⟩:=hm.born k x hc;rw[hl]at q1;injection q1 with q1;subst q1;obtain⟨cs,ty,q⟩:=aBz q2 hx;subst e;exact aK7 _ _ _ q
 -- a block of the aVY is none of the aVZ
 have part:∀ k x b o cap j y o' aQ,ai cz k=some x->ι k=some (.at b o cap)->ai Os j=none->c j=some y->y.owns=true->ι j=some (.at b o' aQ)->False:=λk x b o cap j y o' aQ hk hl hj hc hy cA=>by
  rcases e9 b W.heap.size with al|ga
  ·have hx:=th k x hk;have q:=(hm.own k x b o cap (ti k x hk) hx (by rw[same k x hk];exact hl)).2;have h1:=DS j y b o' aQ hj hc hy cA;have h2:=aBC j y b o' aQ hc hy cA;exact q ⟨al,h1,h2⟩
  ·have:=(h.own j y b o' aQ hc hy cA).1;omega
 refine⟨?_,?_,?_,?_,?_,?_,?_,?_,?_,h.oT⟩
 ·refine⟨hm.base.1.trans h.base.1,hm.base.2.1.trans h.base.2.1,hm.base.2.2.1.trans h.base.2.2.1,dh h.base.2.2.2.1 bH,λk hk hs hl=>?_⟩;exact(aK k (cF hk h.base.2.2.2.1) hs hl).trans (h.base.2.2.2.2 k hk hs hl)
 ·intro k hk;rw[vX]at hk;cases ho:ai ((g,Obj.fact (fJ l r2))::cz) k with
  |some y=>rw[ho]at hk;cases hk
  |none=>rw[ho]at hk;exact h.dE k hk
 ·intro k x hk;rcases kinds k x hk with ⟨rfl,rfl⟩|⟨mz,h1,h2,h3⟩|⟨mz,h1,h2,h3⟩
  ·obtain⟨lc,q1,v,q2,_⟩:=h.born k _ hg;exact⟨lc,q1,v,q2,hr4⟩
  ·obtain⟨lc,q1,q2⟩:=hm.born k x h2;exact⟨lc,by rw[<-same k x h1];exact q1,q2.below dG (jX k x h1)⟩
  ·obtain⟨lc,q1,q2⟩:=h.born k x h2;refine⟨lc,q1,Pd tg q2 h3 bH (λb o cap hx e=>?_) λF v b e1 e2 hF=>?_⟩;rotate_left
   ·by_cases gn:b=l
    ·exact .inl gn
    ·subst e1;subst e2;exact .inr (aK b (q2.xb rfl hF) (xZ k F v b h2 q1 hF) gn)
   by_cases gn:b=l
   ·exact .inl gn
   ·right;subst e;rcases hx with hx|hx
    ·exact aK b (h.own k x b o cap h2 hx q1).1 (DS k x b o cap h1 h2 hx q1) gn
    ·exact aK b (h.seen k x b o cap h2 hx q1).1 (DT k x b o cap h2 hx q1) gn
 ·intro k x b o cap hk hx hl;rcases kinds k x hk with ⟨rfl,rfl⟩|⟨mz,h1,h2,h3⟩|⟨mz,h1,h2,h3⟩
  ·cases hx
  ·obtain⟨q1,q2⟩:=hm.own k x b o cap h2 hx (by rw[same k x h1];exact hl);exact⟨q1,λhF=>q2 ⟨cF hF.1 h.base.2.2.2.1,hF.2⟩⟩
  ·obtain⟨q1,q2⟩:=h.own k x b o cap h2 hx hl;exact⟨cF q1 bH,q2⟩
 ·intro k j x y b o cap o' aQ hk hx hj hy hl cA;rcases kinds k x hk with ⟨rfl,rfl⟩|⟨mz,h1,h2,h3⟩|⟨mz,h1,h2,h3⟩
  ·cases hx
  ·rcases kinds j y hj with ⟨rfl,rfl⟩|⟨lM,p1,p2,p3⟩|⟨lM,p1,p2,p3⟩
   ·cases hy
   ·exact hm.inj k j x y b o cap o' aQ h2 hx p2 hy (by rw[same k x h1];exact hl) (by rw[same j y p1];exact cA)
   ·exact(part k x b o cap j y o' aQ h1 hl p1 p2 hy cA).elim
  ·rcases kinds j y hj with ⟨rfl,rfl⟩|⟨lM,p1,p2,p3⟩|⟨lM,p1,p2,p3⟩
   ·cases hy
   ·exact(part j y b o' aQ k x o cap p1 cA h1 h2 hx hl).elim
   ·exact h.inj k j x y b o cap o' aQ h2 hx p2 hy hl cA
 ·intro k j x F b o cap v hk hx hl hj hv hF;rcases kinds j _ hj with ⟨rfl,e⟩|⟨lM,p1,p2,p3⟩|⟨lM,p1,p2,p3⟩
  ·injection e with e;subst e;have wB:b=l:=hF;rcases kinds k x hk with ⟨rfl,rfl⟩|⟨mz,h1,h2,h3⟩|⟨mz,h1,h2,h3⟩
   ·cases hx
   ·exact UW k x b o cap h2 hx (by rw[same k x h1];exact hl) wB
   ·exact aBC k x b o cap h2 hx hl wB
  ·cases p3
  ·have hF:F.cW v W b:=by obtain⟨lc,q1,v',q2,q3⟩:=h.born j _ p2;rw[hv]at q1;injection q1 with q1;subst q1;injection q2 with q2;subst q2;refine(F.soft (p3 F rfl) v W W4 q3 bH λk2 fO cs ty f hc=>?_).2 b hF;rw[aK k2 (F.lt v W k2 q3 fO) (xZ j F v k2 p2 hv fO) (λe=>by subst e;exact tg _ _ _ hc)];exact hc
   rcases kinds k x hk with ⟨rfl,rfl⟩|⟨mz,h1,h2,h3⟩|⟨mz,h1,h2,h3⟩
   ·cases hx
   ·have cA:aA k=some (.at b o cap):=by rw[same k x h1];exact hl
    have hb:b<W.heap.size:=by obtain⟨lc,q1,q2⟩:=h.born j _ p2;rw[hv]at q1;injection q1 with q1;subst q1;exact q2.xb rfl hF
    exact(hm.own k x b o cap h2 hx cA).2 ⟨hb,xZ j F v b p2 hv hF,UW k x b o cap h2 hx cA⟩
   ·exact h.apart k j x F b o cap v h2 hx hl p2 hv hF
 ·intro k x b o cap hk hx hl;rcases kinds k x hk with ⟨rfl,rfl⟩|⟨mz,h1,h2,h3⟩|⟨mz,h1,h2,h3⟩
  ·cases hx
  ·cases x<;>simp[Obj.owns,Obj.kh]at h3 hx
  ·obtain⟨q1,q2⟩:=h.seen k x b o cap h2 hx hl;refine⟨cF q1 bH,λj y o' aQ hj hy cA=>?_⟩;rcases kinds j y hj with ⟨rfl,rfl⟩|⟨lM,p1,p2,p3⟩|⟨lM,p1,p2,p3⟩
   ·cases hy
   ·have jr:aA j=some (.at b o' aQ):=by rw[same j y p1];exact cA
    exact(hm.own j y b o' aQ p2 hy jr).2 ⟨q1,DT k x b o cap h2 hx hl,UW j y b o' aQ p2 hy jr⟩
   ·exact q2 j y o' aQ p2 hy cA
 ·intro j F hj;rcases kinds j _ hj with ⟨_,e⟩|⟨_,_,_,h3⟩|⟨_,_,_,h3⟩
  ·injection e with e;exact λ_=>⟨r2,e⟩
  ·cases h3
  ·exact λhr=>by rw[h3 F rfl]at hr;cases hr
 ·intro j k F F' hj hk hr sD;rcases kinds j _ hj with ⟨e1,_⟩|⟨_,_,_,h3⟩|⟨_,_,_,h3⟩
  ·rcases kinds k _ hk with ⟨e2,_⟩|⟨_,_,_,h3⟩|⟨_,_,_,h3⟩
   ·rw[e1,e2]
   ·cases h3
   ·rw[h3 F' rfl]at sD;cases sD
  ·cases h3
  ·rw[h3 F rfl]at hr;cases hr
end
def Pg:aT->aT->aT
 |[],fr=>fr
 |p::l,fr=>Pg l (p::fr)
theorem aBD{m:Map}{N:Nat}:∀(l:aT) {fr:aT} {T:p_},T.size=N->(∀ t,nO m (bK fr t) (T.getD t undef))->(∀ p∈l,p.1<N/\flat p.2=true)->
  (l.foldl (λt p=>t.setIfInBounds p.1 p.2) T).size=N/\∀ t,nO m (bK (Pg l fr) t) ((l.foldl (λt p=>t.setIfInBounds p.1 p.2) T).getD t undef)
 |[],fr,T,hT,h,_=>⟨hT,h⟩
 |(p,v)::l,fr,T,hT,h,hl=>by
  obtain⟨h1,h2⟩:=hl (p,v) (aR ..);dsimp only at h1 h2;refine aBD l (fr:=(p,v)::fr) (T:=T.setIfInBounds p v) (by simpa using hT) (λt=>?_) λq hq=>hl q (bI _ hq);by_cases e:p=t
  ·subst e;have e1:bK ((p,v)::fr) p=v:=by simp[bK]
   have e2:(T.setIfInBounds p v).getD p undef=v:=by rw[qv,Array.getElem?_setIfInBounds_self_of_lt o_];rfl
   rw[e1,e2];exact .inr (.same h2)
  ·have e1:bK ((p,v)::fr) t=bK fr t:=by show(if Nat.beq p t then _ else _)=_;rw[oA e];rfl
   have e2:(T.setIfInBounds p v).getD t undef=T.getD t undef:=by rw[qv,qv,Sp e]
   rw[e1,e2];exact h t
def exJ:Ex->Option Code
 |.normal=>none
 |.ret=>some .ret
 |.exit id=>some (.exit id)
def j7(cT:FuncId)(T:p_)(ps:Array Tmp)(gU fA:Code)(D:Nat):Loop:={ state:=.ready,pending:=none,fn:=cT,tmps:=T,params:=ps,assign:=gU,body:=fA,defers:=D }
def DU(r:Loop)(j:Option Code):Loop:={ r with state:=if j.isNone then .ready else .done,pending:=j }
section
variable{P:j_}{W1:h_}{l g next N D:Nat}{S:Nat->Prop}{m:Map}
theorem Ph{L:aM}(h:∀ p∈L.map (λp=>(p.1,some p.2)),c p.1=p.2):cY c L:=λk x e=>h (k,some x) (db.2 ⟨(k,x),kE e,rfl⟩)
structure IE(P:j_)(next N:Nat)(ps:Array Tmp)(gU fA:Code)(fr:aT)(Os Vs cz:aM)(eW:ak)(j:Option Code):Prop where
 flat:∀ v∈eW,flat v=true
 len:eW.length=ps.size
 jh:∀ p∈ps,p<N
 low:∀ k x,ai (Os++Vs) k=some x->k<next/\fE (next+1) x
 aBE:∀ k x,ai cz k=some x->fE (next+1) x
 own:∀ k x,ai Os k=some x->x.owns=true
 aBF:∀ k x,ai cz k=some x->x.owns=true
 view:∀ k x,ai Vs k=some x->x.soft=true
 keys:∀ k,ai cz k=none↔ai Os k=none
 run:∃ rA rB:mF,(∀ B,ah P B N gU (Pg (ps.toList.zip eW) fr) (Os++Vs) (next+1) rA)/\rA.ex=.normal/\next+1<=rA.next/\ai rA.M next=none/\
  (∀ B,ah P B N fA rA.fr rA.M rA.next rB)/\(∀ k x,ai cz k=some x->ai rB.M k=some x)/\exJ rB.ex=j
theorem K7{ps:Array Tmp}{gU fA:Code}{j:Option Code}(aC:IE P next N ps gU fA fr Os Vs cz eW j)
  {o:Oper} {x:m_} (ho:dF o.op=some x) {T:p_} {cT:FuncId} (hT:T.size=N) (hTs:∀ t,nO m (bK fr t) (T.getD t undef)) (cQ:∀ k lc,m k=some lc->k<next)
  (hS:∀ b,S b↔∃ k x o cap,ai Os k=some x/\m k=some (.at b o cap)) (hSm:∀ k x,ai Os k=some x->m k≠none) :
  cI P (kW W1 l S m) o (.func (.yield l) #[] #[]::eW) ((next,some (.fact (fJ l (j7 cT T ps gU fA D))))::(Os++Vs).map (λp=>(p.1,some p.2))) (.bool j.isNone)
   ((next,.fact (fJ l (DU (j7 cT T ps gU fA D) j)))::cz):=by
 intro R ι c a w hv hm hn K Q hK;obtain⟨rA,rB,hA,UX,hAn,Pj,hB,UY,UZ⟩:=aC.run;have hg:c next=some (.fact (fJ l (j7 cT T ps gU fA D))):=hn (next,_) (aR ..);have hL:cY c (Os++Vs):=Ph λp hp=>hn p (bI _ hp);have hO:cY c Os:=λk x e=>hL k x (by rw[iE,e]);have F5:ai (Os++Vs) next=none:=by
  cases e:ai (Os++Vs) next with
  |none=>rfl
  |some x=>have:=(aC.low _ _ e).1;omega
 have UU:ai Os next=none:=by
  rw[iE]at F5;cases e:ai Os next with
  |none=>rfl
  |some x=>rw[e]at F5;cases F5
 have aK8:ai cz next=none:=(aC.keys next).2 UU;have Pk:∀ k x,ai (Os++Vs) k=some x->x.owns=true->ai Os k=some x:=λk x e hx=>by
  rw[iE]at e;cases e1:ai Os k with
  |some y=>rw[e1]at e;exact e
  |none=>
   rw[e1]at e;exact(Pa (aC.view k x e) hx).elim
 have hr:=Cc hm hg;obtain⟨dst,op,ty,pos,after,guard⟩:=o;dsimp only at ho hv;unfold dF at ho;split at ho
 ·rename_i x' lH xf;injection ho with ho;subst ho;have zf:(Op.operands (.call ⟨.value x',lH,xf⟩)).toList=x'::lH.toList:=by simp[Op.operands,Call.operands]
  rw[zf]at hv;cases hv with
  |cons hx sG=>
  obtain⟨kg,eg,he,h1,h2⟩:=hx.Bb;have ef:kg=#[]:=by
   cases kX:kg.toList with
   |nil=>exact IF.1 kX
   |cons _ _=>rw[kX]at h1;cases h1
  have ec:eg=#[]:=by
   cases kX:eg.toList with
   |nil=>exact IF.1 kX
   |cons _ _=>rw[kX]at h2;cases h2
  subst ef;subst ec;have aU:lH.toList.map a.eval=eW:=nQ sG aC.flat;have e3:execOp a.eval ⟨dst,.call ⟨.value x',lH,xf⟩,ty,pos,after,guard⟩=Instr.yield l eW.toArray:=by
   have:execOp a.eval ⟨dst,.call ⟨.value x',lH,xf⟩,ty,pos,after,guard⟩=(do let d <-Deferred.ofValue (a.eval x') (lH.map a.eval);invoke d.target d.args):=rfl;rw[this,he,<-aU];have:lH.map a.eval=(lH.toList.map a.eval).toArray:=by apply EW;simp
   rw[this];simp[Deferred.ofValue,invoke,go_sem]
  have hy:=run_yield (P:=P) (args:=eW.toArray) hr (by simpa[j7]using aC.len);have aK9:((j7 cT T ps gU fA D).params.zip eW.toArray).foldl (λtmps (t,a)=>tmps.setIfInBounds t a) (j7 cT T ps gU fA D).tmps=(ps.toList.zip eW).foldl (λt p=>t.setIfInBounds p.1 p.2) T:=by rw[<-aBG];simp[j7]
  rw[aK9]at hy;obtain⟨f1,f2⟩:=aBD (ps.toList.zip eW) hT hTs λp hp=>by have:=List.of_mem_zip hp;exact⟨aC.jh _ (by simpa using this.1),aC.flat _ this.2⟩
  refine⟨λ_ _=>trivial,?_⟩;rw[M6 _ _ _ n_,e3,hy,Oper.uponIn_round];refine⟨λe=>(by cases e),roundIn_of_wpIn trivial ?_⟩
  -- the aV0 own memory
  obtain⟨K8,K9,Pl,vp⟩:=aK4 (next:=next+1) hm hg (BO _) hL F5 (λk x e=>⟨aBH (aC.low k x e).1,(aC.low k x e).2⟩)
   (λk F e=>by
    rw[iE]at e;cases e1:ai Os k with
    |some y=>rw[e1]at e;injection e with e;subst e;have:=aC.own k _ e1;cases this
    |none=>rw[e1]at e;exact Pb (aC.view k _ e))
   (λk x b o cap e hx hb=>by
    have e1:=Pk k x e hx;refine(hS b).2 ⟨k,x,o,cap,e1,?_⟩;cases e2:m k with
    |none=>exact absurd e2 (hSm k x e1)
    |some lc=>rw[hm.oT k lc e2]at hb;exact hb)
  refine hA _ (some l) _ _ _ _ _ ⟨rfl,f1,λt=>(f2 t).mono λk lc e=>by rw[xY (aBH (cQ k lc e))];exact hm.oT k lc e⟩ K8 K9 vp λbZ gF a1 w1 jv iG c7 eL dS iq _=>?_;rw[UX];have ur:gF next=some (.fact (fJ l (j7 cT T ps gU fA D))):=(iq next (BO _) F5).trans Pl;refine⟨_,run_beginRound (Cc c7 ur) rfl,?_⟩;have dI:=aBA (r':={ j7 cT T ps gU fA D with state:=.busy }) c7 ur;refine hB _ (some l) _ _ _ _ _ iG dI (λk x e=>?_) (λk hk=>?_) λdO rG a2 w2 lf _ vR Cd U0 U1 _=>?_
  ·unfold bt;by_cases mz:k=next
   ·subst mz;rw[Pj]at e;cases e
   ·rw[az mz];exact eL k x e
  ·unfold bt;rw[az o_];exact dS k hk
  ·have hg3:rG next=some (.fact (fJ l { j7 cT T ps gU fA D with state:=.busy })):=(U1 next o_ Pj).trans (by unfold bt;rw[aB rfl]);have U2:=aBA (r':=DU (j7 cT T ps gU fA D) j) vR hg3;have vu:=run_endRound (P:=P) j (Cc vR hg3);have F6:∀ k,k<next+1->∀ lc,dO k=some lc->ι k=some lc:=λk hk lc e=>by
    cases ry:ι k with
    |some Aa=>
     have:=lf k Aa (jv k Aa (by rw[xY hk];exact ry));rw[e]at this;exact this.symm
    |none=>
     exfalso;have hc:c k=none:=by
      cases hc:c k with
      |none=>rfl
      |some y=>obtain⟨Aa,q,_⟩:=hm.born k y hc;rw[ry]at q;cases q
     have mz:k≠next:=λe=>by subst e;rw[hg]at hc;cases hc
     have wb:ai (Os++Vs) k=none:=by
      cases e1:ai (Os++Vs) k with
      |none=>rfl
      |some y=>rw[hL k y e1]at hc;cases hc
     have q1:gF k=none:=by
      rw[iq k hk wb];unfold pv;rw[aB hk];have:ai ((next,Obj.fact (fJ l (j7 cT T ps gU fA D)))::(Os++Vs)) k=none:=by show(if Nat.beq next k then _ else _)=_;rw[oA (kO mz)];exact wb
      rw[this,hc];rfl
     have hAk:ai rA.M k=none:=by
      cases e1:ai rA.M k with
      |none=>rfl
      |some y=>rw[eL k y e1]at q1;cases q1
     have q2:rG k=none:=by rw[U1 k o_ hAk];unfold bt;rw[az mz];exact q1
     rw[vR.dE k q2]at e;cases e
   have hmm:=aK5 (next:=next+1) (Os:=Os) (cz:=cz) hm hg hO UU aC.own aC.aBF aC.keys (λb hb=>by
     obtain⟨k,x,o,cap,e1,e2⟩:=(hS b).1 hb;exact⟨k,x,o,cap,e1,hm.oT k _ e2⟩) aC.aBE U2 (by unfold bt;rw[aB rfl])
    (λk x e=>by
     unfold bt;by_cases mz:k=next
     ·subst mz;rw[aK8]at e;cases e
     ·rw[az mz];exact Cd k x (UY k x e)) F6 (BO _) (λk x e=>by
     cases e1:ai Os k with
     |none=>rw[(aC.keys k).2 e1]at e;cases e
     |some y=>exact aBH (aC.low k y (by rw[iE,e1])).1)
   have fin:=hK ι (.bool j.isNone) _ (Map.le.refl _) (.same rfl) hmm;subst UZ;cases hx:rB.ex with
   |normal=>rw[hx]at vu fin;exact⟨_,_,vu,fin⟩
   |ret=>rw[hx]at vu fin;exact⟨_,_,vu,fin⟩
   |exit id=>rw[hx]at vu fin;exact⟨_,_,vu,fin⟩
 ·cases ho
end
def F7(D:Nat):Deferred:={ target:=.collected D,args:=#[]}
def aa.held(B:aa)(D:Nat):aa where
 G w:=B.G w/\w.heap[D]?=some (.deferred (some []))
 cW k:=B.cW k\/k=D
 ds:=F7 D::B.ds
 Fa:=B.Fa
 mp:=B.mp
 lt w k h hk:=by
  rcases hk with hk|rfl
  ·exact B.lt w k h.1 hk
  ·exact(zt.1 h.2).1
 dep w w' h h1 h2 h3 h4 h5:=⟨B.dep w w' h.1 h1 h2 h3 h4 λk hk=>h5 k (.inl hk),(h5 D (.inr rfl)).trans h.2⟩
section
variable{P:j_}{B:aa}{N next:Nat}
structure Ab(P:j_)(next N:Nat)(fr:aT)(Os:aM)(m:Map)(S:Nat->Prop)(T:p_):Prop where
 size:T.size=N
 jh:∀ t,nO m (bK fr t) (T.getD t undef)
 low:∀ k lc,m k=some lc->k<next
 set:∀ b,S b↔∃ k x o cap,ai Os k=some x/\m k=some (.at b o cap)
 born:∀ k x,ai Os k=some x->m k≠none
def aLa(P:j_)(Q:Exit->Act->World->Prop)(j:Option Code)(a:Act)(w:h_):Prop:=
 match j with
 |none=>Q .normal a w
 |some c=>c.wpIn (FW none) 0 P Q a w
theorem U3{cc:g_}{a:Act}{g:m_}{gf:FuncId}{ps:Array Tmp}{gU fA:Code}{j:Option Code}{Q:Exit->Act->World->Prop}
  (hf:fQ B ι (bK fr) N a) (hm:aO B ι cc w) (hL:cY cc (Os++Vs)) (hu:eK cc next) (dY:∀ k x,ai Os k=some x->x.owns=true) (qk:∀ k x,ai Vs k=some x->x.soft=true)
  (hg:gD (bK fr) g=.func (.func gf) #[] ca.toArray) (aLb:Nh g=true) (fe:gg P gf=true)
  (km:∀ k,ai cz k=none↔ai Os k=none) (th:∀ k x,ai cz k=some x->x.owns=true) (dG:∀ k x,ai (cz++Vs) k=some x->fE next x)
  (zr:∀(cT l D:Nat) (W1:h_) (S:Nat->Prop),Ab P next N fr Os ι S a.tmps->∀(κ:Map) (c:g_) (W:h_) (eg:ak),aO (kW W1 l S ι) κ c W->cY c ((next,.fact (fJ l (j7 cT a.tmps ps gU fA D)))::(Os++Vs))->eK c (next+1)->bY (aL κ) ca eg->Calls P gf (.func (.yield l) #[] #[]::eg).toArray W λe W'=>∃ v qM c',e=.returned v/\Map.le κ qM/\aO (kW W1 l S ι) qM c' W'/\cY c' ((next,.fact (fJ l (DU (j7 cT a.tmps ps gU fA D) j)))::(cz++Vs))/\∀ k,k<next->c k=none->c' k=none)
  (hQ:∀ D ct w',(∀ k,B.cW k->k≠D)->w.heap.size<=D->fQ (B.held D) ι (bK fr) N { a with defers:=F7 D::a.defers }->aO (B.held D) ι ct w'->cY ct (cz++Vs)->eK ct next->aLa P Q j { a with defers:=F7 D::a.defers } w'):(Code.rangeFunc g ps gU fA).wpIn (FW none) 0 P Q a w:=by
 have hO:cY cc Os:=λk x e=>hL k x (by rw[iE,e]);have Pk:∀ k x,ai (Os++Vs) k=some x->x.owns=true->ai Os k=some x:=λk x e hx=>by
  rw[iE]at e;cases e1:ai Os k with
  |some y=>rw[e1]at e;exact e
  |none=>
   rw[e1]at e;exact(Pa (qk k x e) hx).elim
 have aBI:∀ k F,ai (Os++Vs) k=some (.fact F)->F.rc=false:=λk F e=>by
  rw[iE]at e;cases e1:ai Os k with
  |some y=>rw[e1]at e;injection e with e;subst e;have:=dY k _ e1;cases this
  |none=>rw[e1]at e;exact Pb (qk k _ e)
 have aLc:∀ k lc,ι k=some lc->k<next:=λk lc e=>by
  rcases e9 k next with h|h
  ·exact h
  ·rw[hm.dE k (hu k h)]at e;cases e
 have E7:=YM hf aLb (by rw[hg];rfl);rw[hg]at E7;obtain⟨kg,eg,he,h1,h2⟩:=E7.Bb;have ef:kg=#[]:=by
  cases kX:kg.toList with
  |nil=>exact IF.1 kX
  |cons _ _=>rw[kX]at h1;cases h1
 subst ef;refine wpIn_rangeFunc ?_;intro cT _;obtain⟨W1,La⟩:∃ W1,(w.alloc (.deferred (some []))).alloc (.loop (j7 cT a.tmps ps gU fA w.heap.size))=W1:=⟨_,rfl⟩;have Dn:=run_enterLoop_outer (P:=P) (w:=w) cT a.tmps ps gU fA;rw[show({ state:=.ready,pending:=none,fn:=cT,tmps:=a.tmps,params:=ps,assign:=gU,body:=fA,defers:=w.heap.size }:Loop)=j7 cT a.tmps ps gU fA w.heap.size from rfl,La]at Dn;have nj:Below w.heap.size w W1:=by rw[<-La];exact((Below.refl _ w).alloc (bF _) _).alloc s_ _
 have aBJ:W1.heap.size=w.heap.size+2:=by rw[<-La];simp
 have hL1:W1.heap[w.heap.size+1]?=some (.loop (j7 cT a.tmps ps gU fA w.heap.size)):=by rw[<-La];have:=World.alloc_heap_new (w.alloc (.deferred (some []))) (.loop (j7 cT a.tmps ps gU fA w.heap.size));rwa[World.size_alloc]at this
 have hK1:W1.heap[w.heap.size]?=some (.deferred (some [])):=by rw[<-La];exact(R9 _ _ _ s_).trans (World.alloc_heap_new w _)
 obtain⟨S,hS⟩:∃ S:Nat->Prop,∀ b,S b↔∃ k x o cap,ai Os k=some x/\ι k=some (.at b o cap):=⟨_,λb=>Iff.rfl⟩;have U4:∀ b,S b->b<w.heap.size/\¬B.cW b:=λb hb=>by obtain⟨k,x,o,cap,e1,e2⟩:=(hS b).1 hb;exact hm.own k x b o cap (hO k x e1) (dY k x e1) e2
 have aBK:∀ k x,ai (Os++Vs) k=some x->∃ lc,ι k=some lc:=λk x e=>by obtain⟨lc,q,_⟩:=hm.born k x (hL k x e);exact⟨lc,q⟩
 refine⟨w.heap.size+1,[{ target:=.collected w.heap.size,args:=#[]}],W1,{ target:=.fn (.func gf) eg,args:=#[.func (.yield (w.heap.size+1)) #[] #[]]},W1,gf,#[.func (.yield (w.heap.size+1)) #[] #[]]++eg,W1,Dn,?_,λ_ _=>trivial,?_,λe=>(by cases e),?_⟩
 ·simp only[resolve,he];simp[go_sem]
 ·have:=Nl (P:=P) fe (#[.func (.yield (w.heap.size+1)) #[] #[]]++eg) W1;simpa[invoke,go_sem]using this
 ·have hmW:=hm.call nj
  -- the aV1 memory
  have c7:aO (kW W1 (w.heap.size+1) S ι) ι (λk=>match ai (Os++Vs) k with|some x=>some x|none=>(cc k).map λ_=>.dead) W1:=by
   refine Pe (L:=Os++Vs) hmW hL (λ_ _ _=>rfl) (λk x lc _ _ h=>h) ⟨.refl _,rfl,rfl,bF _,λ_ _ _ _=>rfl⟩ (λk x b o cap e hx hl hF=>?_) (bF _) (λk e=>?_) (λk x e=>?_) (λk F e hr=>by rw[aBI k F e]at hr;cases hr) (λ_ _ _ _ _ _ h=>h) (Map.le.refl _)
   ·exact hF.2.1 ((hS b).2 ⟨k,x,o,cap,Pk k x e hx,hl⟩)
   ·split at e
    ·cases e
    ·cases hc:cc k with
     |none=>exact hm.dE k hc
     |some y=>rw[hc]at e;cases e
   ·split at e
    ·rename_i y hy;injection e with e;subst e;exact .inl hy
    ·cases hc:cc k with
     |none=>rw[hc]at e;cases e
     |some y=>
      rw[hc]at e;injection e with e;obtain⟨lc,q,_⟩:=hm.born k y hc;exact .inr ⟨e.symm,lc,q⟩
  generalize gM:(λk=>match ai (Os++Vs) k with|some x=>some x|none=>(cc k).map λ_=>Obj.dead:g_)=c1 at c7;have Lb:ai (Os++Vs) next=none:=by
   cases e:ai (Os++Vs) next with
   |none=>rfl
   |some x=>have:=hL _ _ e;rw[hu next (bF _)]at this;cases this
  have aBL:∀ k,next<=k->c1 k=none:=λk hk=>by
   rw[<-gM];have:ai (Os++Vs) k=none:=by
    cases e:ai (Os++Vs) k with
    |none=>rfl
    |some x=>have:=hL _ _ e;rw[hu k hk]at this;cases this
   simp only[this,hu k hk,aBM]
  have aLd:∀ k x,ai (Os++Vs) k=some x->c1 k=some x:=λk x e=>by rw[<-gM];simp only[e]
  have aLe:∀ k F,c1 k=some (.fact F)->F.rc=false:=λk F e=>by
   rw[<-gM]at e;dsimp only at e;split at e
   ·rename_i y hy;injection e with e;subst e;exact aBI k F hy
   ·cases hc:cc k with
    |none=>rw[hc]at e;cases e
    |some y=>rw[hc]at e;cases e
  have dI:=c7.add (k:=next) (x:=.fact (fJ (w.heap.size+1) (j7 cT a.tmps ps gU fA w.heap.size))) (l:=.val undef) (aBL next (bF _)) ⟨undef,rfl,hL1⟩ n_
   (λF v b e _ hF jj y o' aQ hj hy hl=>by
    injection e with e;subst e;have hF:b=w.heap.size+1:=hF;obtain⟨q1,q2⟩:=c7.own jj y b o' aQ hj hy hl;have:∃ lc,ι jj=some lc:=⟨_,hl⟩;have gn:b<w.heap.size:=by
     refine(U4 b ?_).1;have nZ:=hj;rw[<-gM]at nZ;dsimp only at nZ;split at nZ
     ·rename_i z hz;injection nZ with nZ;subst nZ;exact(hS b).2 ⟨jj,z,o',aQ,Pk jj z hz hy,hl⟩
     ·cases hc:cc jj with
      |none=>rw[hc]at nZ;cases nZ
      |some z=>rw[hc]at nZ;injection nZ with nZ;subst nZ;cases hy
    omega)
   n_ (λF e _=>⟨by injection e with e;exact⟨_,e.symm⟩,λjj F' hj=>aLe jj F' hj⟩)
  have lf:Map.le ι (dR ι next (.val undef)):=gZ (hm.dE next (hu next (bF _)));have fT:Ab P next N fr Os ι S a.tmps:=⟨hf.size,hf.slot,aLc,hS,λk x e h=>by obtain⟨lc,q⟩:=aBK k x (by rw[iE,e]);rw[h]at q;cases q⟩
  have iD:=zr cT (w.heap.size+1) w.heap.size W1 S fT (dR ι next (.val undef)) (bt c1 next (.fact (fJ (w.heap.size+1) (j7 cT a.tmps ps gU fA w.heap.size)))) W1 eg.toList dI
   (λk x e=>by
    unfold bt;by_cases hk:k=next
    ·subst hk;rw[aB rfl];have:ai ((k,Obj.fact (fJ (w.heap.size+1) (j7 cT a.tmps ps gU fA w.heap.size)))::(Os++Vs)) k=some (.fact (fJ (w.heap.size+1) (j7 cT a.tmps ps gU fA w.heap.size))):=by show(if Nat.beq k k then _ else _)=_;simp
     rw[this]at e;exact e
    ·rw[az hk];have:ai ((next,Obj.fact (fJ (w.heap.size+1) (j7 cT a.tmps ps gU fA w.heap.size)))::(Os++Vs)) k=ai (Os++Vs) k:=by show(if Nat.beq next k then _ else _)=_;rw[oA (kO hk)];rfl
     rw[this]at e;exact aLd k x e)
   (λk hk=>by unfold bt;rw[az o_];exact aBL k o_) (by
    have:bY (aL ι) ca eg.toList:=by simpa using h2
    exact ow lf this)
  have aLf:(.func (.yield (w.heap.size+1)) #[] #[]::eg.toList:ak).toArray=#[.func (.yield (w.heap.size+1)) #[] #[]]++eg:=by apply EW;simp
  rw[aLf]at iD;refine JX.2 (iD.mono ?_)
  rintro e W2 ⟨v,qM,c',rfl,uV,bJ,jk,gL⟩
  have Pf:c' next=some (.fact (fJ (w.heap.size+1) (DU (j7 cT a.tmps ps gU fA w.heap.size) j))):=jk next _ (by show(if Nat.beq next next then _ else _)=_;simp);have hO2:ai Os next=none:=by
   rw[iE]at Lb;cases e:ai Os next with
   |none=>rfl
   |some x=>rw[e]at Lb;cases Lb
  have hV2:ai Vs next=none:=by rw[iE,hO2]at Lb;exact Lb
  have aLg:ai (cz++Vs) next=none:=by rw[iE,(km next).2 hO2];exact hV2
  have gR:cY c' (cz++Vs):=λk x e=>jk k x (by
   by_cases hk:k=next
   ·subst hk;rw[aLg]at e;cases e
   ·show(if Nat.beq next k then _ else _)=_;rw[oA (kO hk)];exact e)
  have vu:=run_endLoop (P:=P) (Cc bJ Pf) (by cases j<;>simp[DU]);refine⟨j,_,vu,?_⟩
  -- the marks of the list
  have U5:∀ k x,ai (cz++Vs) k=some x->∃ y,ai (Os++Vs) k=some y/\(x.owns=true->y.owns=true/\ai Os k=some y):=λk x e=>by
   rw[iE]at e;cases e1:ai cz k with
   |some z=>
    cases e2:ai Os k with
    |none=>rw[(km k).2 e2]at e1;cases e1
    |some y=>exact⟨y,by rw[iE,e2],λ_=>⟨dY k y e2,rfl⟩⟩
   |none=>
    rw[e1]at e;have e2:=(km k).1 e1;refine⟨x,by rw[iE,e2];exact e,λhx=>?_⟩;exact(Pa (qk k x e) hx).elim
  have aBN:∀ k x,ai (cz++Vs) k=some x->ι k=qM k:=λk x e=>by obtain⟨y,e1,_⟩:=U5 k x e;obtain⟨lc,q⟩:=aBK k y e1;rw[q,uV k lc (lf k lc q)]
  have aLh:∀ k,k<next->∀ lc,qM k=some lc->ι k=some lc:=λk hk lc e=>by
   cases q:ι k with
   |some Aa=>have:=uV k Aa (lf k Aa q);rw[e]at this;exact this.symm
   |none=>
    exfalso;have Ac:cc k=none:=by
     cases hc:cc k with
     |none=>rfl
     |some y=>obtain⟨Aa,q',_⟩:=hm.born k y hc;rw[q]at q';cases q'
    have wb:ai (Os++Vs) k=none:=by
     cases e1:ai (Os++Vs) k with
     |none=>rfl
     |some y=>rw[hL k y e1]at Ac;cases Ac
    have:c' k=none:=gL k hk (by unfold bt;rw[az o_,<-gM];simp only[wb,Ac,aBM])
    rw[bJ.dE k this]at e;cases e
  have tg:=Pc (Cc bJ Pf);have hDS:¬S w.heap.size:=λh=>by have:=(U4 _ h).1;omega
  have aBO:∀ b,b<w.heap.size+2->¬S b->b≠w.heap.size+1->W2.heap[b]?=W1.heap[b]?:=λb hb hs hl=>bJ.base.2.2.2.2 b (by rw[aBJ];exact hb) hs hl;have aV2:w.heap.size+2<=W2.heap.size:=by rw[<-aBJ];exact bJ.base.2.2.2.1
  have Lc:∀(o:Go.Obj) b,b≠w.heap.size+1->(W2.putObj (w.heap.size+1) o).heap[b]?=W2.heap[b]?:=λo b hb=>aBB hb;have DW:∀ k,B.cW k->k≠w.heap.size:=λk hk=>by have:=B.lt w k hm.base hk;omega
  have U6:∀ k F,ai (cz++Vs) k=some (.fact F)->F.rc=false:=λk F e=>by
   rw[iE]at e;cases e1:ai cz k with
   |some y=>rw[e1]at e;injection e with e;subst e;have:=th k _ e1;cases this
   |none=>rw[e1]at e;exact Pb (qk k _ e)
  have vR:∀ o:Go.Obj,aO (B.held w.heap.size) ι (λk=>match ai (cz++Vs) k with|some x=>some x|none=>(cc k).map λ_=>.dead) (W2.putObj (w.heap.size+1) o):=λo=>by
   refine Pe (L:=cz++Vs) bJ gR aBN (λk x lc e q ho=>?_) ⟨?_,?_⟩ (λk x b oo cap e hx hl hF=>?_) (by rw[vt];exact bF _) (λk e=>?_) (λk x e=>?_) (λk F e hr=>by rw[U6 k F e]at hr;cases hr) (λk F v b e q hF=>?_) hm.oT
   ·exact Pd tg (ho.below aLh (dG k x e)) (λF ef=>U6 k F (ef▸e)) (by rw[vt];exact bF _) (λb _ _ _ _=>(Nat.decEq b (w.heap.size+1)).casesOn (λhb=>.inr (Lc o b hb)) λhb=>.inl hb) λF v b _ _ _=>(Nat.decEq b (w.heap.size+1)).casesOn (λhb=>.inr (Lc o b hb)) λhb=>.inl hb
   ·refine B.dep w _ hm.base ?_ ?_ ?_ ?_ λk hk=>?_
    ·exact bJ.base.1.trans nj.os
    ·exact bJ.base.2.1.trans nj.tape
    ·exact bJ.base.2.2.1.trans nj.output
    ·rw[vt];omega
    ·have hkl:=B.lt w k hm.base hk;rw[Lc o k o_,aBO k o_ (λhs=>(U4 k hs).2 hk) o_];exact nj.block k hkl
   ·rw[Lc o _ o_,aBO _ o_ hDS o_];exact hK1
   ·obtain⟨y,e1,e2⟩:=U5 k x e;obtain⟨hy,e3⟩:=e2 hx;have cA:ι k=some (.at b oo cap):=(aBN k x e).trans hl;have q:=hm.own k y b oo cap (hO k y e3) hy cA;rcases hF with hF|rfl
    ·exact q.2 hF
    ·omega
   ·split at e
    ·cases e
    ·cases hc:cc k with
     |none=>exact hm.dE k hc
     |some y=>rw[hc]at e;cases e
   ·split at e
    ·rename_i y hy;injection e with e;subst e;exact .inl hy
    ·cases hc:cc k with
     |none=>rw[hc]at e;cases e
     |some y=>
      rw[hc]at e;injection e with e;obtain⟨lc,q,_⟩:=hm.born k y hc;exact .inr ⟨e.symm,lc,q⟩
   ·obtain⟨lc,q1,v',q2,q3⟩:=bJ.born k _ (gR k _ e);rw[q]at q1;injection q1 with q1;subst q1;injection q2 with q2;subst q2;refine(F.soft (U6 k F e) v W2 _ q3 (by rw[vt];exact bF _) λk2 fO cs ty f hc=>?_).2 b hF;rw[Lc o k2 (λe=>by subst e;exact tg _ _ _ hc)];exact hc
  have fin:=hQ w.heap.size _ _ DW (bF _) ⟨by show F7 _::a.defers=F7 _::B.ds;rw[hf.defers],hf.size,hf.slot⟩ (vR (.loop { DU (j7 cT a.tmps ps gU fA w.heap.size) j with state:=.exhausted })) (λk x e=>by simp only[e]) (λk hk=>by
   have:ai (cz++Vs) k=none:=by
    cases e:ai (cz++Vs) k with
    |none=>rfl
    |some x=>obtain⟨y,e1,_⟩:=U5 k x e;have:=hL _ _ e1;rw[hu k hk]at this;cases this
   simp only[this,hu k hk,aBM])
  cases j with
  |none=>exact fin
  |some cj=>exact fin
theorem aBP{W:h_}(h:aO (B.held D) ι c W)(qj:∀ F,¬B.Fa F)(hD:∀ k,B.cW k->k≠D):aO B ι c (W.putObj D (.deferred none)):=by
 have tg:=aK1 h.base.2;have ne:∀ b,b≠D->(W.putObj D (.deferred none)).heap[b]?=W.heap[b]?:=λb hb=>aBB hb;refine⟨B.dep W _ h.base.1 ⟨rfl,bF _⟩ rfl rfl (by rw[vt];exact bF _) λk hk=>ne k (hD k hk),h.dE,?_,?_,h.inj,?_,?_,h.fa,h.one,h.oT⟩
 ·intro k x hk;obtain⟨l,q1,q2⟩:=h.born k x hk;refine⟨l,q1,Pd tg q2 (λF e=>?_) (by rw[vt];exact bF _) (λb _ _ _ _=>(Nat.decEq b D).casesOn (λhb=>.inr (ne b hb)) λhb=>.inl hb) λF v b _ _ _=>(Nat.decEq b D).casesOn (λhb=>.inr (ne b hb)) λhb=>.inl hb⟩;subst e;cases hr:F.rc with
  |false=>rfl
  |true=>exact absurd (h.fa k F hk hr) (qj F)
 ·intro k x b o cap hk hx hl;rw[vt];exact⟨(h.own k x b o cap hk hx hl).1,λhF=>(h.own k x b o cap hk hx hl).2 (.inl hF)⟩
 ·intro k j x F b o cap v hk hx hl hj hv hF;obtain⟨lc,q1,v',q2,q3⟩:=h.born j _ hj;rw[hv]at q1;injection q1 with q1;subst q1;injection q2 with q2;subst q2;have hr:F.rc=false:=by
   cases hr:F.rc with
   |false=>rfl
   |true=>exact absurd (h.fa j F hj hr) (qj F)
  refine h.apart k j x F b o cap v hk hx hl hj hv ((F.soft hr v W _ q3 (by rw[vt];exact bF _) λk2 fO cs ty f hc=>?_).2 b hF);rw[ne k2 (λe=>by subst e;exact tg _ _ _ hc)];exact hc
 ·intro k x b o cap hk hx hl;rw[vt];exact h.seen k x b o cap hk hx hl
theorem aBQ{c:Code}{r:mF}{v:i_}{R:Ending->World->Prop}(H3:∀ B,ah P B N c fr M next r)(hex:(match r.ex with|.exit _=>false|_=>true)=true)(hv:Bu P fn r.fr r.M=some v)
  {ι:Map} {cc:g_} {a:Act} {w:h_} (hf:fQ (B.held D) ι (bK fr) N a) (hm:aO (B.held D) ι cc w) (ha:cY cc M) (hu:eK cc next) (nq:B.ds=[]) (qj:∀ F,¬B.Fa F) (hD:∀ k,B.cW k->k≠D)
  (hR:∀ aA v' w',aL aA v v'->B.G w'->R (.returned v') w'):c.wpIn (FW none) 0 P (bodyPostM (FW none) 0 P fn R) a w:=by
 refine H3 _ none ι cc a w _ hf hm ha hu λaA ct a' w' hle xk bJ jk _ _ _=>?_;have dI:=aBP bJ qj hD;obtain⟨v',hc,qo⟩:=NC (fn:=fn) (B:=B) (N:=N) (a:={ a' with defers:=[]}) ⟨nq.symm,xk.size,xk.slot⟩ dI jk hv;have hl:LeavesInM (FW none) 0 P fn a'.tmps R a'.defers .returning w':=by rw[xk.defers];show LeavesInM (FW none) 0 P fn a'.tmps R (F7 D::B.ds) .returning w';rw[nq];exact⟨λe=>(by cases e),.inl ⟨D,_,rfl,run_takeDeferred bJ.base.2,v',qo,hR aA v' _ hc dI.base⟩⟩
 cases hx:r.ex with
 |normal=>exact hl
 |ret=>exact hl
 |exit id=>rw[hx]at hex;cases hex
end
def Ad:Code->Nat->Option Code
 |.region i ops d,k=>if Nat.beq i k then some (.region i ops d)else none
 |.seq x y,k=>match Ad x k with|some o=>some o|none=>Ad y k
 |.cond _ x y,k=>match Ad x k with|some o=>some o|none=>Ad y k
 |.block _ b,k=>Ad b k
 |.loop b,k=>Ad b k
 |.scope b,k=>Ad b k
 |.rangeFunc _ _ x y,k=>match Ad x k with|some o=>some o|none=>Ad y k
 |_,_=>none
def Ae(fn:Func)(k:Nat):Code:=match fn.body with|some c=>(match Ad c k with|some o=>o|none=>.skip)|none=>.skip
def DX:Code->Option Code
 |.seq x y=>match DX x with|some o=>some o|none=>DX y
 |.cond _ x y=>match DX x with|some o=>some o|none=>DX y
 |.block _ b=>DX b
 |.loop b=>DX b
 |.scope b=>DX b
 |.rangeFunc g p x y=>some (.rangeFunc g p x y)
 |_=>none
def rR(fn:Func):Code:=match fn.body with|some c=>(match DX c with|some o=>o|none=>.skip)|none=>.skip
def DY:Code->Code|.rangeFunc _ _ x _=>x|c=>c
def DZ:Code->Code|.rangeFunc _ _ _ y=>y|c=>c
def bN(k:Nat):Value:=.pointer (some ⟨k,0,some 7⟩)
section
variable{P:j_}{B:aa}{N next:Nat}
theorem lN{L:aM}{p:Nat×Obj->Bool}(h:L.all p=true){x:Obj}(hk:ai L k=some x):p (k,x)=true:=bB.1 h _ (kE hk)
theorem U7:∀{L:aM} {k:Nat},ai L k=none↔k∉L.map (·.1)
 |[],k=>by simp[ai]
 |(j,x)::L,k=>by
  by_cases h:j=k
  ·subst h;simp[ai]
  ·have e:ai ((j,x)::L) k=ai L k:=by show(if Nat.beq j k then _ else _)=_;rw[oA h];rfl
   rw[e,U7];simp[kO h]
theorem wC{L L':aM}(h:L'.map (·.1)=L.map (·.1))(k:Nat):ai L' k=none↔ai L k=none:=by rw[U7,U7,h]
def mO(next:Nat)(p:Nat×Obj):Bool:=p.2.cells.all (l5 next)
theorem Af{next:Nat}{p:Nat×Obj}(h:mO next p=true):fE next p.2:=λv hv=>bB.1 h v hv
theorem Ld{ps:Array Tmp}{gU fA:Code}{j:Option Code}(cR:eW.all flat=true)(hlen:eW.length=ps.size)(zq:(ps.toList.all λp=>Nat.blt p N)=true)
  (dG:((Os++Vs).all λp=>Nat.blt p.1 next&&mO (next+1) p)=true) (Le:(cz.all (mO (next+1)))=true) (dY:(Os.all λp=>p.2.owns)=true) (th:(cz.all λp=>p.2.owns)=true) (qk:(Vs.all λp=>p.2.soft)=true) (km:cz.map (·.1)=Os.map (·.1))
  {rA rB:mF} (hA:∀ B,ah P B N gU (Pg (ps.toList.zip eW) fr) (Os++Vs) (next+1) rA) (UX:rA.ex=.normal) (hAn:Nat.ble (next+1) rA.next=true) (Pj:ai rA.M next=none)
  (hB:∀ B,ah P B N fA rA.fr rA.M rA.next rB) (UY:∀ k x,ai cz k=some x->ai rB.M k=some x) (UZ:exJ rB.ex=j):IE P next N ps gU fA fr Os Vs cz eW j where
 flat:=bB.1 cR
 len:=hlen
 jh p hp:=by have:=bB.1 zq p (by simpa using hp);simpa[Bm]using this
 low k x h:=by have:=lN dG h;simp only[de,Bm]at this;exact⟨this.1,Af this.2⟩
 aBE k x h:=Af (lN Le h)
 own k x h:=lN dY h
 aBF k x h:=lN th h
 view k x h:=lN qk h
 keys:=wC km
 run:=⟨rA,rB,hA,UX,sE hAn,Pj,hB,UY,UZ⟩
theorem aBR(dL:bY (aL ι) args args')(hN:N=args.length+(fn.ntmps-args.length))(nq:B.ds=[]):
  fQ B ι (bK (jh 0 args)) N { tmps:=args'.toArray++Array.replicate (fn.ntmps-args'.toArray.size) undef,defers:=[]}:=by
 refine⟨nq.symm,by simp[hN,dL.length],λt=>?_⟩;rcases ND dL 0 t (List.replicate (fn.ntmps-args'.length) undef)with h|h
 ·simp only[lG,rz,Hw]at h;have e:(args'.toArray++Array.replicate (fn.ntmps-args'.toArray.size) undef).getD t undef=(args'++List.replicate (fn.ntmps-args'.length) undef).getD t undef:=by simp[qv,E1,<-Array.getElem?_toList]
  dsimp only;rw[e];exact h
 ·exact .inl h
theorem aBS{v:i_}{R:Ending->World->Prop}(hv:Bu P fn fr M=some v)
  {ι:Map} {cc:g_} {a:Act} {w:h_} (hf:fQ (B.held D) ι (bK fr) N a) (hm:aO (B.held D) ι cc w) (ha:cY cc M) (nq:B.ds=[]) (qj:∀ F,¬B.Fa F) (hD:∀ k,B.cW k->k≠D)
  (hR:∀ aA v' w',aL aA v v'->B.G w'->R (.returned v') w'):LeavesInM (FW none) 0 P fn a.tmps R a.defers .returning w:=by
 have dI:=aBP hm qj hD;obtain⟨v',hc,qo⟩:=NC (fn:=fn) (B:=B) (N:=N) (a:={ a with defers:=[]}) ⟨nq.symm,hf.size,hf.slot⟩ dI ha hv;rw[hf.defers];show LeavesInM (FW none) 0 P fn a.tmps R (F7 D::B.ds) .returning w;rw[nq];exact⟨λe=>(by cases e),.inl ⟨D,_,rfl,run_takeDeferred hm.base.2,v',qo,hR ι v' _ hc dI.base⟩⟩
theorem aBT{c:Code}{v:i_}(hf:P.funcs[f]?=some fn)(hb:fn.body=some c)(hN:N=args.length+(fn.ntmps-args.length))(dL:args.all flat=true)
  (h:∀ w a,fQ (aa.at w) (λ_=>none) (bK (jh 0 args)) N a->aO (aa.at w) (λ_=>none) (λ_=>none) w->c.wpIn (FW none) 0 P (bodyPostM (FW none) 0 P fn λe w'=>e=.returned v/\Below w.heap.size w w') a w):aG P f args v:=by
 intro w;rw[bB]at dL;exact JX.1 (callsIn_of_wp_marks (F:=FW none) (n:=0) hf hb trivial (h w _ (aBR (k6 dL) hN rfl) (ub w)))
theorem aBU{gf:FuncId}{cells:ak}{x:m_}(iO:P.follows .mixedOrders=true)(hf:P.funcs[f]?=some fn)(ho:dF o.op=some x)(fe:gg P f=true)(n:Nat)
  (rs:∀ w,bM P (aa.at w) (args.length+(fn.ntmps-args.length)))
  (h:∀ w,oX (hJ (P:=P) fn n args [] 0 (rs w)) [(0,.aK cells ty)]=oY (hJ fn n args [] 0 (rs w)) (.func (.func gf) #[] #[.pointer (some ⟨0,0,some 7⟩)]) [(0,.aK cells ty)]) (dL:args.all flat=true) (cR:cells.all flat=true) :
  cI P B o (.func (.func f) #[] #[]::args) [(k,none)] (.func (.func gf) #[] #[.pointer (some ⟨k,0,some 7⟩)]) [(k,.aK cells ty)]:=by
 have:=jY (P:=P) (B:=B) (o:=o) (x:=x) (f:=f) (fi:=[]) (args:=args) (ca:=[]) (need:=[(k,none)]) (val:=.func (.func gf) #[] #[.pointer (some ⟨k,0,some 7⟩)]) (cZ:=[(k,.aK cells ty)]) ho fe ?_
 ·simpa using this
 ·intro ι c w hm hn args' ha;have hk:c k=none:=hn (k,none) (aR ..);rw[bB]at dL cR;have e:args'=args:=nQ (by simpa using ha) dL;subst e;refine u9 iO hf rfl n (h w) (k6 dL) (ub w) n_ (λ_ _=>rfl) λaA ct v' w' _ hc bJ dP=>?_;obtain⟨kg,eg,rfl,h1,h2⟩:=hc.Bb;have h0:ct 0=some (.aK cells ty):=dP (0,_) (aR ..);obtain⟨l,q1,b,cr,rfl,q2,q3⟩:=bJ.born 0 _ h0;obtain⟨q4,q5⟩:=bJ.own 0 _ b 0 0 h0 rfl q1;have hbn:w.heap.size<=b:=Pm q5;have ec:cr=cells:=nQ q2 cR;subst ec;have ef:kg=#[]:=by
   cases kX:kg.toList with
   |nil=>exact IF.1 kX
   |cons _ _=>rw[kX]at h1;cases h1
  subst ef;have fB:eg.toList=[.pointer (some ⟨b,0,none⟩)]:=by
   have h2:bY (aL aA) [.pointer (some ⟨0,0,some 7⟩)] eg.toList:=h2;generalize eg.toList=l at h2;cases h2 with
   |cons p q=>
    cases q;obtain⟨b',o',aQ,e1,e2⟩:=p.xa rfl;rw[q1]at e1;injection e1 with e1;injection e1 with e1 e3 _;subst e1;subst e3;rw[e2];simp
  have dI:=hm.new (k:=k) (x:=.aK cr ty) (l:=.at b 0 0) bJ.base hk ⟨b,cr,rfl,k6 cR,q3⟩ (λb' o' aQ _ e=>by injection e with e _ _;subst e;exact⟨hbn,q4⟩) n_ rfl;refine⟨dR ι k (.at b 0 0),_,rfl,gZ (hm.dE k hk),?_,dI⟩;refine .fn .nil ?_;rw[fB];exact .cons (.ptr (fX _ _ _)) .nil
theorem D0{gf:FuncId}{Pn:Func}{W1 W:h_}{l:Nat}{S:Nat->Prop}{m:Map}{eg:ak}{M':aM}{v:i_}(iO:P.follows .mixedOrders=true)(hf:P.funcs[gf]?=some Pn)
  (hN:N=(ca.length+1)+(Pn.ntmps-(ca.length+1))) (n:Nat) {rs:bM P (kW W1 l S m) N} (hm:aO (kW W1 l S m) κ c W) (ha:cY c M) (hu:eK c (next+1)) (fB:bY (aL κ) ca eg)
  (h:oX (hJ (P:=P) Pn n (.func (.yield l) #[] #[]::ca) M (next+1) rs) M'=oY (hJ Pn n (.func (.yield l) #[] #[]::ca) M (next+1) rs) v M') :
  Calls P gf (.func (.yield l) #[] #[]::eg).toArray W λe W'=>∃ v qM c',e=.returned v/\Map.le κ qM/\aO (kW W1 l S m) qM c' W'/\cY c' M'/\∀ k,k<next->c k=none->c' k=none:=by
 refine SS iO hf (by simpa using hN) n h (.cons (.same rfl) fB) hm ha hu λaA ct v' w' hle hc bJ dP hk=>⟨v',aA,ct,rfl,hle,bJ,λk x e=>dP (k,x) (kE e),λk gL Ac=>?_⟩;rw[hk k o_ (by
  cases e:ai M k with
  |none=>rfl
  |some x=>rw[ha k x e]at Ac;cases Ac)]
 exact Ac
end
end Go.Proofs.YthjhinbiabcfiaaGreatDoor
