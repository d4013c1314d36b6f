/- Centroid and extent of solids: the proof of MeasureInsideCardSaid (the law's function answers true at every record and every direction it can be given; theorem measureInside_card, last part), part 2 of 7; no condition. -/
import Derived.Test.YtgpahigmalfpdaaGreatDoorIC1
namespace Go.Proofs.YtgpahigmalfpdaaGreatDoor
open Go Go.RowKit Tryz
abbrev q_:=List (Nat×Option Obj)
abbrev g_:=Nat->Option Obj
variable{i m k a q b j size e d off cc r cap L n2 k1 k2 D A m1 m2:Nat}{w w':h_}{ι κ aB b9:Map}{o:Oper}{c:g_}{B:aa}{f:FuncId}{fr:aU}{M Os cA Vs ms:aL}{ty:TypeId}{xs args ca cells' args' e6 post:al}{fn:Func}{v' va res:i_}{P:j_}{z:Int}{σ:List (Option Nat)}{Q:Ending->World->Prop}{x1 x2:Obj}{cur:p_}
section
variable{P:j_}{B:aa}{N:Nat}
theorem ke.aJ9{dQ:Map}{w0 w1:h_}{l:qc}{x:Obj}(h0:ke aB w0 l x)(h1:ke b9 w1 l x)(vN:Map.le aB b9)(DX:Map.le aB dQ):ke dQ w1 l x:=by
 cases x with
 |aI cells ty=>
  obtain⟨b,cs,e1,e2,_⟩:=h0;obtain⟨b',ct,DY,DM,DN⟩:=h1;rw[FP DM (oN vN e2)]at DN;rw[e1]at DY;injection DY with DY _ _;subst DY;exact⟨b,cs,e1,oN DX e2,DN⟩
 |row cells ty size=>
  rcases h0 with h0|⟨b,cap,cur,e1,e2,e3,e4,e5⟩
  ·exact .inl h0
  ·rcases h1 with h1|⟨b',aT,gE,DY,DM,DN,e4',e5'⟩
   ·exact .inl h1
   ·refine .inr ⟨b',aT,gE,DY,DM,DN,e4',?_⟩;rw[FP e5' (oN vN e5)];exact oN DX e5
 |view cells=>
  rcases h0 with h0|⟨b,o,cap,cs,e1,e2,e3⟩
  ·exact .inl h0
  ·rcases h1 with h1|⟨b',o',aT,ct,DY,DM,DN⟩
   ·exact .inl h1
   ·refine .inr ⟨b',o',aT,ct,DY,?_,DN⟩;rw[FP DM (oN vN e2)];exact oN DX e2
 |fact F=>exact h1
 |dead=>trivial
def mP(ι:Map)(next:Nat)(σ:List (Option Nat)):Map:=λk=>if k<next then ι k else match σ[k-next]? with
 |some (some m)=>ι m
 |some none=>some .nil
 |none=>none
def Ci(c0:g_)(next:Nat)(X:List Obj):g_:=λk=>if k<next then c0 k else X[k-next]?
def marks:Nat->List Obj->aL
 |_,[]=>[]
 |k,x::l=>(k,x)::marks (k+1) l
def eg:List (Option Nat)->List Obj->aL
 |some m::σ,x::l=>(m,x)::eg σ l
 |none::σ,_::l=>eg σ l
 |_,_=>[]
def Obj.isNil:Obj->Bool
 |.row [] _ _=>true
 |.view []=>true
 |_=>false
def yg(next:Nat)(σ:List (Option Nat)):Value->Value
 |.slice (some ad) n c=>if Nat.ble next ad.block&&nI ad then(match σ[ad.block-next]? with
   |some (some m)=>.slice (some ⟨m,ad.off,some 7⟩) n c
   |some none=>.slice none 0 0
   |none=>.slice (some ad) n c)else .slice (some ad) n c
 |v=>v
def Io(next:Nat)(σ:List (Option Nat)):Value->Bool
 |.slice (some ad) n c=>if Nat.ble next ad.block&&nI ad then(match σ[ad.block-next]? with
   |some (some _)=>true
   |some none=>Nat.beq ad.off 0&&(Nat.beq n 0&&Nat.beq c 0)
   |none=>false)else l5 next (.slice (some ad) n c)
 |v=>l5 next v
def ij(next:Nat)(σ:List (Option Nat))(fr:aU):aU:=fr.map λp=>(p.1,yg next σ p.2)
theorem KV{next:Nat}(h:k<next):mP ι next σ k=ι k:=by unfold mP;rw[aA h]
theorem T5{next:Nat}(h:σ[j]?=some (some m)):mP ι next σ (next+j)=ι m:=by unfold mP;rw[au o_,F7,h]
theorem aA0{next:Nat}(h:σ[j]?=some none):mP ι next σ (next+j)=some .nil:=by unfold mP;rw[au o_,F7,h]
theorem aA1{next:Nat}{v:i_}(aC:Io next σ v=true)(h:aM ι (yg next σ v) v'):aM (mP ι next σ) v v':=by
 have low:∀ k,k<next->∀ l,ι k=some l->mP ι next σ k=some l:=λk hk l e=>by rw[KV hk];exact e
 have jU:∀{v:i_},l5 next v=true->aM ι v v'->aM (mP ι next σ) v v':=λhb h=>h.low low hb;cases v with
 |slice oa n c=>
  cases oa with
  |none=>exact jU aC h
  |some ad=>
   unfold Io at aC;unfold yg at h;dsimp only at aC h;split at aC
   ·rename_i hc;rw[aA hc]at h;simp only[dc]at hc;have gw:=sY hc.1;obtain⟨j,hj⟩:∃ j,ad.block=next+j:=⟨ad.block-next,by omega⟩;have yd:ad.block-next=j:=by omega
    rw[yd]at aC h;have eta:=Du hc.2;cases Ip:σ[j]? with
    |none=>rw[Ip]at aC;cases aC
    |some o=>
     cases o with
     |none=>
      rw[Ip]at aC h;simp only[dc]at aC;have h1:=lI aC.1;have h2:=lI aC.2.1;have h3:=lI aC.2.2;rw[h.fH rfl,eta,h1,h2,h3,hj];exact .slcN (aA0 Ip)
     |some m=>
      rw[Ip]at h;dsimp only at h;rw[eta,hj];rcases h.iM rfl with ⟨q1,q2,q3,q4,q5⟩|⟨b,o,cap,c',q1,q2,q3,q5⟩
      ·dsimp only at q1 q4;rw[q5,q2,q3,q4];exact .slcN (by rw[T5 Ip];exact q1)
      ·dsimp only at q1 q5;rw[q5];exact .slc (by rw[T5 Ip];exact q1) q2 q3
   ·rename_i hc;rw[au hc]at h;exact jU aC h
 |_=>exact jU aC h
theorem T6:∀(X:List Obj) (next k:Nat),ak (marks next X) k=if k<next then none else X[k-next]?
 |[],next,k=>by unfold marks ak;split<;>simp
 |x::X,next,k=>by
  unfold marks ak;by_cases h:next=k
  ·subst h;have:Nat.beq next next=true:=H5 next;rw[aA this,au (Nat.lt_irrefl _),wR];rfl
  ·rw[om h];simp only[vO,vP];rw[T6 X (next+1) k];by_cases h2:k<next
   ·rw[aA o_,aA h2]
   ·rw[au o_,au h2];obtain⟨d,rfl⟩:∃ d,k=next+1+d:=⟨k-next-1,by omega⟩;rw[F7,show next+1+d-next=d+1 by omega];rfl
theorem aA2:∀{σ:List (Option Nat)} {X:List Obj} {j m:Nat} {x:Obj},σ[j]?=some (some m)->X[j]?=some x->(m,x)∈eg σ X
 |o::σ,y::X,0,m,x,h1,h2=>by simp at h1 h2;subst h1;subst h2;exact aR ..
 |o::σ,y::X,j+1,m,x,h1,h2=>by
  have:=aA2 (σ:=σ) (X:=X) (j:=j) (by simpa using h1) (by simpa using h2);cases o with
  |none=>exact this
  |some q=>exact bK _ this
 |[],_,j,m,x,h1,_=>by simp at h1
 |_::_,[],j,m,x,_,h2=>by simp at h2
structure Iq(M:aL)(next:Nat)(σ:List (Option Nat))(fr:aU)(F:aL)(X:List Obj):Prop where
 len:X.length=σ.length
 nodup:∀ i j m:Nat,σ[i]?=some (some m)->σ[j]?=some (some m)->i=j
 low:∀ i m:Nat,σ[i]?=some (some m)->m<next->ak F m=none/\ak M m≠none
 nil:∀(i:Nat) (x:Obj),σ[i]?=some none->X[i]?=some x->x.isNil=true
 jb:∀ p∈fr,Io next σ p.2=true
 keys:∀ p∈F,p.1<next/\ak M p.1≠none
 aKa:∀ p∈F,fR next p.2
 news:∀ x∈X,fR next x
theorem rename{c0 c1:g_}{w0 w1:h_}{next:Nat}{F:aL}{X:List Obj}(ok:Iq M next σ fr F X)
  (h0:aO B aB c0 w0) (wS:eG c0 next) (ni:cZ c0 M) (vN:Map.le aB b9) (h1:aO B b9 c1 w1) (hF:cZ c1 F) (hX:∀ p∈eg σ X,c1 p.1=some p.2) (hk:∀ k,k<next->ak M k=none->c1 k=c0 k) :
  ∃ c2,Map.le aB (mP b9 next σ)/\aO B (mP b9 next σ) c2 w1/\cZ c2 (F++marks next X)/\eG c2 (next+X.length)/\(∀ k,k<next->ak M k=none->c2 k=c0 k):=by
 have T7:∀ k l,aB k=some l->k<next:=λk l e=>by
  rcases fo k next with h|h
  ·exact h
  ·rw[h0.dD k (wS k h)]at e;cases e
 have hle:Map.le aB (mP b9 next σ):=λk l e=>by rw[KV (T7 k l e)];exact vN k l e
 have low:∀ k,k<next->∀ l,b9 k=some l->mP b9 next σ k=some l:=λk hk l e=>by rw[KV hk];exact e
 -- the objects
 let cl:g_:=λk=>match ak F k with
  |some x=>some x
  |none=>match ak M k with
   |none=>c1 k
   |some _=>some .dead
 have iN:∀ k x,cl k=some x->(x=.dead/\ak M k≠none)\/(c1 k=some x/\(ak F k=some x\/(ak F k=none/\ak M k=none))):=by
  intro k x hx;have hx:(match ak F k with|some x=>some x|none=>match ak M k with|none=>c1 k|some _=>some Obj.dead)=some x:=hx;cases hf:ak F k with
  |some y=>rw[hf]at hx;injection hx with hx;subst hx;exact .inr ⟨hF k y hf,.inl rfl⟩
  |none=>
   rw[hf]at hx;dsimp only at hx;cases hm:ak M k with
   |none=>rw[hm]at hx;exact .inr ⟨hx,.inr ⟨rfl,rfl⟩⟩
   |some y=>rw[hm]at hx;injection hx with hx;exact .inl ⟨hx.symm,λe=>by cases e⟩
 have aKb:∀(j:Nat) (x:Obj),X[j]?=some x->(σ[j]?=some none/\x.isNil=true)\/∃ m,σ[j]?=some (some m)/\c1 m=some x:=by
  intro j x hx;have hj:j<σ.length:=by rw[<-ok.len];exact(eP.1 hx).1
  cases hs:σ[j]? with
  |none=>rw[aA3]at hs;omega
  |some o=>
   cases o with
   |none=>exact .inl ⟨rfl,ok.nil j x hs hx⟩
   |some m=>exact .inr ⟨m,rfl,hX _ (aA2 hs hx)⟩
 -- where a mark that is not dead comes from
 have src:∀ k x,Ci cl next X k=some x->(x=.dead/\k<next/\ak M k≠none)\/(x.isNil=true/\mP b9 next σ k=some .nil/\¬k<next)\/
   ∃ m,c1 m=some x/\mP b9 next σ k=b9 m/\((k<next/\m=k/\(ak F k=some x\/(ak F k=none/\ak M k=none)))\/(¬k<next/\σ[k-next]?=some (some m)/\X[k-next]?=some x)):=by
  intro k x hx;unfold Ci at hx;split at hx
  ·rename_i ao;rcases iN k x hx with h|⟨h1,h2⟩
   ·exact .inl ⟨h.1,ao,h.2⟩
   ·exact .inr (.inr ⟨k,h1,KV ao,.inl ⟨ao,rfl,h2⟩⟩)
  ·rename_i gw;obtain⟨j,rfl⟩:∃ j,k=next+j:=⟨k-next,by omega⟩;rw[F7]at hx ⊢;rcases aKb j x hx with ⟨h1,h2⟩|⟨m,h1,h2⟩
   ·exact .inr (.inl ⟨h2,aA0 h1,gw⟩)
   ·exact .inr (.inr ⟨m,h2,T5 h1,.inr ⟨gw,h1,hx⟩⟩)
 have aWL:∀{x:Obj},x.isNil=true->∀ b o cap,mP b9 next σ=mP b9 next σ->(some qc.nil:Option qc)=some (.at b o cap)->False:=λ_ b o cap _ e=>by cases e
 -- an owner comes from an owner
 have own:∀ k x b o cap,Ci cl next X k=some x->x.owns=true->mP b9 next σ k=some (.at b o cap)->∃ m,c1 m=some x/\b9 m=some (.at b o cap)/\((k<next/\m=k/\(ak F k=some x\/(ak F k=none/\ak M k=none)))\/(¬k<next/\σ[k-next]?=some (some m)/\X[k-next]?=some x)):=by
  intro k x b o cap hx ho hl;rcases src k x hx with ⟨rfl,_⟩|⟨_,h,_⟩|⟨m,h1,h2,h3⟩
  ·cases ho
  ·rw[h]at hl;cases hl
  ·exact⟨m,h1,by rw[<-h2];exact hl,h3⟩
 have view:∀ k x b o cap,Ci cl next X k=some x->x.kF=true->mP b9 next σ k=some (.at b o cap)->∃ m,c1 m=some x/\b9 m=some (.at b o cap):=by
  intro k x b o cap hx ho hl;rcases src k x hx with ⟨rfl,_⟩|⟨_,h,_⟩|⟨m,h1,h2,h3⟩
  ·cases ho
  ·rw[h]at hl;cases hl
  ·exact⟨m,h1,by rw[<-h2];exact hl⟩
 refine⟨Ci cl next X,hle,⟨h1.base,?_,?_,?_,?_,?_,?_,?_,?_,h0.pk.trans hle⟩,?_,?_,?_⟩
 ·intro k hk;unfold Ci at hk;split at hk
  ·rename_i ao;rw[KV ao];have hk:(match ak F k with|some x=>some x|none=>match ak M k with|none=>c1 k|some _=>some Obj.dead)=none:=hk;cases hf:ak F k with
   |some y=>rw[hf]at hk;cases hk
   |none=>
    rw[hf]at hk;dsimp only at hk;cases hm:ak M k with
    |none=>rw[hm]at hk;exact h1.dD k hk
    |some y=>rw[hm]at hk;cases hk
  ·rename_i gw;unfold mP;rw[au gw];have:σ[k-next]?=none:=by rw[aA3]at hk ⊢;rw[<-ok.len];exact hk
   rw[this]
 ·intro k x hx;rcases src k x hx with ⟨rfl,ao,hM⟩|⟨hn,h,_⟩|⟨m,q1,q2,q3⟩
  ·cases hm:ak M k with
   |none=>exact absurd hm hM
   |some y=>
    obtain⟨l,e1,_⟩:=h0.born k y (ni k y hm);exact⟨l,hle k l e1,trivial⟩
  ·refine⟨.nil,h,?_⟩;cases x with
   |row cells ty size=>cases cells with
    |nil=>exact .inl ⟨rfl,rfl⟩
    |cons _ _=>cases hn
   |view cells=>cases cells with
    |nil=>exact .inl ⟨rfl,rfl⟩
    |cons _ _=>cases hn
   |_=>cases hn
  ·obtain⟨l,e1,e2⟩:=h1.born m x q1;refine⟨l,by rw[q2];exact e1,?_⟩;rcases q3 with ⟨ao,rfl,h|⟨hf,hm⟩⟩|⟨gw,hs,yi⟩
   ·exact e2.below low (ok.aKa _ (kW h))
   ·have e:=hk m ao hm;rw[q1]at e;obtain⟨l',f1,f2⟩:=h0.born m x e.symm;have:=vN m l' f1;rw[e1]at this;injection this with this;subst this;exact f2.aJ9 e2 vN hle
   ·exact e2.below low (ok.news _ (cM yi))
 ·intro k x b o cap hx ho hl;obtain⟨m,q1,q2,_⟩:=own k x b o cap hx ho hl;exact h1.own m x b o cap q1 ho q2
 ·intro k j x y b o cap o' aT hx Fq hy Fw hl cD;obtain⟨m,q1,q2,q3⟩:=own k x b o cap hx Fq hl;obtain⟨m',BO,q2',qW⟩:=own j y b o' aT hy Fw cD;have e:=h1.inj m m' x y b o cap o' aT q1 Fq BO Fw q2 q2';subst e;have KW:∀ k j x y,(k<next/\m=k/\(ak F k=some x\/(ak F k=none/\ak M k=none)))->(¬j<next/\σ[j-next]?=some (some m)/\X[j-next]?=some y)->False:=by
   rintro k j x y ⟨ao,rfl,h⟩ ⟨_,hs,_⟩
   obtain⟨p1,p2⟩:=ok.low _ _ hs ao;rcases h with h|h
   ·rw[p1]at h;cases h
   ·exact p2 h.2
  rcases q3 with q3|q3<;>rcases qW with qW|qW
  ·rw[<-q3.2.1,qW.2.1]
  ·exact(KW _ _ _ _ q3 qW).elim
  ·exact(KW _ _ _ _ qW q3).elim
  ·have:=ok.nodup _ _ _ q3.2.1 qW.2.1;have:=q3.1;have:=qW.1;omega
 ·intro k j x F' b o cap v hx Fq hl hj hv hf;obtain⟨m,q1,q2,_⟩:=own k x b o cap hx Fq hl;rcases src j (.fact F') hj with ⟨e,_⟩|⟨hn,_⟩|⟨m',p1,p2,_⟩
  ·cases e
  ·cases hn
  ·exact h1.apart m m' x F' b o cap v q1 Fq q2 p1 (by rw[<-p2];exact hv) hf
 ·intro k x b o cap hx KX hl;obtain⟨m,q1,q2⟩:=view k x b o cap hx KX hl;obtain⟨p1,p2⟩:=h1.seen m x b o cap q1 KX q2;refine⟨p1,λj y o' aT hy Fw hj=>?_⟩;obtain⟨m',s1,s2,_⟩:=own j y b o' aT hy Fw hj;exact p2 m' y o' aT s1 Fw s2
 ·intro j F' hj;rcases src j (.fact F') hj with ⟨e,_⟩|⟨hn,_⟩|⟨m',p1,_,_⟩
  ·cases e
  ·cases hn
  ·exact h1.fa m' F' p1
 ·intro k j F' F'' hx hy hr sW;rcases src k (.fact F') hx with ⟨e,_⟩|⟨hn,_⟩|⟨m,q1,q2,q3⟩
  ·cases e
  ·cases hn
  rcases src j (.fact F'') hy with ⟨e,_⟩|⟨hn,_⟩|⟨m',BO,q2',qW⟩
  ·cases e
  ·cases hn
  have e:=h1.one m m' F' F'' q1 BO hr sW;subst e;have KW:∀ k j x y,(k<next/\m=k/\(ak F k=some x\/(ak F k=none/\ak M k=none)))->(¬j<next/\σ[j-next]?=some (some m)/\X[j-next]?=some y)->False:=by
   rintro k j x y ⟨ao,rfl,h⟩ ⟨_,hs,_⟩
   obtain⟨p1,p2⟩:=ok.low _ _ hs ao;rcases h with h|h
   ·rw[p1]at h;cases h
   ·exact p2 h.2
  rcases q3 with q3|q3<;>rcases qW with qW|qW
  ·rw[<-q3.2.1,qW.2.1]
  ·exact(KW _ _ _ _ q3 qW).elim
  ·exact(KW _ _ _ _ qW q3).elim
  ·have:=ok.nodup _ _ _ q3.2.1 qW.2.1;have:=q3.1;have:=qW.1;omega
 ·intro k x hx;rw[iO]at hx;unfold Ci;cases hf:ak F k with
  |some y=>
   rw[hf]at hx;injection hx with hx;subst hx;have ao:=(ok.keys _ (kW hf)).1;dsimp only at ao;rw[aA ao];show(match ak F k with|some x=>some x|none=>match ak M k with|none=>c1 k|some _=>some Obj.dead)=some y;rw[hf]
  |none=>
   rw[hf]at hx;dsimp only at hx;rw[T6]at hx;by_cases ao:k<next
   ·rw[aA ao]at hx;cases hx
   ·rw[au ao]at hx ⊢;exact hx
 ·intro k gV;unfold Ci;rw[au o_,aA3];omega
 ·intro k ao hm;unfold Ci;rw[aA ao];show(match ak F k with|some x=>some x|none=>match ak M k with|none=>c1 k|some _=>some Obj.dead)=c0 k;cases hf:ak F k with
  |some y=>exact absurd hm (ok.keys _ (kW hf)).2
  |none=>rw[hm];exact hk k ao hm
theorem aKc{B4:aU}{a:Act}{next:Nat}(hf:fp B ι (bM B4) N a)(aC:∀ p∈fr,Io next σ p.2=true)(h:∀ p∈ij next σ fr,bM B4 p.1=p.2)(Cj:∀ p∈fr,nJ (yg next σ p.2)=false):
  fp B (mP ι next σ) (bM fr) N a:=by
 refine⟨hf.defers,hf.size,λt=>?_⟩;have key:∀(l:aU),(∀ p∈l,p∈fr)->oe (mP ι next σ) (bM l t) (a.tmps.getD t undef):=by
  intro l;induction l with
  |nil=>intro _;exact .inl rfl
  |cons p l ih=>
   intro hl;obtain⟨s,v⟩:=p;show oe _ (if Nat.beq s t then v else bM l t) _;by_cases hs:Nat.beq s t=true
   ·rw[aA hs];have hm:=hl _ (aR ..);have h1:=h (s,yg next σ v) (df.2 ⟨(s,v),hm,rfl⟩);dsimp only at h1;have e:=lI hs;subst e;have h2:=hf.slot s;rw[h1]at h2;exact .inr (aA1 (aC _ hm) (h2.BM (Cj _ hm)))
   ·rw[au hs];exact ih λq hq=>hl q (bK _ hq)
 exact key fr λ_ h=>h
theorem T8:∀{σ:List (Option Nat)} {X:List Obj} {m:Nat} {x:Obj},(∀ i j m:Nat,σ[i]?=some (some m)->σ[j]?=some (some m)->i=j)->(m,x)∈eg σ X->ak (eg σ X) m=some x
 |[],_,m,x,_,h=>by simp[eg]at h
 |none::_,[],m,x,_,h=>by simp[eg]at h
 |some _::_,[],m,x,_,h=>by simp[eg]at h
 |none::σ,y::X,m,x,hn,h=>T8 (σ:=σ) (X:=X) (λi j m h1 h2=>by have:=hn (i+1) (j+1) m (by simpa using h1) (by simpa using h2);omega) h
 |some q::σ,y::X,m,x,hn,h=>by
  have pq:∀ i j m:Nat,σ[i]?=some (some m)->σ[j]?=some (some m)->i=j:=λi j m h1 h2=>by have:=hn (i+1) (j+1) m (by simpa using h1) (by simpa using h2);omega
  show(if Nat.beq q m then some y else ak (eg σ X) m)=some x;rcases cE.1 h with e|h'
  ·injection e with e1 e2;subst e1;subst e2;rw[aA (H5 m)]
  ·have bB:q≠m:=by
    rintro rfl
    have idx:∀{σ:List (Option Nat)} {X:List Obj},(q,x)∈eg σ X->∃ j:Nat,σ[j]?=some (some q):=by
     intro σ;induction σ with
     |nil=>intro X h;simp[eg]at h
     |cons o σ ih=>
      intro X h;cases X with
      |nil=>cases o<;>simp[eg]at h
      |cons z X=>
       cases o with
       |none=>obtain⟨j,hj⟩:=ih (X:=X) h;exact⟨j+1,by simpa using hj⟩
       |some t=>
        rcases cE.1 h with e|h
        ·injection e with e1 _;exact⟨0,by simp[e1]⟩
        ·obtain⟨j,hj⟩:=ih (X:=X) h;exact⟨j+1,by simpa using hj⟩
    obtain⟨j,hj⟩:=idx h';have:=hn 0 (j+1) q s_ (by simpa using hj);omega
   rw[om bB];simp only[vO,vP];exact T8 pq h'
theorem T9:∀{σ:List (Option Nat)} {X:List Obj} {m:Nat} {x:Obj},(m,x)∈eg σ X->∃ j:Nat,σ[j]?=some (some m)
 |[],_,_,_,h=>by simp[eg]at h
 |none::_,[],_,_,h=>by simp[eg]at h
 |some _::_,[],_,_,h=>by simp[eg]at h
 |none::σ,_::X,_,_,h=>by obtain⟨j,hj⟩:=T9 (σ:=σ) (X:=X) h;exact⟨j+1,by simpa using hj⟩
 |some t::σ,_::X,m,x,h=>by
  rcases cE.1 h with e|h
  ·injection e with e1 _;exact⟨0,by simp[e1]⟩
  ·obtain⟨j,hj⟩:=T9 (σ:=σ) (X:=X) h;exact⟨j+1,by simpa using hj⟩
theorem Iq.agr{next:Nat}{F:aL}{X:List Obj}(ok:Iq M next σ fr F X)(h:cZ c (F++eg σ X)):
  cZ c F/\∀ p∈eg σ X,c p.1=some p.2:=by
 refine⟨λk x hx=>h k x (by rw[iO,hx]),λp hp=>?_⟩;obtain⟨m,x⟩:=p;have hf:ak F m=none:=by
  obtain⟨j,hj⟩:=T9 hp;rcases fo m next with ao|gw
  ·exact(ok.low j m hj ao).1
  ·cases hF:ak F m with
   |none=>rfl
   |some y=>have:=(ok.keys _ (kW hF)).1;dsimp only at this;omega
 exact h m x (by rw[iO,hf];exact T8 ok.nodup hp)
theorem aKd{a:Act}{next:Nat}(hf:fp B ι (bM (ij next σ fr)) N a)(aC:∀ p∈fr,Io next σ p.2=true)(Cj:∀ p∈fr,nJ (yg next σ p.2)=false):
  fp B (mP ι next σ) (bM fr) N a:=by
 refine⟨hf.defers,hf.size,λt=>?_⟩;have key:∀(l:aU),(∀ p∈l,p∈fr)->oe ι (bM (ij next σ l) t) (a.tmps.getD t undef)->oe (mP ι next σ) (bM l t) (a.tmps.getD t undef):=by
  intro l;induction l with
  |nil=>intro _ _;exact .inl rfl
  |cons p l ih=>
   intro hl h;obtain⟨s,v⟩:=p;have h:oe ι (if Nat.beq s t then yg next σ v else bM (ij next σ l) t) (a.tmps.getD t undef):=h;show oe _ (if Nat.beq s t then v else bM l t) _;by_cases hs:Nat.beq s t=true
   ·rw[aA hs]at h ⊢;have hm:=hl _ (aR ..);exact .inr (aA1 (aC _ hm) (h.BM (Cj _ hm)))
   ·rw[au hs]at h ⊢;exact ih (λq hq=>hl q (bK _ hq)) h
 exact key fr (λ_ h=>h) (hf.slot t)
theorem aKe{b:Code}{next p:Nat}{r:nh}(n:Nat)(I:Nat->aU)(F:Nat->aL)(X:Nat->List Obj)(hp:∀ i,i<=n->(X i).length=p)
  (start:∃ σ,Iq M next σ (I 0) (F 0) (X 0)/\(∀ q∈I 0,nJ (yg next σ q.2)=false)/\(∀ q∈ij next σ (I 0),bM fr q.1=q.2)/\(∀ k x,ak (F 0++eg σ (X 0)) k=some x->ak M k=some x))
  (body:∀ i,i<n->∃ σ gG,Iq M next σ (I (i+1)) (F (i+1)) (X (i+1))/\(∀ q∈I (i+1),nJ (yg next σ q.2)=false)/\ah P B N b (I i) (F i++marks next (X i)) (next+p) ⟨.normal,ij next σ (I (i+1)),F (i+1)++eg σ (X (i+1)),gG⟩)
  (last:ah P B N b (I n) (F n++marks next (X n)) (next+p) r) (hr:r.ex≠.normal):ah P B N (.loop b) fr M next r:=by
 intro R tA c0 a0 w0 Q xU kg ni wS hQ;refine Tz (n+1) ?_;have key:∀ d i,i+d=n->∀(b9:Map) (c1:g_) (a1:Act) (w1:h_),Map.le tA b9->fp B b9 (bM (I i)) N a1->aO B b9 c1 w1->cZ c1 (F i++marks next (X i))->eG c1 (next+p)->
   (∀ k,k<next->ak M k=none->ak (F i) k=none)->(∀ k,k<next->ak M k=none->c1 k=c0 k)->
   (∀ t,vD (.loop b) t=false->a1.tmps.getD t undef=a0.tmps.getD t undef)->Code.roundsIn (FW R) 0 P b Q (d+1) a1 w1:=by
  have vC:∀(i k:Nat),k<next->ak M k=none->ak (F i) k=none->ak (F i++marks next (X i)) k=none:=λi k hk _ hf=>by rw[iO,hf];dsimp only;rw[T6,aA hk]
  intro d;induction d with
  |zero=>
   intro i hi b9 c1 a1 w1 jy iq c8 eC dO Ua iu jn;have:i=n:=by omega
   subst this;rw[FN];refine last R b9 c1 a1 w1 _ iq c8 eC dO λdQ c2 a2 w2 lg iX dE gO eM fX oT=>?_;have:=hQ dQ c2 a2 w2 (jy.trans lg) iX dE gO eM (λk hk h0=>(fX k o_ (vC i k hk h0 (Ua k hk h0))).trans (iu k hk h0)) λt ht=>(oT t ht).trans (jn t ht);show Exit.then _ Q r.ex.BV a2 w2;cases hx:r.ex with
   |normal=>exact absurd hx hr
   |exit id=>rw[hx]at this;exact this
   |ret=>rw[hx]at this;exact this
  |succ d ih=>
   intro i hi b9 c1 a1 w1 jy iq c8 eC dO Ua iu jn;rw[FN];obtain⟨σ,gG,ok,Cj,hb⟩:=body i o_;refine hb R b9 c1 a1 w1 _ iq c8 eC dO λdQ c2 a2 w2 lg iX dE gO eM fX oT=>?_;obtain⟨q1,q2⟩:=ok.agr gO;have gV:∀ k,k<next->ak M k=none->c2 k=c0 k:=λk hk h0=>(fX k o_ (vC i k hk h0 (Ua k hk h0))).trans (iu k hk h0);obtain⟨c3,e1,e2,e3,e4,e5⟩:=rename ok kg wS ni (jy.trans lg) dE q1 q2 gV;rw[hp (i+1) o_]at e4;refine ih (i+1) o_ _ c3 a2 w2 e1 (aKd iX ok.jb Cj) e2 e3 e4 (λk hk h0=>?_) e5 λt ht=>(oT t ht).trans (jn t ht);cases hF:ak (F (i+1)) k with
   |none=>rfl
   |some y=>exact absurd h0 (ok.keys _ (kW hF)).2
 obtain⟨σ,ok,Cj,nL,hM⟩:=start;obtain⟨q1,q2⟩:=ok.agr (c:=c0) λk x hx=>ni k x (hM k x hx);obtain⟨c3,e1,e2,e3,e4,e5⟩:=rename ok kg wS ni (Map.le.refl _) kg q1 q2 (λ_ _ _=>rfl);rw[hp 0 o_]at e4;refine key n 0 o_ _ c3 a0 w0 e1 (aKc xU ok.jb nL Cj) e2 e3 e4 (λk hk h0=>?_) e5 λ_ _=>rfl;cases hF:ak (F 0) k with
 |none=>rfl
 |some y=>exact absurd h0 (ok.keys _ (kW hF)).2
end
def ik(n a:Nat):List UInt8:=(List.range n).map λi=>UInt8.ofNat (a/256^(n-1-i)%256)
theorem KY(n a:Nat):(ik n a).length=n:=by simp[ik]
theorem yj(n a:Nat):ik (n+1) a=UInt8.ofNat (a/256^n%256)::ik n a:=by
 unfold ik;rw[List.range_succ_eq_map,mL,Ub]
 congr 1
 refine uD λi hi=>?_;have hi:=kh.1 hi;show UInt8.ofNat (a/256^(n+1-1-(i+1))%256)=_;rw[show n+1-1-(i+1)=n-1-i by omega]
theorem OV(a:Nat):ik 0 a=[]:=rfl
theorem aA4(n a m:Nat)(h:n<=m):ik n (a%256^m)=ik n a:=by
 unfold ik;refine uD λi hi=>?_;have hi:=kh.1 hi
 congr 1
 obtain⟨s,hs⟩:∃ s,m=(n-1-i)+1+s:=⟨m-(n-1-i)-1,by omega⟩;have e:256^m=256^(n-1-i)*(256*256^s):=by rw[hs,eW,dH,gA]
 rw[e,Cc,KQ]
theorem aA5(m n a:Nat):ik (m+n) a=ik m (a/256^n)++ik n a:=by
 induction m with
 |zero=>simp[OV]
 |succ m ih=>
  rw[show m+1+n=(m+n)+1 by omega,yj,yj,ih,DZ,lJ,<-eW,nN n m]
theorem aKf(n a:Nat):gJ (ik n a)=a%256^n:=by
 induction n with
 |zero=>simp[OV,gJ,uH]
 |succ n ih=>
  rw[yj,KP,ih,KY];have h1:(UInt8.ofNat (a/256^n%256)).toNat=a/256^n%256:=by rw[OW];exact dZ (cU _ d_)
  rw[h1,dH,Ow,c7 (256^n),nN]
def cO(a:Nat):List UInt8:=ik (nd 256 a) a
theorem F8(a:Nat):gJ (cO a)=a:=by unfold cO;rw[aKf,dZ (eE d_ a)]
theorem D0:cO 0=[]:=by unfold cO;rw[oV];rfl
theorem uL(a:Nat):(cO a).length=nd 256 a:=KY _ _
theorem aKg:cO a=[]↔a=0:=by
 constructor
 ·intro h;have:=F8 a;rw[h]at this;exact this.symm
 ·rintro rfl;exact D0
theorem aKh(h:cO a=cO b):a=b:=by rw[<-F8 a,h,F8]
theorem OX(h:a≠0):∃ c l,cO a=c::l/\c≠0:=by
 have hp:=x7 (B:=256) d_ h;obtain⟨n,hn⟩:∃ n,nd 256 a=n+1:=⟨nd 256 a-1,by omega⟩;have ao:=eE (B:=256) d_ a;rw[hn]at ao;refine⟨_,_,by unfold cO;rw[hn,yj],λe=>?_⟩;have h1:(UInt8.ofNat (a/256^n%256)).toNat=a/256^n%256:=by rw[OW];exact dZ (cU _ d_)
 rw[e]at h1;have h2:a<256^n:=(H9 d_ ao).1 h1.symm;have:=jK (B:=256) d_ h2;omega
theorem aKi(k:Nat)(l:List UInt8):ku (List.replicate k 0++l)=k+ku l:=by
 induction k with
 |zero=>simp
 |succ k ih=>
  have e:ku (0::(List.replicate k 0++l))=ku (List.replicate k 0++l)+1:=rfl;rw[List.replicate_succ,DZ,e,ih];omega
theorem aA6{n:Nat}(h:a<256^n):ik (k+n) a=List.replicate k 0++ik n a:=by
 rw[aA5,nj h]
 congr 1
 induction k with
 |zero=>rfl
 |succ k ih=>rw[yj,ih,List.replicate_succ,Nat.zero_div];rfl
theorem aKj{n:Nat}(h:a<256^n):KS (ik n a)=cO a:=by
 have hle:=jK (B:=256) d_ h;obtain⟨k,hk⟩:∃ k,n=k+nd 256 a:=⟨n-nd 256 a,by omega⟩;have hz:ku (ik (nd 256 a) a)=0:=by
  by_cases h0:a=0
  ·subst h0;rw[oV];rfl
  ·obtain⟨c,l,e,hc⟩:=OX h0;unfold cO at e;rw[e];unfold ku;rw[au hc]
 unfold KS;rw[hk,aA6 (eE d_ a),aKi,hz,jv,List.drop_append_of_le_length s_];simp[cO]
theorem aA7{c:UInt8}{l:List UInt8}(h:c≠0):256^l.length<=gJ (c::l):=by
 rw[KP];have:1<=c.toNat:=by
  rcases ow c.toNat with e|e
  ·exact absurd (OP.1 (by rw[e];rfl)) h
  ·exact e
 have:=fe (256^l.length) this;omega
theorem aKk{l:List UInt8}(h:∀ c r,l=c::r->c≠0):cO (gJ l)=l:=by
 have hlen:nd 256 (gJ l)=l.length:=by
  refine aA8 (jK d_ (Cb l)) ?_;cases l with
  |nil=>simp
  |cons c r=>
   have h1:=aA7 (l:=r) (h c r rfl);rcases fo (nd 256 (gJ (c::r))) (r.length+1)with h2|h2
   ·have h3:=eE (B:=256) d_ (gJ (c::r));have h4:256^nd 256 (gJ (c::r))<=256^r.length:=dj d_ o_;omega
   ·exact h2
 unfold cO;rw[hlen];clear hlen h;induction l with
 |nil=>rfl
 |cons c r ih=>
  have hv:=Cb r;have hp:0<256^r.length:=cT d_;rw[qd,yj,KP]
  congr 1
  ·rw[nN,qj _ _ hp,nj hv,kT];have hc:c.toNat<256:=c.toNat_lt;rw[dZ hc];simp
  ·rw[<-aA4 _ _ _ (bF r.length),nN,D1,dZ hv,ih]
theorem aKl(d:Nat):ik 4 d=[UInt8.ofNat (d/16777216%256),UInt8.ofNat (d/65536%256),UInt8.ofNat (d/256%256),UInt8.ofNat (d%256)]:=by rw[yj,yj,yj,yj,OV];simp
section
variable{P:j_}{B:aa}{N:Nat}
def aZ.mkc(fn:Func)(key k cp e size bytes:Nat)(z:i_)(hb:bytes*cp<=281474976710656)(hn:cp<=maxLen)(ho:Ot P (az fn key)=some (e,size,bytes,z)):aZ P B N:=
 .step key (az fn key) [vI 0,vI cp] [(k,none)] (.slice (some ⟨k,0,some 7⟩) 0 0) [(k,.row [] e size)] (by
  unfold Ot at ho;split at ho
  ·rename_i t a b ck;split at ho
   ·rename_i e' ht;split at ho
    ·rename_i i hi;split at ho
     ·rename_i z' oO;injection ho with ho;injection ho with h1 ho;injection ho with h2 ho;injection ho with h3 h4;subst h1;subst h4;have:=ZF (P:=P) (B:=B) ck ht hi oO (kl:=.i64) (kc:=.i64) (l:=0) (cp:=cp) (lY _) (by rw[h3];exact hb) hn (cells:=[]) (by rw[l9,aA9]) s_ n_ k;rw[h2]at this;exact this.step
     ·cases ho
    ·cases ho
   ·cases ho
  ·cases ho)
def aZ.qX(fn:Func)(key k j n m nm e size bytes:Nat)(cells:al)(q:Nat)(x:Obj)(new:al)(kX:n+m=nm)(hx:x.reads=true)(hlen:x.cells.length=m*size)(jI:cells.length=n*size)(lX:cells++x.cells=new)
  (h1:∀ v∈x.cells,v.oneCell'=true) (bL:0<size) (h63:nm<=maxLen) (hb:nm*bytes<=140737488355328) (ho:F6 P (az fn key)=some (e,size,bytes,size,true)):aZ P B N:=
 .step key (az fn key) [.slice (some ⟨j,0,some 7⟩) n 0,.slice (some ⟨q,0,some 7⟩) m 0] [(k,none),(j,some (.row cells e size)),(q,some x)] (.slice (some ⟨k,0,some 7⟩) nm 0) [(k,.row new e size),(j,.dead)] (by
  subst kX;have hs:Ds B (.slice (some ⟨q,0,some 7⟩) m 0) m x.cells [(q,some x)]:=by have:=NS (B:=B) (k:=q) (off:=0) (m:=m) (cc:=0) hx (len:=m*size) (λh=>by rw[h,l9]);rw[nk,lh (wG hlen)]at this;exact this
  have:=aAY (B:=B) ho bL hs hlen h1 (j:=j) (n:=n) (cells:=cells) (wG jI.symm) h63 hb k;rw[lh (wG jI),lX]at this;exact this)
def iy(l:List UInt8):al:=l.map λc=>.int .u8 (c.toNat:Int)
theorem aKm(l:List UInt8):∀ u∈iy l,flat u=true:=λu hu=>by obtain⟨x,_,rfl⟩:=df.1 hu;rfl
theorem aBa(l:List UInt8):∀ acc:List UInt8,(l.map λc=>(c.toNat:Int)).foldl (λ(r:ByteArray) (n:Int)=>r.push (UInt8.ofNat n.toNat)) (BA acc)=BA (acc++l):=by
 induction l with
 |nil=>intro acc;simp
 |cons c l ih=>
  intro acc;rw[mL,vF];have e:(BA acc).push (UInt8.ofNat ((c.toNat:Int)).toNat)=BA (acc++[c]):=by unfold BA;simp[ByteArray.push]
  rw[e,ih,FL];rfl
def OY(P:j_)(o:Oper):Bool:=match o.op with
 |.convert src dst _=>match P.underlying src,P.underlying dst with
  |some (.slice e),some .string=>(match P.underlying e with|some (.int .u8)=>true|_=>false)
  |_,_=>false
 |_=>false
def aZ.Uc(fn:Func)(key k n:Nat)(l:List UInt8)(x:Obj)(hx:x.reads=true)(hc:x.cells=iy l)(hn:l.length=n)(ho:OY P (az fn key)=true):aZ P B N:=
 .step key (az fn key) [.slice (some ⟨k,0,some 7⟩) n 0] [(k,some x)] (.string (BA l)) [] (by
  unfold OY at ho;split at ho
  ·rename_i src dst y ck;split at ho
   ·rename_i e hs hd;split at ho
    ·rename_i he;have:=ZH (P:=P) (B:=B) ck hs he hd (k:=k) (off:=0) (n:=n) (cc:=0) (y:=x) (ns:=l.map λc=>(c.toNat:Int)) hx (by rw[hc,nk,lh (by simp[iy,hn])];simp[iy,Function.comp_def]) (by simpa using hn)
     have e2:=aBa l [];rw[jJ]at e2;rw[show ByteArray.empty=BA []from rfl,e2]at this;exact this.step
    ·cases ho
   ·cases ho
  ·cases ho)
end
section
variable{P:j_}{B:aa}{N:Nat}
theorem Ir{x:Obj}(h:∀ u∈x.cells,flat u=true):fR m x:=λu hu=>gP (h u hu)
def Is:List (Option Nat)->Bool
 |[]=>true
 |none::l=>Is l
 |some m::l=>(l.all λo=>match o with|some k=>!Nat.beq m k|none=>true)&&Is l
theorem aBb:∀{σ:List (Option Nat)},Is σ=true->∀ i j m:Nat,σ[i]?=some (some m)->σ[j]?=some (some m)->i=j
 |[],_,i,j,m,h,_=>by simp at h
 |o::l,h,i,j,m,h1,h2=>by
  have hl:Is l=true/\∀ k,o=some k->∀ j:Nat,l[j]?≠some (some k):=by
   cases o with
   |none=>exact⟨h,λk e=>by cases e⟩
   |some q=>
    simp only[Is,dc,bC]at h;refine⟨h.2,λk e j hj=>?_⟩;injection e with e;subst e;have:=h.1 _ (cM hj);simp at this
  cases i with
  |zero=>
   cases j with
   |zero=>rfl
   |succ j=>
    simp at h1 h2;exact absurd h2 (hl.2 m h1 j)
  |succ i=>
   cases j with
   |zero=>
    simp at h1 h2;exact absurd h1 (hl.2 m h2 i)
   |succ j=>
    simp at h1 h2;rw[aBb hl.1 i j m h1 h2]
def aBc(M:aL)(F:aL)(next:Nat)(σ:List (Option Nat)):Bool:=σ.all λo=>match o with
 |some m=>Nat.ble next m||((match ak F m with|none=>true|some _=>false)&&(match ak M m with|none=>false|some _=>true))
 |none=>true
def It:List (Option Nat)->List Obj->Bool
 |none::σ,x::X=>x.isNil&&It σ X
 |some _::σ,_::X=>It σ X
 |_,_=>true
theorem aBd:∀{σ:List (Option Nat)} {X:List Obj},It σ X=true->∀(i:Nat) (x:Obj),σ[i]?=some none->X[i]?=some x->x.isNil=true
 |[],_,_,i,x,h,_=>by simp at h
 |_::_,[],_,i,x,_,h=>by simp at h
 |o::σ,y::X,h,i,x,h1,h2=>by
  cases i with
  |zero=>
   simp at h1 h2;subst h1;subst h2;simp only[It,dc]at h;exact h.1
  |succ i=>
   simp at h1 h2;refine aBd (σ:=σ) (X:=X) ?_ i x h1 h2;cases o with
   |none=>simp only[It,dc]at h;exact h.2
   |some _=>exact h
def D2(M:aL)(next:Nat)(σ:List (Option Nat))(fr:aU)(F:aL)(X:List Obj):Bool:=
 Nat.beq X.length σ.length&&(Is σ&&(aBc M F next σ&&(It σ X&&((fr.all λp=>Io next σ p.2&&!nJ (yg next σ p.2))&&(F.all λp=>Nat.blt p.1 next&&(match ak M p.1 with|none=>false|some _=>true))))))
theorem aBe{next:Nat}{F:aL}{X:List Obj}(h:D2 M next σ fr F X=true)(hF:∀ p∈F,fR next p.2)(hX:∀ x∈X,fR next x):
  Iq M next σ fr F X/\∀ q∈fr,nJ (yg next σ q.2)=false:=by
 simp only[D2,dc,bC,zZ]at h;obtain⟨h1,h2,h3,h4,h5,h6⟩:=h;refine⟨⟨lI h1,aBb h2,λi m hi hm=>?_,aBd h4,λp hp=>(h5 p hp).1,λp hp=>?_,hF,hX⟩,λq hq=>(h5 q hq).2⟩
 ·unfold aBc at h3;rw[bC]at h3;have:=h3 _ (cM hi);simp only[vG,dc]at this;rcases this with this|⟨p1,p2⟩
  ·have:=sY this;omega
  ·constructor
   ·cases hf:ak F m with
    |none=>rfl
    |some y=>rw[hf]at p1;cases p1
   ·intro e;rw[e]at p2;cases p2
 ·obtain⟨q1,q2⟩:=h6 p hp;refine⟨Nat.lt_of_succ_le (by simpa[Nat.blt]using q1),λe=>?_⟩;rw[e]at q2;cases q2
theorem rX{b:Code}{next p:Nat}{r:nh}(n:Nat)(I:Nat->aU)(F:Nat->aL)(X:Nat->List Obj)(Ck:List (Option Nat))(hp:∀ i,i<=n->(X i).length=p)
  (D3:∀ i,i<=n->(∀ q∈F i,fR next q.2)/\∀ x∈X i,fR next x) (h0:D2 (F 0++eg Ck (X 0)) next Ck (I 0) (F 0) (X 0)=true)
  (hs:((ij next Ck (I 0)).map λq=>bM (ij next Ck (I 0)) q.1)=(ij next Ck (I 0)).map λq=>q.2)
  (body:∀ i,i<n->∃ σ gG,D2 (F 0++eg Ck (X 0)) next σ (I (i+1)) (F (i+1)) (X (i+1))=true/\ah P B N b (I i) (F i++marks next (X i)) (next+p) ⟨.normal,ij next σ (I (i+1)),F (i+1)++eg σ (X (i+1)),gG⟩)
  (last:ah P B N b (I n) (F n++marks next (X n)) (next+p) r) (hr:r.ex≠.normal):ah P B N (.loop b) (ij next Ck (I 0)) (F 0++eg Ck (X 0)) next r:=by
 refine aKe n I F X hp ?_ ?_ last hr
 ·obtain⟨q1,q2⟩:=aBe h0 (D3 0 (lY _)).1 (D3 0 (lY _)).2;exact⟨Ck,q1,q2,Oo hs,λ_ _ h=>h⟩
 ·intro i hi;obtain⟨σ,gG,e1,e2⟩:=body i hi;obtain⟨q1,q2⟩:=aBe e1 (D3 (i+1) o_).1 (D3 (i+1) o_).2;exact⟨σ,gG,q1,q2,e2⟩
end
def vb(m:Nat):Value:=.int .u8 (m:Int)
theorem aKn(d:Nat):iy (ik 4 d)=[vb (d/16777216%256),vb (d/65536%256),vb (d/256%256),vb (d%256)]:=by
 have e:∀ m,Value.int .u8 ((UInt8.ofNat (m%256)).toNat:Int)=vb (m%256):=λm=>by rw[OW,dZ (cU _ d_)];rfl
 rw[aKl];simp only[iy,mL,Ud,e]
theorem OZ(l m:List UInt8):iy (l++m)=iy l++iy m:=by simp[iy]
theorem F9(l:List UInt8):(iy l).length=l.length:=by simp[iy]
section
variable{Bs:aa}{n a:Nat}
def Iu(n j m:Nat):aU:=[(4,dw j),(0,sl 0 n),(3,sl 2 (4*m))]
def Ga(n a:Nat):aL:=[(0,.view (av (ae base n a)))]
def Gb(a j m:Nat):List Obj:=[.row (iy (ik (4*m) (a/base^j))) 5 1]
theorem aKo(hn:n=m+1+j)(h63:n<35184372088832):
  ah prog Bs 45 (aK (ai f179 0)) (Iu n (j+1) m) (Ga n a++marks 2 (Gb a (j+1) m)) 3 ⟨.normal,ij 2 [some 4] (Iu n j (m+1)),Ga n a++eg [some 4] (Gb a j (m+1)),5⟩:=by
 have hj:j<n:=by omega
 obtain⟨d,hd⟩:∃ d,d=a/base^j%base:=⟨_,rfl⟩;have nP:d<base:=by rw[hd];exact iG d_ a j
 have jz:(av (ae base n a))[j]?=some (aX d):=by rw[hd];exact lL (eU hj)
 have sh:∀ k:Nat,(d:Int).fdiv ((2:Int)^k)=((d/2^k:Nat):Int):=λk=>by rw[ti _ (Iv d_),uJ,Iw];rfl
 have w8:∀ m:Nat,IntKind.u8.wrap ((m:Nat):Int)=((m%256:Nat):Int):=λm=>by rw[aBf];omega
 have lX:iy (ik (4*m) (a/base^(j+1)))++[vb (d/2^24%256),vb (d/2^16%256),vb (d/2^8%256),vb (d%256)]=iy (ik (4*(m+1)) (a/base^j)):=by
  have e1:a/base^j/256^4=a/base^(j+1):=by rw[show(256:Nat)^4=base by decide,lJ,<-dH]
  rw[show 4*(m+1)=4*m+4 by omega,aA5,e1,OZ,<-aA4 4 (a/base^j) 4 (bF _),show a/base^j%256^4=d from hd.symm,aKn]
 exact aG [.rw 12 (dw (j+1)) (vI j) (eH j),.ge 13 j 0 true s_,.rw 18 (dw (j+1)) (vI j) (eH j),.ix f179 19 0 n j hj k_,.ld f179 20 175 0 j (.view (av (ae base n a))) (aX d) rfl (by rw[gB];exact jz) k_,.quo 21 .u32 ((d:Int).fdiv ((2:Int)^24)) ((d/2^24:Nat):Int) (sh 24),.wr 22 .u8 ((d/2^24:Nat):Int) ((d/2^24%256:Nat):Int) (w8 _),.rw 24 (dw (j+1)) (vI j) (eH j),.ix f179 25 0 n j hj k_,.ld f179 26 175 0 j (.view (av (ae base n a))) (aX d) rfl (by rw[gB];exact jz) k_,.quo 27 .u32 ((d:Int).fdiv ((2:Int)^16)) ((d/2^16:Nat):Int) (sh 16),.wr 28 .u8 ((d/2^16:Nat):Int) ((d/2^16%256:Nat):Int) (w8 _),.rw 30 (dw (j+1)) (vI j) (eH j),.ix f179 31 0 n j hj k_,.ld f179 32 175 0 j (.view (av (ae base n a))) (aX d) rfl (by rw[gB];exact jz) k_,.quo 33 .u32 ((d:Int).fdiv ((2:Int)^8)) ((d/2^8:Nat):Int) (sh 8),.wr 34 .u8 ((d/2^8:Nat):Int) ((d/2^8%256:Nat):Int) (w8 _),.rw 36 (dw (j+1)) (vI j) (eH j),.ix f179 37 0 n j hj k_,.ld f179 38 175 0 j (.view (av (ae base n a))) (aX d) rfl (by rw[gB];exact jz) k_,.wr 39 .u8 (d:Int) ((d%256:Nat):Int) (w8 _),.bs f179 40 3 4 5 1 [0,1,2,3] (vb 0) [vb (d/2^24%256),vb (d/2^16%256),vb (d/2^8%256),vb (d%256)] #[vb (d/2^24%256),vb (d/2^16%256),vb (d/2^8%256),vb (d%256)]
   (.row [vb (d/2^24%256),vb (d/2^16%256),vb (d/2^8%256),vb (d%256)] 5 1) rfl (λv hv=>by simp at hv;rcases hv with rfl|rfl|rfl|rfl<;>rfl) (λv hv=>by simp at hv;rcases hv with rfl|rfl|rfl|rfl<;>rfl) k_ rfl o_ o_ k_,
  .qX f179 41 4 2 (4*m) 4 (4*(m+1)) 5 1 1 (iy (ik (4*m) (a/base^(j+1)))) 3 (.row [vb (d/2^24%256),vb (d/2^16%256),vb (d/2^8%256),vb (d%256)] 5 1) (iy (ik (4*(m+1)) (a/base^j)))
   o_ rfl rfl (by rw[F9,KY];omega) lX (λv hv=>by simp[Obj.cells]at hv;rcases hv with rfl|rfl|rfl|rfl<;>rfl) o_ (by simp[maxLen];omega) o_ k_,
  .rw 14 (dw (j+1)) (vI j) (eH j),.wr 15 .i64 ((j:Int)-1) ((j:Int)-1) (pE o_)]
theorem aKp(h63:n<35184372088832):
  ah prog Bs 45 (.block 0 (ai f179 0)) (ij 2 [some 1] (Iu n n 0)) (Ga n a++eg [some 1] (Gb a n 0)) 2 ⟨.normal,Iu n 0 n,Ga n a++marks 2 (Gb a 0 n),3⟩:=by
 have:=rX (P:=prog) (B:=Bs) (N:=45) (b:=aK (ai f179 0)) (next:=2) (p:=1) (r:=⟨.exit 0,Iu n 0 n,Ga n a++marks 2 (Gb a 0 n),3⟩) n (λi=>Iu n (n-i) i) (λ_=>Ga n a) (λi=>Gb a (n-i) i) [some 1] (λ_ _=>rfl)
  (λi _=>⟨λq hq=>by simp[Ga]at hq;subst hq;exact Ir (ga _),λx hx=>by simp[Gb]at hx;subst hx;exact Ir (aKm _)⟩) k_ k_
  (λi hi=>⟨[some 4],5,k_,by
   obtain⟨j,hj⟩:∃ j,n=i+1+j:=⟨n-(i+1),by omega⟩;have e1:n-i=j+1:=by omega
   have e2:n-(i+1)=j:=by omega
   simp only[e1,e2];exact aKo hj h63⟩)
  (by simp only[wR];exact aG [.rw 13 (.bool (decide (((0:Nat):Int)-1>=0))) a_ rfl]) n_
 simp only[H7]at this;exact cg (id:=0) this
end
theorem aBg(gQ:jd w va a)(h1:nd base a<35184372088832):
  Calls prog 179 #[va] w λe w'=>e=.returned (.string (BA (cO a)))/\Below w.heap.size w w':=by
 have ao:=eE (B:=base) d_ a;have hl:∀ s∈[cJ.row va (nd base a) (av (ae base (nd base a) a))],s.OK w:=by intro s hs;simp at hs;subst hs;exact⟨gQ,ga _⟩
 unfold jd at gQ;generalize nd base a=n at *;have ht:KS (ik (4*n) (a/base^0))=cO a:=by rw[tn,F4];refine aKj ?_;rw[tu];exact ao
 have tl:=aJW (ik (4*n) (a/base^0));rw[ht]at tl
 refine mN (Q:=λe w'=>e=.returned (.string (BA (cO a)))/\Below w.heap.size w w') mixed func179 [cJ.row va n (av (ae base n a))] hl 100 (N:=45) k_
  (rs:=[(aZ.wr 7 .i64 (4*(n:Int)) ((4*n:Nat):Int) (by rw[eD];omega):aZ prog (aa.at w) 45),.mkc f179 8 1 (4*n) 5 1 1 (vb 0) o_ (by simp[maxLen];omega) k_,.wr 11 .i64 ((n:Int)-1) ((n:Int)-1) (pE o_),.code 0 _ _ _ _ _ (aKp (n:=n) (a:=a) h1),.Uc f179 43 2 (4*n) (ik (4*n) (a/base^0)) (.row (iy (ik (4*n) (a/base^0))) 5 1) rfl rfl (KY _ _) k_,tl.at 44])
  (v:=.string (BA (cO a))) (ms:=[]) k_ λaB cr v' w' hc bJ _ _=>⟨by rw[hc.fH rfl],bJ.base⟩
section
variable{P:j_}{B:aa}{N:Nat}
def cJ.apart(g:Nat):cJ->Prop
 |.plain _=>True
 |.row v n _=>∀ b o c',v=.slice (some ⟨b,o,none⟩) n c'->b≠g
theorem Ue{w:h_}{g:Nat}:∀(l:List cJ) (k:Nat) (ι:Map) (c:g_),aO B ι c w->(∀ j x b o cap,c j=some x->x.owns=true->ι j=some (.at b o cap)->b=g)->eG c k->(∀ s∈l,cJ.OK w s)->(∀ s∈l,cJ.apart g s)->
  ∃ aB c',Map.le ι aB/\aO B aB c' w/\eG c' (uF k l)/\cZ c' (vJ k l)/\(∀ j,j<k->c' j=c j)/\bY (aM aB) (tg k l) (l.map cJ.real)/\k<=uF k l
 |[],k,ι,c,hm,ho,hu,_,_=>⟨ι,c,Map.le.refl _,hm,hu,λk x h=>(by cases h),λ_ _=>rfl,.nil,bF _⟩
 |.plain v::l,k,ι,c,hm,ho,hu,hl,bB=>by obtain⟨aB,c',h1,h2,h3,h4,h5,h6,h7⟩:=Ue l k ι c hm ho hu (λs hs=>hl s (bK _ hs)) (λs hs=>bB s (bK _ hs));have hv:flat v=true:=hl _ (aR ..);exact⟨aB,c',h1,h2,h3,h4,h5,.cons (.same hv) h6,h7⟩
 |.row v n xs::l,k,ι,c,hm,ho,hu,hl,bB=>by
  obtain⟨hv,cV⟩:dr w v n xs/\∀ u∈xs,flat u=true:=hl _ (aR ..);have hap:∀ b o c',v=.slice (some ⟨b,o,none⟩) n c'->b≠g:=bB _ (aR ..);obtain⟨b9,q1,q2,q3⟩:=Ad hm (k:=k) (hu k (bF _)) hv cV (λb o c' hb j y o' aT hj hy he=>hap b o c' hb (ho j y b o' aT hj hy he));have yk:∀ j x b o cap,bA c k (.view xs) j=some x->x.owns=true->b9 j=some (.at b o cap)->b=g:=by
   intro j x b o cap hj hx hb;unfold bA at hj;by_cases ch:j=k
   ·rw[aA ch]at hj;injection hj with hj;subst hj;cases hx
   ·rw[au ch]at hj;obtain⟨lo,e1,_⟩:=hm.born j x hj;have:=q1 j lo e1;rw[hb]at this;injection this with this;subst this;exact ho j x b o cap hj hx e1
  have dO:eG (bA c k (.view xs)) (k+1):=λj hj=>by unfold bA;rw[au o_];exact hu j o_
  obtain⟨aB,c',h1,h2,h3,h4,h5,h6,h7⟩:=Ue l (k+1) b9 _ q2 yk dO (λs hs=>hl s (bK _ hs)) (λs hs=>bB s (bK _ hs));refine⟨aB,c',q1.trans h1,h2,h3,λj x hj=>?_,λj hj=>?_,.cons (q3.mono h1) h6,by show k<=uF (k+1) l;omega⟩
  ·unfold vJ ak at hj;split at hj
   ·rename_i hb;injection hj with hj;subst hj;rw[<-lI hb,h5 k o_];unfold bA;rw[aA rfl]
   ·exact h4 j x hj
  ·rw[h5 j o_];unfold bA;rw[au o_]
theorem aKq{g:Nat}{cells:al}{c':Nat}{v:i_}(ja:P.follows .mixedOrders=true)(hf:P.funcs[f]?=some fn)
  (hg:w.heap[g]?=some (.cells cur ty (0,0))) (kf:cap<=maxLen) (bL:cur.size=cap*size) (hc:cur.toList.take cells.length=cells) (cV:∀ v∈cells,flat v=true) (Ca:∀ v∈cells',flat v=true) (hn:m<=c') (nK:cc+c'=cap)
  (l:List cJ) (hl:∀ s∈l,cJ.OK w s) (bB:∀ s∈l,cJ.apart g s) (n:Nat) {N:Nat} (hN:N=((.slice (some ⟨0,off,some 7⟩) m cc:i_)::tg 1 l).length+(fn.ntmps-((.slice (some ⟨0,off,some 7⟩) m cc:i_)::tg 1 l).length))
  {rs:bN P (aa.wP w g) N}
  (h:pv (iv (P:=P) fn n (.slice (some ⟨0,off,some 7⟩) m cc::tg 1 l) ((0,.row cells ty size)::vJ 1 l) (uF 1 l) rs) ((0,.row cells' ty size)::ms)=pw (iv fn n (.slice (some ⟨0,off,some 7⟩) m cc::tg 1 l) ((0,.row cells ty size)::vJ 1 l) (uF 1 l) rs) v ((0,.row cells' ty size)::ms))
  (hQ:∀ aB Uf v' w',aB 0=some (.at g 0 cap)->aM aB v v'->B9 g w w'->(∃ gE,w'.heap[g]?=some (.cells gE ty (0,0))/\gE.size=cap*size/\gE.toList.take cells'.length=cells')->aO (aa.wP w g) aB Uf w'->(∀ p∈ms,Uf p.1=some p.2)->Q (.returned v') w') :
  Calls P f (.slice (some ⟨g,off,none⟩) m c'::l.map cJ.real).toArray w Q:=by
 have kg:=TQ hg kf bL hc cV;have aBh:dT (λ_=>none) 0 (.at g 0 cap) 0=some (.at g 0 cap):=gu _ _ _;obtain⟨ι,c,h1,h2,h3,h4,h5,h6,h7⟩:=Ue (g:=g) l 1 _ _ kg (λj x b o cp hj _ hb=>by
   by_cases Cm:j=0
   ·subst Cm;rw[aBh]at hb;injection hb with hb;injection hb with hb _ _;exact hb.symm
   ·unfold dT at hb;rw[au Cm]at hb;cases hb) (λk hk=>by unfold bA;rw[au o_]) hl bB
 have rN:ι 0=some (.at g 0 cap):=h1 0 _ aBh;have ha:cZ c ((0,.row cells ty size)::vJ 1 l):=λk x hk=>by
  unfold ak at hk;split at hk
  ·rename_i hb;injection hk with hk;subst hk;rw[<-lI hb,h5 0 o_];unfold bA;rw[aA rfl]
  ·exact h4 k x hk
 have aKr:aM ι (.slice (some ⟨0,off,some 7⟩) m cc) (.slice (some ⟨g,off,none⟩) m c'):=by have:=aM.slc (off:=off) rN hn nK;rwa[kT]at this
 refine vH ja hf hN n h (.cons aKr h6) h2 ha h3 λaB cr v' w' hle kS hm dW=>?_;obtain⟨e1,e2⟩:=TR hm (hle 0 _ rN) (dW _ (aR ..)) Ca;exact hQ aB cr v' w' (hle 0 _ rN) kS e1 e2 hm λp hp=>dW p (bK _ hp)
theorem aKs{x:m_}{Ug:Nat}{cells:al}{val:i_}(ho:dC o.op=some x)(fq:gW P f=true)(hkk:k2≠k)(kg:0<m)
  (cV:∀ v∈cells,flat v=true) (Ca:∀ v∈cells',flat v=true) (kt:flat val=true) (iD:x2.reads=true) (aKt:∀ v∈x2.cells,flat v=true) (aKu:n2=0->Ug=0)
  (h:∀ w g cap cur c' v2,w.heap[g]?=some (.cells cur ty (0,0))->m<=c'->cc+c'=cap->cap<=maxLen->cur.size=cap*size->cur.toList.take cells.length=cells->dr w v2 n2 (x2.cells.take Ug)->(∀ b o c,v2=.slice (some ⟨b,o,none⟩) n2 c->b≠g)->Calls P f #[.slice (some ⟨g,off,none⟩) m c',v2] w λe w'=>e=.returned val/\B9 g w w'/\∃ gE,w'.heap[g]?=some (.cells gE ty (0,0))/\gE.size=cap*size/\gE.toList.take cells'.length=cells') :
  cI P B o [.func (.func f) #[] #[],.slice (some ⟨k,off,some 7⟩) m cc,.slice (some ⟨k2,0,some 7⟩) n2 0] [(k,some (.row cells ty size)),(k2,some x2)] val [(k,.row cells' ty size)]:=by
 refine kj (fi:=[]) (ca:=[]) ho fq λι c w hm e7 args' bo=>?_;have hk:c k=some (.row cells ty size):=e7 _ (aR ..);have fX:c k2=some x2:=e7 _ (bK _ (aR ..));obtain⟨v,v2,rfl,hv,iF⟩:=jH bo;have hr:=pA hm fX iD aKt aKu iF;rw[nk]at hr;rcases hv.iM rfl with ⟨_,h0,_⟩|⟨g,oo,cap,c',hb,lF,nK,he⟩
 ·omega
 ·dsimp only at hb he;obtain⟨l,q1,q2⟩:=hm.born k _ hk;rw[hb]at q1;injection q1 with q1;subst q1;rcases q2 with q2|⟨b,aT,cur,e1,mY,dV,gv,jI⟩
  ·cases q2.1
  ·injection e1 with e1 e2 e3;subst e1;subst e2;subst e3;rw[kT]at he;rw[he];have bB:∀ b o c,v2=.slice (some ⟨b,o,none⟩) n2 c->b≠g:=by
    rintro b o c1 rfl rfl
    rcases iF.iM rfl with ⟨_,_,_,_,e⟩|⟨b',o',aT,c2,gy,_,_,e⟩
    ·cases e
    ·injection e with e _ _;injection e with e;injection e with e _ _;subst e;simp only[Obj.reads,vG]at iD;rcases iD with iD|iD
     ·exact hkk (hm.inj k2 k x2 _ _ _ _ _ _ fX iD hk rfl gy hb)
     ·exact(hm.seen k2 x2 _ _ _ fX iD gy).2 k _ _ _ hk rfl hb
   refine(h w g cap cur c' v2 mY lF nK dV gv (oj jI cV) hr bB).mono ?_
   rintro e w' ⟨rfl,qU,gE,p1,p2,p3⟩
   refine⟨ι,val,rfl,Map.le.refl _,.same kt,hm.write hk rfl hb qU.os qU.tape qU.output qU.size (λj hj F0=>qU.block j hj F0) (.inr ⟨g,cap,gE,rfl,p1,dV,p2,?_⟩) n_ rfl⟩;rw[p3];exact lE Ca
end
section
variable{B U V n T v1 v2 u2:Nat}
structure nr(B n U V T u2 v1 v2:Nat):Prop where
 hB:2<=B
 hU:U<V*B
 hT:T=U/B^(n+1)
 hu:u2=U/B^n%B
 kU:v1=V/B^(n+1)
 iF:v2=V/B^n%B
 top:B<=2*v1
 D4:v1<B
theorem nr.pow(h:nr B n U V T u2 v1 v2):0<B^n:=cT (by have:=h.hB;omega)
theorem nr.two(h:nr B n U V T u2 v1 v2):U/B^n=T*B+u2/\V/B^n=v1*B+v2:=by rw[h.hT,h.hu,h.kU,h.iF];exact⟨ya U n,ya V n⟩
theorem nr.aKv(h:nr B n U V T u2 v1 v2)(hq:q*v1<=T->False):U/V<q:=by
 have rY:0<V:=by
  rcases ow V with e|e
  ·have:=h.hU;rw[e]at this;omega
  ·exact e
 refine Nat.lt_of_not_le λhle=>hq ?_;have h1:q*V<=U:=(D5 rY).1 hle;rw[h.hT,h.kU];have hp:0<B^(n+1):=cT (by have:=h.hB;omega);rw[D5 hp];have h2:V/B^(n+1)*B^(n+1)<=V:=D6 _ _
 calc q*(V/B^(n+1))*B^(n+1)=q*(V/B^(n+1)*B^(n+1)):=by rw[gA]
  _<=q*V:=jY _ h2
  _<=U:=h1
structure Cn(U V T v1 q r:Nat):Prop where
 eq:q*v1+r=T
 le:U/V<=q
theorem nr.start(h:nr B n U V T u2 v1 v2):Cn U V T v1 (T/v1) (T%v1):=by
 refine⟨by rw[c7];exact jM T v1,?_⟩;have hv:0<v1:=by have:=h.top;have:=h.hB;omega
 have:=h.aKv (q:=T/v1+1) λhle=>by have:=(D5 hv).2 hle;omega
 omega
theorem nr.small(h:nr B n U V T u2 v1 v2):U/V<B:=by
 have rY:0<V:=by
  rcases ow V with e|e
  ·have:=h.hU;rw[e]at this;omega
  ·exact e
 exact(jc rY).2 (by rw[c7];exact h.hU)
theorem nr.aKw(h:nr B n U V T u2 v1 v2)(g:Cn U V T v1 q r)(hc:B<=q\/r*B+u2<q*v2):U/V<q:=by
 rcases hc with hc|hc
 ·exact cH h.small hc
 ·have rY:0<V:=by
   rcases ow V with e|e
   ·have:=h.hU;rw[e]at this;omega
   ·exact e
  rw[jc rY];obtain⟨e1,e2⟩:=h.two;have hp:=h.pow;have h1:U/B^n<q*(V/B^n):=by rw[e1,e2,<-g.eq,pC,fZ,<-gA];omega
  have h2:U<q*(V/B^n)*B^n:=(jc hp).1 h1;rw[gA]at h2;exact cH h2 (jY _ (D6 _ _))
theorem nr.less(h:nr B n U V T u2 v1 v2)(g:Cn U V T v1 q r)(hc:B<=q\/r*B+u2<q*v2):0<q/\Cn U V T v1 (q-1) (r+v1):=by have ao:=h.aKw g hc;obtain⟨p,rfl⟩:∃ p,q=p+1:=⟨q-1,(Nat.sub_add_cancel (Nat.one_le_of_lt ao)).symm⟩;refine⟨by omega,?_,Nat.le_of_lt_succ ao⟩;have:=g.eq;rw[fZ,qT]at this;rw[O0];omega
theorem nr.fin(h:nr B n U V T u2 v1 v2)(g:Cn U V T v1 q r)(hc:(q<B/\q*v2<=r*B+u2)\/B<=r):q<B/\q*V<U+V:=by
 obtain⟨e1,e2⟩:=h.two;have hp:=h.pow;have jk:B^(n+1)=B^n*B:=dH ..;have hVd:=jM V (B^n);have hVm:=cU V hp;rcases hc with ⟨hq,hc⟩|hr
 ·refine⟨hq,?_⟩;have h1:q*(V/B^n)<=U/B^n:=by rw[e1,e2,<-g.eq,pC,fZ,<-gA];omega
  have h2:q*(V/B^n)*B^n<=U:=(D5 hp).1 h1;have h3:q*V=q*(V/B^n)*B^n+q*(V%B^n):=by rw[gA,<-pC,c7 (V/B^n),hVd]
  have h4:q*(V%B^n)<V:=by
   have h5:q*(V%B^n)<=(B-1)*B^n:=yf o_ (kv hVm);have h6:v1*B^(n+1)<=V:=by rw[h.kU];exact D6 _ _
   have h7:1*B^(n+1)<=v1*B^(n+1):=fe _ (by have:=h.top;have:=h.hB;omega);have h8:(B-1)*B^n<B^(n+1):=by rw[jk,c7 (B^n)];exact Co (by have:=h.hB;omega) hp
   omega
  omega
 ·have yn:V<(v1+1)*B^(n+1):=by rw[h.kU];have fT:0<B^(n+1):=cT (by have:=h.hB;omega);exact(jc fT).1 (Cp _)
  have fT:0<B^(n+1):=cT (by have:=h.hB;omega);have hTU:T*B^(n+1)<=U:=by rw[h.hT];exact D6 _ _
  have aBi:T<(v1+1)*B:=by rw[h.hT,jc fT];refine cH h.hU ?_;rw[gA,c7 B,<-gA];exact fe _ (kv yn)
  have hqB:q<B:=by
   have h1:q*v1<B*v1:=by have:=g.eq;rw[fZ,qT,c7 v1]at aBi;omega
   exact aKx h1
  refine⟨hqB,?_⟩;have h2:q*V<=q*((v1+1)*B^(n+1)):=jY _ (kv yn);have h3:q*((v1+1)*B^(n+1))<=T*B^(n+1):=by rw[<-gA];refine fe _ ?_;have:=g.eq;rw[pC,gZ];omega
  have rY:0<V:=by
   rcases ow V with e|e
   ·have:=h.hU;rw[e]at this;omega
   ·exact e
  omega
theorem nr.aKy(h:nr B n U V T u2 v1 v2)(r:Nat):B<=r+v1+v1:=by have:=h.top;omega
theorem nr.aKz(h:nr B n U V T u2 v1 v2)(g:Cn U V T v1 q r):q<=B*2+1:=by
 have fT:0<B^(n+1):=cT (by have:=h.hB;omega);have yn:V<(v1+1)*B^(n+1):=by rw[h.kU];exact(jc fT).1 (Cp _)
 have aBi:T<(v1+1)*B:=by rw[h.hT,jc fT];refine cH h.hU ?_;rw[gA,c7 B,<-gA];exact fe _ (kv yn)
 have hv:0<v1:=by have:=h.top;have:=h.hB;omega
 have h1:q*v1<(B*2)*v1:=by
  have:=g.eq;have h2:(v1+1)*B<=(B*2)*v1:=by
   rw[fZ,qT,gA,c7 v1];have:B*1<=B*v1:=jY _ hv;have e:B*(2*v1)=B*v1+B*v1:=by rw[Nat.two_mul,pC]
   omega
  omega
 have:=aKx h1;omega
def oW(B q V i:Nat):Nat:=q*(V%B^i)/B^i
theorem aKA:oW B q V 0=0:=by simp[oW,uH]
theorem aBj(hB:0<B)(q V i:Nat):oW B q V i+q*(V/B^i%B)=q*(V%B^(i+1))/B^i:=by have hp:0<B^i:=cT hB;rw[qi,pC,<-gA,qj _ _ hp];rfl
theorem aKB(hB:0<B)(q V i:Nat):(oW B q V i+q*(V/B^i%B))/B=oW B q V (i+1):=by rw[aBj hB,lJ,<-dH];rfl
theorem aBk(hB:0<B)(q V i:Nat):(oW B q V i+q*(V/B^i%B))%B=q*V/B^i%B:=by
 have hp:0<B^i:=cT hB;rw[aBj hB];have e:q*V=q*(V%B^(i+1))+(q*(V/B^(i+1))*B)*B^i:=by
  have h1:=jM V (B^(i+1));have h2:q*(V/B^(i+1))*B*B^i=q*(B^(i+1)*(V/B^(i+1))):=by rw[dH];simp only[c7,nO,gA]
  rw[h2,<-pC,nN,h1]
 rw[e,qj _ _ hp,D1]
theorem aBl(hB:0<B)(hq:q<B)(V i:Nat):oW B q V i<B:=by have hp:0<B^i:=cT hB;unfold oW;rw[jc hp];have h1:q*(V%B^i)<=q*B^i:=jY _ (kv (cU _ hp));exact fA h1 (Co hq hp)
end
section
variable{B:Nat}
def gR(B j R D:Nat):Nat:=R%B^j+D*B^j
theorem yo(hB:0<B)(j R D i:Nat):gR B j R D/B^(j+i)%B=D/B^i%B:=by have hp:0<B^j:=cT hB;unfold gR;rw[eW,<-lJ,qj _ _ hp,nj (cU _ hp),kT]
theorem Uh(hB:0<B){t:Nat}(ht:t<j)(R D:Nat):gR B j R D/B^t%B=R/B^t%B:=by
 unfold gR;obtain⟨s,rfl⟩:∃ s,j=t+1+s:=⟨j-(t+1),by omega⟩;have hp:0<B^t:=cT hB;have e1:R%B^(t+1+s)/B^t%B=R/B^t%B:=by
  have e:B^(t+1+s)=B^t*(B*B^s):=by rw[eW,dH,gA]
  rw[e,Cc,KQ]
 have e2:D*B^(t+1+s)=(D*B^s*B)*B^t:=by rw[eW,dH];simp only[c7,nO,gA]
 rw[e2,qj _ _ hp,D1,e1]
theorem Ix(hB:0<B)(R:Nat)(h:D<B^m):gR B j R D<B^(j+m):=by have hp:0<B^j:=cT hB;unfold gR;have h1:=cU R hp;have h2:(D+1)*B^j<=B^m*B^j:=fe _ h;rw[fZ,qT]at h2;rw[eW,c7 (B^j)];omega
theorem aBm(hB:0<B)(j R D E:Nat):gR B j (gR B j R D) E=gR B j R E:=by unfold gR;rw[D1,Nat.mod_mod]
theorem aKC(j R:Nat):gR B j R (R/B^j)=R:=by unfold gR;rw[c7,nN];exact jM R (B^j)
theorem Iy(j R i:Nat):R/B^(j+i)%B=R/B^j/B^i%B:=by rw[eW,lJ]
theorem O1(hB:0<B)(L j R D:Nat):dh B L j (gR B j R D) R=ae B L R:=by
 unfold dh ae;refine uD λt _=>?_;by_cases h:t<j
 ·rw[aA h,Uh hB h]
 ·rw[au h]
theorem Gc(hB:0<B){R S:Nat}(hR:R<B^m)(hS:S<B^m):dh B L m S R=ae B L S:=by
 unfold dh ae;refine uD λt _=>?_;by_cases h:t<m
 ·rw[aA h]
 ·rw[au h,rV hR o_ hB,rV hS o_ hB]
def gK(B m U V q:Nat):Nat:=(U+B^(m+1)-q*V)%B^(m+1)
section
variable{m U V q:Nat}
theorem Ui(hB:0<B):gK B m U V q<B^(m+1):=cU _ (cT hB)
theorem aBn(hB:0<B)(h:i<k):a%B^k/B^i%B=a/B^i%B:=by have:=Uh hB h a 0;unfold gR at this;rw[l9,jv]at this;exact this
theorem aKD(hB:0<B)(h:i<k):(a+B^k)/B^i%B=a/B^i%B:=by
 have e:B^k=B^(k-i-1)*B*B^i:=by rw[<-dH,<-eW];congr 1;omega
 rw[e,qj _ _ (cT hB),D1]
theorem aKE(h:i<=k):(a+B^k)%B^i=a%B^i:=by
 have e:B^k=B^i*B^(k-i):=by rw[<-eW];congr 1;omega
 rw[e,FX]
def pF(B U V q i:Nat):Nat:=lK B U (q*V) i
theorem aKF(h:i<=k):lK B (a+B^k) b i=lK B a b i:=by unfold lK;rw[aKE h]
theorem aKG(hB:0<B)(hq:q*V<=U+B^(m+1))(hi:i<=m):
  (U/B^i%B+2*B-(oW B q V i+q*(V/B^i%B))%B-pF B U V q i)%B=gK B m U V q/B^i%B:=by
 unfold gK pF;rw[aBn hB o_,aBk hB,<-aKD hB (show i<m+1 by omega),<-aKF (show i<=m+1 by omega)];exact TN hB hq i
theorem aKH(hB:0<B)(i:Nat):(if U/B^i%B<(oW B q V i+q*(V/B^i%B))%B+pF B U V q i then 1 else 0)=pF B U V q (i+1):=by unfold pF;rw[aBk hB];exact TM hB _ _ _
theorem aKI(hB:0<B)(hq:q<B)(hV:V<B^m):q*V<B^(m+1):=by rw[dH,c7 (B^m)];exact fA (fe _ (kv hq)) (aAx hV hB)
theorem aKJ(hB:0<B)(hq:q<B)(hV:V<B^m)(hU:U<V*B):pF B U V q (m+1)=if U<q*V then 1 else 0:=by
 have D7:U<B^(m+1):=by rw[dH];exact cH hU (fe _ (kv hV))
 unfold pF lK;rw[dZ D7,dZ (aKI hB hq hV)]
theorem aBo(hB:0<B)(hV:V<B^m)(hU:U<V*B)(hle:U/V<=q)(h:¬U<q*V):q=U/V/\gK B m U V q=U%V:=by
 have D7:U<B^(m+1):=by rw[dH];exact cH hU (fe _ (kv hV))
 have rY:0<V:=by
  rcases ow V with e|e
  ·rw[e]at hU;omega
  ·exact e
 have e:q=U/V:=by have:=(D5 rY).2 (KZ.1 h);omega
 refine⟨e,?_⟩;unfold gK;have h1:=jM U V;rw[c7]at h1;rw[<-e]at h1;have h2:U+B^(m+1)-q*V=U%V+B^(m+1):=by omega
 rw[h2,K0,dZ (fA (KI _ _) D7)]
theorem aBp(hB:0<B)(hV:V<B^m)(hU:U<V*B)(hb:q*V<U+V)(h:U<q*V):q=U/V+1/\(gK B m U V q+V)%B^(m+1)=U%V:=by
 have D7:U<B^(m+1):=by rw[dH];exact cH hU (fe _ (kv hV))
 have rY:0<V:=by
  rcases ow V with e|e
  ·rw[e]at hU;omega
  ·exact e
 have ql:0<q:=by
  rcases ow q with e|e
  ·rw[e,l9]at h;omega
  ·exact e
 obtain⟨p,rfl⟩:∃ p,q=p+1:=⟨q-1,by omega⟩;rw[fZ,qT]at h hb;have e:p=U/V:=by have h1:p<=U/V:=(D5 rY).2 o_;have h2:U/V<p+1:=(jc rY).2 (by rw[fZ,qT];exact h);omega
 refine⟨by rw[e],?_⟩;unfold gK;have h1:=jM U V;rw[c7,<-e]at h1;rw[Nat.mod_add_mod,fZ,qT];have hpV:p*V<=U:=by omega
 have Uj:V<=B^(m+1):=dq (kv hV) (dj hB o_);have h2:U+B^(m+1)-(p*V+V)+V=U%V+B^(m+1):=by omega
 rw[h2,K0,dZ (fA (KI _ _) D7)]
theorem Uk(hB:0<B)(hi:i<=m):(D/B^i%B+V/B^i%B+fB B D V i)%B=(D+V)%B^(m+1)/B^i%B:=by rw[aBn hB o_];exact Ic hB D V i
end
theorem aBq(hB:0<B)(A V j:Nat):gR B j (A%(V*B^(j+1))) (A%(V*B^(j+1))/B^j%V)=A%(V*B^j):=by
 have hp:0<B^j:=cT hB;have h1:A%(V*B^j)=A%(V*B^(j+1))%(B^j*V):=by rw[c7 (B^j),dH,<-gA,KQ]
 rw[h1];generalize A%(V*B^(j+1))=R;rw[Ow];unfold gR;rw[c7 (B^j) (_%V)]
theorem aBr(A V j:Nat):A%(V*B^(j+1))/B^j/V=A/V/B^j%B:=by rw[lJ,dH,<-gA,c7 (B^j) V,Cc,lJ]
theorem aBs{V:Nat}(hB:0<B)(hV:0<V)(A j:Nat):A%(V*B^(j+1))/B^j<V*B:=by have hp:0<B^j:=cT hB;rw[jc hp,gA,c7 B,<-dH];exact cU _ (rZ hV (cT hB))
theorem aBt{B X:Nat}(hB:0<B)(hk:∃ c,B=2^k*c):((X/B^(i+1)%B*B+X/B^i%B)/2^k)%B=X/2^k/B^i%B:=by
 obtain⟨c,hc⟩:=hk;have h2:0<2^k:=cT d_;have e1:X/B^i=X/B^(i+1)*B+X/B^i%B:=ya X i;have e2:X/B^(i+1)=X/B^(i+1)/B*B+X/B^(i+1)%B:=by rw[c7];exact(jM _ _).symm
 have e3:X/2^k/B^i=X/B^i/2^k:=by rw[lJ,lJ,c7]
 rw[e3];generalize X/B^i%B=x0 at *;generalize X/B^i=Y at *;generalize X/B^(i+1)%B=x1 at *;generalize X/B^(i+1)/B=H at *;generalize X/B^(i+1)=Z at *;subst e1;subst e2;have e4:(H*B+x1)*B+x0=(x1*B+x0)+H*B*c*2^k:=by
  rw[fZ];have:H*B*c*2^k=H*B*B:=by rw[gA (H*B),c7 c,<-hc]
  omega
 have e5:H*B*c=H*c*B:=by rw[gA,c7 B c,<-gA]
 rw[e4,qj _ _ h2,e5,D1]
end
section
variable{Bs:aa}{N:Nat}
def qY(x:Obj)(a:Nat):Prop:=x.reads=true/\∃ M,nd base a<=M/\x.cells=av (ae base M a)
theorem Cq(hm:aO Bs ι c w){x:Obj}{v:i_}(hk:c k=some x)(hx:qY x a)(hv:aM ι (sl k (nd base a)) v):jd w v a:=by
 obtain⟨h1,M,h2,h3⟩:=hx;have:=pA (len:=nd base a) hm hk h1 (by rw[h3];exact ga _) (λh=>h) hv;rw[h3,nk]at this;have e:(av (ae base M a)).take (nd base a)=av (ae base (nd base a) a):=by unfold av;rw[<-DC,KF h2]
 rw[e]at this;exact this
def vQ(a:Nat):Obj:=.row (av (ae base (nd base a) a)) 175 1
theorem tB(a:Nat):qY (vQ a) a:=⟨rfl,_,bF _,rfl⟩
theorem yp(a:Nat):qY (.view (av (ae base (nd base a) a))) a:=⟨rfl,_,bF _,rfl⟩
theorem O2{y:m_}{c:Nat}(ho:dC o.op=some y)(fq:gW prog f=true)(dP:∀ v∈args,flat v=true)
  (h:∀ w,Calls prog f args.toArray w λe w'=>∃ v,e=.returned v/\ko w w' v c/\Below w.heap.size w w') (k:Nat) :
  cI prog Bs o (.func (.func f) #[] #[]::args) [(k,none)] (sl k (nd base c)) [(k,vQ c)]:=by
 refine kj (fi:=[]) (ca:=[]) ho fq λι cc w hm hn args' bo=>?_;rw[jJ,jZ]at bo;rw[oj bo dP];refine(h w).mono ?_
 rintro e w' ⟨v,rfl,h1,h2⟩
 obtain⟨aB,q1,q2,q3⟩:=FT hm h2 (k:=k) (hn _ (aR ..)) h1 (ga _);exact⟨aB,v,rfl,q1,q3,q2⟩
theorem Ul{y:m_}{c:Nat}(ho:dC o.op=some y)(fq:gW prog f=true)(hx:qY x1 a)(iD:qY x2 b)
  (h:∀ w va vb,jd w va a->jd w vb b->Calls prog f #[va,vb] w λe w'=>∃ v,e=.returned v/\ko w w' v c/\Below w.heap.size w w') (k:Nat) :
  cI prog Bs o [.func (.func f) #[] #[],sl k1 (nd base a),sl k2 (nd base b)] [(k1,some x1),(k2,some x2),(k,none)] (sl k (nd base c)) [(k,vQ c)]:=by
 refine kj (fi:=[]) (ca:=[]) ho fq λι cc w hm hn args' bo=>?_;rw[jJ,jZ]at bo;obtain⟨va,vb,rfl,hv,iF⟩:=jH bo;refine(h w va vb (Cq hm (hn (k1,some x1) s_) hx hv) (Cq hm (hn (k2,some x2) s_) iD iF)).mono ?_
 rintro e w' ⟨v,rfl,h1,h2⟩
 obtain⟨aB,q1,q2,q3⟩:=FT hm h2 (k:=k) (hn (k,none) s_) h1 (ga _);exact⟨aB,v,rfl,q1,q3,q2⟩
theorem Iz{y:m_}(ho:dC o.op=some y)(fq:gW prog f=true)(hx:qY x1 a)(TS:∀ v∈post,flat v=true)(BW:flat res=true)
  (h:∀ w va,jd w va a->Calls prog f (va::post).toArray w λe w'=>e=.returned res/\Below w.heap.size w w') :
  cI prog Bs o (.func (.func f) #[] #[]::sl k1 (nd base a)::post) [(k1,some x1)] res []:=by
 refine kj (fi:=[]) (ca:=[]) ho fq λι cc w hm hn args' bo=>?_;rw[jJ,jZ]at bo;cases bo with
 |cons hv hp=>
 rw[oj hp TS];refine(h w _ (Cq hm (hn _ (aR ..)) hx hv)).mono ?_
 rintro e w' ⟨rfl,h2⟩
 exact⟨ι,res,rfl,Map.le.refl _,.same BW,hm.call h2⟩
theorem O3{y:m_}(ho:dC o.op=some y)(fq:gW prog f=true)(hx:qY x1 a)(iD:qY x2 b)(BW:flat res=true)
  (h:∀ w va vb,jd w va a->jd w vb b->Calls prog f #[va,vb] w λe w'=>e=.returned res/\Below w.heap.size w w') :
  cI prog Bs o [.func (.func f) #[] #[],sl k1 (nd base a),sl k2 (nd base b)] [(k1,some x1),(k2,some x2)] res []:=by
 refine kj (fi:=[]) (ca:=[]) ho fq λι cc w hm hn args' bo=>?_;rw[jJ,jZ]at bo;obtain⟨va,vb,rfl,hv,iF⟩:=jH bo;refine(h w va vb (Cq hm (hn (k1,some x1) s_) hx hv) (Cq hm (hn (k2,some x2) s_) iD iF)).mono ?_
 rintro e w' ⟨rfl,h2⟩
 exact⟨ι,res,rfl,Map.le.refl _,.same BW,hm.call h2⟩
end
def oX(a:Nat):Value:=.string (BA (cO a))
def Cr(neg:Bool)(a:Nat):Value:=.agg #[.bool (neg&&decide (a≠0)),oX a]
theorem qZ(a:Nat):((BA (cO a)).toList==(ByteArray.mk #[]).toList)=decide (a=0):=by rw[F2,qh];exact aKg
theorem aBu{neg:Bool}(gQ:jd w va a)(h1:nd base a<35184372088832):
  Calls prog 144 #[va,.bool neg] w λe w'=>e=.returned (Cr neg a)/\Below w.heap.size w w':=by
 have hl:∀ s∈[cJ.row va (nd base a) (av (ae base (nd base a) a)),.plain (.bool neg)],s.OK w:=by
  intro s hs;simp at hs;rcases hs with rfl|rfl
  ·exact⟨gQ,ga _⟩
  ·exact rfl
 cases neg with
 |false=>
  exact mN (Q:=λe w'=>e=.returned (Cr false a)/\Below w.heap.size w w') mixed func144 [cJ.row va (nd base a) (av (ae base (nd base a) a)),.plain a_] hl 100 (N:=15) k_
   (rs:=[(.step 7 (az f144 7) _ _ _ _ (Iz (y:=.func 179) (k1:=0) (post:=[]) k_ k_ (yp a) n_ rfl λw va h=>aBg h h1):aZ prog (aa.at w) 15)])
   (v:=.agg #[.bool false,oX a]) (ms:=[]) k_ λaB cr v' w' hc bJ _ _=>⟨by rw[hc.fH rfl];rfl,bJ.base⟩
 |true=>
  have e:(!((BA (cO a)).toList==(ByteArray.mk #[]).toList))=decide (a≠0):=by rw[qZ];simp
  exact mN (Q:=λe w'=>e=.returned (Cr true a)/\Below w.heap.size w w') mixed func144 [cJ.row va (nd base a) (av (ae base (nd base a) a)),.plain b_] hl 100 (N:=15) k_
   (rs:=[(.step 7 (az f144 7) _ _ _ _ (Iz (y:=.func 179) (k1:=0) (post:=[]) k_ k_ (yp a) n_ rfl λw va h=>aBg h h1):aZ prog (aa.at w) 15),.rw 11 (.bool (!((BA (cO a)).toList==(ByteArray.mk #[]).toList))) (.bool (decide (a≠0))) (by rw[e])])
   (v:=.agg #[.bool (decide (a≠0)),oX a]) (ms:=[]) k_ λaB cr v' w' hc bJ _ _=>⟨by rw[hc.fH rfl];simp[Cr],bJ.base⟩
section
variable{Bs:aa}{n a k:Nat}
theorem aKK{B X:Nat}(h:i+1<L)(h0:d=A/B^i%B)(h1:e=A/B^(i+1)%B)(ho:∀ t,t≠i->t≠i+1->X/B^t%B=A/B^t%B):((ae B L X).set i d).set (i+1) e=ae B L A:=by
 refine Um λt=>?_;rw[List.getElem?_set,List.getElem?_set];by_cases ht:t<L
 ·rw[eU ht,eU ht];by_cases h2:i+1=t
  ·subst h2;rw[aA rfl,aA (by simp[pB];omega),h1]
  ·rw[au h2];by_cases h3:i=t
   ·subst h3;rw[aA rfl,aA (by rw[pB];omega),h0]
   ·rw[au h3,ho t (λe=>h3 e.symm) (λe=>h2 e.symm)]
 ·have e1:(ae B L X)[t]?=none:=BP (by rw[pB];omega);have e2:(ae B L A)[t]?=none:=BP (by rw[pB];omega);rw[e1,e2,au o_,au o_]
theorem aKL{x c k:Nat}(hk:k<=31)(hx:x<base)(hc:c<2^k):(c||| (x*2^k%base))=(c+x*2^k)%base/\(c+x*2^k)/base=x*2^k/base/\x*2^k/base<2^k:=by
 obtain⟨m,hm⟩:∃ m,base=m*2^k:=⟨2^(32-k),by rw[<-eW,show 32-k+k=32 by omega]⟩;have hp:0<2^k:=cT d_;have r5:0<m:=by
  rcases ow m with e|e
  ·rw[e,l9]at hm;exact absurd hm d_
  ·exact e
 have e1:x*2^k%base=x%m*2^k:=by rw[hm,aBv]
 have e2:x*2^k/base=x/m:=by rw[hm,aBw _ _ hp]
 have e3:(c+x*2^k)/base=x/m:=by rw[hm,c7 m,<-lJ,qj _ _ hp,nj hc,kT]
 have e4:(c+x*2^k)%base=c+x%m*2^k:=by
  have h1:=jM (c+x*2^k) base;rw[e3]at h1;have h2:=jM x m;have h3:x*2^k=base*(x/m)+x%m*2^k:=by
   rw[hm]
   conv=>lhs;rw[<-h2]
   rw[fZ,Cs]
  generalize base*(x/m)=z at h1 h3;omega
 refine⟨?_,e3.trans e2.symm,?_⟩
 ·have:=ON (i:=k) hc (x%m);rw[e1,e4,Nat.or_comm,c7,<-this];omega
 ·rw[e2,jc r5,c7,<-hm];exact hx
theorem aKM(hk:k<=31):(a%base^i*2^k)/base^i%base=(a%base^i*2^k)/base^i/\(a%base^i*2^k)/base^i<2^k:=by
 have hp:0<base^i:=cT d_;have h1:(a%base^i*2^k)/base^i<2^k:=by rw[jc hp,c7];exact aAx (cU _ hp) (cT d_)
 refine⟨dZ (cH h1 ?_),h1⟩;exact dq (dj d_ hk) d_
theorem aKN:(a%base^(i+1)*2^k)/base^i=(a%base^i*2^k)/base^i+a/base^i%base*2^k:=by have hp:0<base^i:=cT d_;rw[qi,fZ,Cs,qj _ _ hp]
def tC(n a k i:Nat):aU:=[(14,vI i),(13,vI n),(12,sl 0 n),(5,sl 1 (n+1)),(1,vI k)]
def pG(n a k i:Nat):aL:=[(0,.view (av (ae base n a))),(1,.row (av (ae base (n+1) (a%base^i*2^k))) 175 1)]
theorem Un(hi:i<n)(hk:k<=31)(h63:n<35184372088832):
  ah prog Bs 40 (aK (ai f198 0)) (tC n a k i) (pG n a k i) 2 ⟨.normal,tC n a k (i+1),pG n a k (i+1),2⟩:=by
 have hx:=iG (B:=base) d_ a i;obtain⟨s1,s2⟩:=aKM (a:=a) (k:=k) (i:=i) hk;have s3:=aKN (a:=a) (k:=k) (i:=i);have jz:(av (ae base (n+1) (a%base^i*2^k)))[i]?=some (aX ((a%base^i*2^k)/base^i)):=by rw[<-s1];exact lL (eU o_)
 have jW:∀ d e,d=(a%base^(i+1)*2^k)/base^i%base->e=(a%base^(i+1)*2^k)/base^(i+1)%base->((ae base (n+1) (a%base^i*2^k)).set i d).set (i+1) e=ae base (n+1) (a%base^(i+1)*2^k):=by
  intro d e hd he;refine aKK o_ hd he λt h1 h2=>?_;rcases fo t i with h|h
  ·have e1:a%base^(i+1)*2^k=gR base i (a%base^i*2^k) ((a%base^i*2^k)/base^i+a/base^i%base*2^k):=by unfold gR;rw[qi,fZ,fZ,<-vz,Nat.mod_add_div',Cs]
   rw[e1,Uh d_ h]
  ·have hp:0<base^i:=cT d_;have b1:a%base^i*2^k<base^(i+1):=by rw[dH];exact aBx (cU _ hp) (dq (dj d_ hk) d_) d_
   have b2:a%base^(i+1)*2^k<base^(i+2):=by rw[dH _ (i+1)];exact aBx (cU _ (cT d_)) (dq (dj d_ hk) d_) d_
   rw[rV b1 o_ d_,rV b2 o_ d_]
 generalize hc:(a%base^i*2^k)/base^i=c at *;generalize IA:a/base^i%base=x at *;obtain⟨t1,t2,t3⟩:=aKL hk hx s2;have hd:(c||| x*2^k%base)=(a%base^(i+1)*2^k)/base^i%base:=by rw[s3,t1]
 have he:x*2^k/base=(a%base^(i+1)*2^k)/base^(i+1)%base:=by
  have e5:∀ Z:Nat,Z/base^(i+1)=Z/base^i/base:=λZ=>by rw[dH,lJ]
  rw[e5,s3,t2];exact(dZ (cH t3 (dq (dj d_ hk) d_))).symm
 have jW:=jW _ _ hd he;have h64:x*2^k<18446744073709551616:=by have h1:x*2^k<=(base-1)*2^31:=yf o_ (dj d_ hk);exact fA h1 d_
 have w25:IntKind.u32.wrap ((x:Int)*2^(min k IntKind.u32.bits))=((x*2^k%base:Nat):Int):=by
  have e:(x:Int)*2^k=((x*2^k:Nat):Int):=by simp
  rw[show min k IntKind.u32.bits=k from oQ (by show k<=32;omega),ox,e];unfold base;omega
 have w34:IntKind.u64.wrap ((x:Int)*2^(min k IntKind.u64.bits))=((x*2^k:Nat):Int):=by
  have e:(x:Int)*2^k=((x*2^k:Nat):Int):=by simp
  rw[show min k IntKind.u64.bits=k from oQ (by show k<=64;omega),kK,e];omega
 have q1:x*2^k%base<base:=cU _ d_;have q2:c<base:=cH s2 (dq (dj d_ hk) d_);have q3:x*2^k/base<base:=cH t3 (dq (dj d_ hk) d_);have K1:fK prog 175 (av (ae base (n+1) (a%base^i*2^k))) i (aX (c||| x*2^k%base))=some (av ((ae base (n+1) (a%base^i*2^k)).set i (c||| x*2^k%base))):=by rw[Aj _ _ _ (by simp[av,pB];omega),Ak]
 have Uo:fK prog 175 (av ((ae base (n+1) (a%base^i*2^k)).set i (c||| x*2^k%base))) (i+1) (aX (x*2^k/base))=some (av (ae base (n+1) (a%base^(i+1)*2^k))):=by rw[Aj _ _ _ (by simp[av,pB];omega),Ak,jW]
 generalize x*2^k=y at *;generalize l4:(c||| y%base)=d at *;exact aG [.lt 15 i n true (by simp[hi]),.ix f198 17 0 n i hi k_,.ld f198 18 175 0 i (.view (av (ae base n a))) (aX x) rfl (by rw[gB,<-IA];exact lL (eU hi)) k_,.ix f198 21 1 (n+1) i o_ k_,.ld f198 22 175 1 i (.row (av (ae base (n+1) (a%base^i*2^k))) 175 1) (aX c) rfl (by rw[gB];exact jz) k_,.shl f198 25 .u32 (x:Int) ((y%base:Nat):Int) k w25 k_,.quo 26 .u32 _ ((d:Nat):Int) ((TP q2 q1).trans (by rw[l4])),.ix f198 27 1 (n+1) i o_ k_,.st f198 100027 175 1 i (.row (av (ae base (n+1) (a%base^i*2^k))) 175 1) (aX d) (.row (av ((ae base (n+1) (a%base^i*2^k)).set i d)) 175 1) rfl K1 rfl k_,.sum 30 i 1 (i+1) rfl o_,.wr 32 .u64 (x:Int) (x:Int) (by rw[kK];unfold base at hx;omega),.shl f198 34 .u64 (x:Int) (y:Int) k w34 k_,.quo 35 .u64 ((y:Int).fdiv ((2:Int)^32)) ((y/base:Nat):Int) (by rw[ti _ d_];unfold base;omega),.wr 36 .u32 ((y/base:Nat):Int) ((y/base:Nat):Int) (by rw[ox];unfold base at q3 ⊢;omega),.ix f198 37 1 (n+1) (i+1) o_ k_,.st f198 100037 175 1 (i+1) (.row (av ((ae base (n+1) (a%base^i*2^k)).set i d)) 175 1) (aX (y/base)) (.row (av (ae base (n+1) (a%base^(i+1)*2^k))) 175 1) rfl Uo rfl k_,.sum 38 i 1 (i+1) rfl o_]
theorem Up(hk:k<=31)(h63:n<35184372088832):
  ah prog Bs 40 (.block 0 (ai f198 0)) (tC n a k 0) (pG n a k 0) 2 ⟨.normal,tC n a k n,pG n a k n,2⟩:=
 cg (cz (b:=aK (ai f198 0)) (r:=⟨.exit 0,tC n a k n,pG n a k n,2⟩) n (tC n a k) (pG n a k) (λi t _=>kH (l:=pG n a k i) (m:=pG n a k 0) rfl t) (λi hi=>Un hi hk h63)
  (aG [.lt 15 n n false s_]) n_)
end
def aBy(w w':h_)(v:i_)(n a:Nat):Prop:=w'.ownsRow w.heap.size 175 1 v n (av (ae base n a))
theorem aKO(gQ:jd w va a)(hk:k<=31)(h1:nd base a<35184372088832):
  Calls prog 198 #[va,vI k] w λe w'=>∃ v,e=.returned v/\aBy w w' v (nd base a+1) (a*2^k)/\Below w.heap.size w w':=by
 have ao:=eE (B:=base) d_ a;have hl:∀ s∈[cJ.row va (nd base a) (av (ae base (nd base a) a)),.plain (vI k)],s.OK w:=by
  intro s hs;simp at hs;rcases hs with rfl|rfl
  ·exact⟨gQ,ga _⟩
  ·exact rfl
 unfold jd at gQ;generalize nd base a=n at *;have bo:a%base^n=a:=dZ ao
 refine mN (Q:=λe w'=>∃ v,e=.returned v/\aBy w w' v (n+1) (a*2^k)/\Below w.heap.size w w') mixed func198 [cJ.row va n (av (ae base n a)),.plain (vI k)] hl 100 (N:=40) k_
  (rs:=[(aZ.sum 10 n 1 (n+1) rfl o_:aZ prog (aa.at w) 40),.qR f198 11 1 (n+1) 175 4 (aX 0) (av (ae base (n+1) (a%base^0*2^k))) (by rw[tn,uH,l9,TV,FY]) rfl rfl o_ (by simp[maxLen];omega) k_,.code 0 _ _ _ _ _ (Up (n:=n) (a:=a) hk h1)])
  (v:=sl 1 (n+1)) (ms:=[(1,.row (av (ae base (n+1) (a%base^n*2^k))) 175 1)]) k_ λaB cr v' w' hc bJ dW _=>⟨v',rfl,?_,bJ.base⟩
 have:=xX bJ (dW _ (aR ..)) hc (by simp[av,pB]) (ga _);rw[lh (by simp[av,pB]),bo]at this;exact this
def bl(x:Nat):Nat:=if x=0 then 0 else x.log2+1
theorem Uq{x:Nat}(h:2^k<=x):bl x=bl (x/2^k)+k:=by
 have hp:0<2^k:=cT d_;have hx:x≠0:=by omega
 have hq:0<x/2^k:=O4 h hp;unfold bl;rw[au hx,au o_];have h1:=aBz (n:=x/2^k) o_;have h2:=Nat.lt_log2_self (n:=x/2^k);have e:x.log2=(x/2^k).log2+k:=by
  rw[Nat.log2_eq_iff hx];constructor
  ·rw[eW];exact(D5 hp).1 h1
  ·rw[show(x/2^k).log2+k+1=((x/2^k).log2+1)+k by omega,eW];exact(jc hp).1 h2
 omega
theorem aBA{x n:Nat}(h:x<2^n):bl x<=n:=by
 unfold bl;split
 ·omega
 ·rename_i hx;have:=aBz hx;rcases fo x.log2 n with h1|h1
  ·omega
  ·have:=dj (show 0<2 by decide) h1;omega
theorem aKP{x:Nat}(h:x≠0):∃ k,bl x=k+1/\2^k<=x/\x<2^(k+1):=by refine⟨x.log2,by unfold bl;rw[au h],aBz h,Nat.lt_log2_self⟩
section
variable{P:j_}{B:aa}{N:Nat}
theorem aKQ(ho:Ik P o=true){kd:IntKind}{s:ByteArray}{c:UInt8}(hc:s[i]?=some c):cI P B o [.string s,.int kd i] [] (.int .u8 (c.toNat:Int)) []:=by
 unfold Ik at ho;split at ho
 ·rename_i t p q ck;split at ho
  ·rename_i ht;refine(BQ (λu hu=>by simp at hu;rcases hu with rfl|rfl<;>rfl) rfl λρ fP w _=>?_).step;rw[ck]at fP;simp[Op.operands]at fP;have h0:(0:Int)<=(i:Int):=by omega
   simp[execOp,ck,fP.1,fP.2,Instr.index,asIntOf,jX ht,h0,hc]
  ·cases ho
 ·cases ho
def aZ.O5(fn:Func)(key:Nat)(kd:IntKind)(s:ByteArray)(i:Nat)(c:UInt8)(hc:s[i]?=some c)(ho:Ik P (az fn key)=true):aZ P B N:=
 .step key (az fn key) [.string s,.int kd i] [] (.int .u8 (c.toNat:Int)) [] (aKQ ho hc)
end
noncomputable def IB:ByteArray:=match (az f209 16).op with|.index _ (.const (.string s)) _=>s|_=>default
theorem aKR:∀ i,i<256->IB[i]?=some (UInt8.ofNat (bl i)):=by decide +kernel
theorem aKS{x:Nat}(hx:x<base):aH prog 209 [aX x] (vI (bl x)):=by
 have fin:∀ z,z<256->∃ c:UInt8,IB[z]?=some c/\c.toNat=bl z:=λz hz=>⟨_,aKR z hz,by have:=aBA (x:=z) (n:=8) hz;rw[OW];exact dZ o_⟩
 have w8:∀ z,z<256->IntKind.u8.wrap ((z:Nat):Int)=(z:Int):=λz h=>by rw[aBf];omega
 have shr:∀(z k:Nat),(z:Int).fdiv ((2:Int)^k)=((z/2^k:Nat):Int):=λz k=>by rw[ti _ (Iv d_),uJ,Iw];rfl
 by_cases h1:65536<=x
 ·have e1:=Uq (k:=16) h1;obtain⟨y,hy⟩:∃ y,y=x/2^16:=⟨_,rfl⟩;have HW:y<65536:=by rw[hy];unfold base at hx;omega
  by_cases h2:256<=y
  ·have e2:=Uq (x:=y) (k:=8) h2;obtain⟨z,hz⟩:∃ z,z=y/2^8:=⟨_,rfl⟩;have Ct:z<256:=by rw[hz];omega
   obtain⟨c,c1,c2⟩:=fin z Ct;have e:bl x=24+c.toNat:=by rw[e1,<-hy,e2,<-hz,c2];omega
   rw[e];exact bI func209 (λ_=>[.ge 4 x 65536 true (by simp[h1]),.quo 6 .u32 ((x:Int).fdiv ((2:Int)^16)) (y:Int) (by rw[shr,hy]),.ge 8 y 256 true (by simp[h2]),.quo 10 .u32 ((y:Int).fdiv ((2:Int)^8)) (z:Int) (by rw[shr,hz]),.wr 15 .u8 (z:Int) (z:Int) (w8 z Ct),.O5 f209 16 .u8 IB z c c1 k_,.wr 17 .i64 (c.toNat:Int) (c.toNat:Int) (by rw[eD];have:=c.toNat_lt;omega),.sum 18 24 c.toNat (24+c.toNat) rfl (by have:=c.toNat_lt;omega)])
  ·obtain⟨c,c1,c2⟩:=fin y o_;have e:bl x=16+c.toNat:=by rw[e1,<-hy,c2];omega
   rw[e];exact bI func209 (λ_=>[.ge 4 x 65536 true (by simp[h1]),.quo 6 .u32 ((x:Int).fdiv ((2:Int)^16)) (y:Int) (by rw[shr,hy]),.ge 8 y 256 false (by simp;omega),.wr 15 .u8 (y:Int) (y:Int) (w8 y o_),.O5 f209 16 .u8 IB y c c1 k_,.wr 17 .i64 (c.toNat:Int) (c.toNat:Int) (by rw[eD];have:=c.toNat_lt;omega),.sum 18 16 c.toNat (16+c.toNat) rfl (by have:=c.toNat_lt;omega)])
 ·by_cases h2:256<=x
  ·have e2:=Uq (x:=x) (k:=8) h2;obtain⟨z,hz⟩:∃ z,z=x/2^8:=⟨_,rfl⟩;have Ct:z<256:=by rw[hz];omega
   obtain⟨c,c1,c2⟩:=fin z Ct;have e:bl x=8+c.toNat:=by rw[e2,<-hz,c2];omega
   rw[e];exact bI func209 (λ_=>[.ge 4 x 65536 false (by simp;omega),.ge 8 x 256 true (by simp[h2]),.quo 10 .u32 ((x:Int).fdiv ((2:Int)^8)) (z:Int) (by rw[shr,hz]),.wr 15 .u8 (z:Int) (z:Int) (w8 z Ct),.O5 f209 16 .u8 IB z c c1 k_,.wr 17 .i64 (c.toNat:Int) (c.toNat:Int) (by rw[eD];have:=c.toNat_lt;omega),.sum 18 8 c.toNat (8+c.toNat) rfl (by have:=c.toNat_lt;omega)])
  ·obtain⟨c,c1,c2⟩:=fin x o_;have e:bl x=0+c.toNat:=by rw[c2];omega
   rw[e];exact bI func209 (λ_=>[.ge 4 x 65536 false (by simp;omega),.ge 8 x 256 false (by simp;omega),.wr 15 .u8 (x:Int) (x:Int) (w8 x o_),.O5 f209 16 .u8 IB x c c1 k_,.wr 17 .i64 (c.toNat:Int) (c.toNat:Int) (by rw[eD];have:=c.toNat_lt;omega),.sum 18 0 c.toNat (0+c.toNat) rfl (by have:=c.toNat_lt;omega)])
theorem aKT{x:Nat}(hx:x<base):aH prog 197 [aX x] (vI (32-bl x)):=
 bI func197 (λ_=>[(aKS hx).at 4,.fN 5 32 (bl x) (32-bl x) (by have:=aBA (x:=x) (n:=32) hx;omega) o_])
def rf(x:Nat):Value:=.int .u64 (x:Int)
theorem r6{x:Nat}(h:x<18446744073709551616):IntKind.u64.wrap (x:Int)=(x:Int):=by rw[kK];omega
theorem Ur{x:Nat}(h:x<base):IntKind.u64.wrap ((x:Int)*2^32)=((x*base:Nat):Int):=by
 have e:(x:Int)*2^32=((x*base:Nat):Int):=by rw[oP];rfl
 rw[e];exact r6 (by have:=Co (k:=base) h d_;exact cH this d_)
theorem Us{x y:Nat}(hx:x<base)(hy:y<base):IntKind.u64.wrap (((BitVec.ofInt IntKind.u64.bits ((x*base:Nat):Int))||| (BitVec.ofInt IntKind.u64.bits (y:Int))).toNat:Int)=((x*base+y:Nat):Int):=by
 have h1:x*base<18446744073709551616:=by have:=Co (k:=base) hx d_;exact cH this d_
 have h2:=ON (i:=32) hy x;rw[T0 h1 (nq hy d_),c7 x base];exact cS _ h2.symm
section
variable{Bs:aa}{j m L R V T v1 v2 u2:Nat}
def us(j m:Nat):Value:=.slice (some ⟨0,j,some 7⟩) (m+1) j
def lN(j m q r:Nat):aU:=[(7,rf q),(8,rf r),(5,vI m),(0,us j m),(1,sl 1 m)]
def iI(L R m V:Nat):aL:=[(0,.row (av (ae base L R)) 175 1),(1,.view (av (ae base m V)))]
structure DG(j e L R V T v1 v2 u2:Nat):Prop where
 ds:nr base e (R/base^j) V T u2 v1 v2
 hL:j+(e+2)+1<=L
 hV:V<base^(e+2)
 h63:L<35184372088832
section
variable{e:Nat}(h:DG j e L R V T v1 v2 u2)
include h
theorem DG.hR:R/base^j<base^(e+3):=by have h1:=h.ds.hU;have h2:V*base<=base^(e+2)*base:=fe _ (kv h.hV);rw[<-dH]at h2;exact cH h1 h2
theorem DG.ud(hi:i<=e+2):(av (ae base L R))[j+i]?=some (aX (R/base^j/base^i%base)):=by rw[<-Iy];exact lL (eU (by have:=h.hL;omega))
omit h in
theorem DG.vd(hi:i<e+2):(av (ae base (e+2) V))[i]?=some (aX (V/base^i%base)):=lL (eU hi)
theorem DG.Ut:V/base^(e+1)%base=v1:=by rw[h.ds.kU];exact FU h.hV
theorem DG.aBB:R/base^j/base^(e+2)%base*base+R/base^j/base^(e+1)%base=T:=by rw[FU (h.hR),h.ds.hT,<-ya]
theorem DG.u2d:R/base^j/base^e%base=u2:=h.ds.hu.symm
theorem DG.v2d:V/base^e%base=v2:=h.ds.iF.symm
end
noncomputable def Uu(h:DG j e L R V T v1 v2 u2)(q r:Nat)(IC:q<base)(hr:r<base)(tr:Bool)(hq:tr=decide (r*base+u2<q*v2))(more:bN prog Bs 159):bN prog Bs 159:=
 have iF:v2<base:=by rw[h.ds.iF];exact cU _ d_
 have eM:u2<base:=by rw[h.ds.hu];exact cU _ d_
 have hp:q*v2<18446744073709551616:=cH (qS IC iF) d_;
  .ge 48 q 4294967296 false (by simp;exact IC)::.fN 53 (e+2) 2 e rfl (by have:=h.hL;have:=h.h63;omega)::.ix f199 54 1 (e+2) e o_ k_::
  .ld f199 55 175 1 e (.view (av (ae base (e+2) V))) (aX v2) rfl (by rw[gB,<-h.v2d];exact DG.vd o_) k_::.wr 56 .u64 (v2:Int) (v2:Int) (r6 (nq iF d_))::
  .wr 57 .u64 ((q:Int)*(v2:Int)) ((q*v2:Nat):Int) (by rw[<-oP];exact r6 hp)::.wr 59 .u64 ((r:Int)*2^32) ((r*base:Nat):Int) (Ur hr)::
  .fN 62 (e+2) 2 e rfl (by have:=h.hL;have:=h.h63;omega)::.xZ f199 63 0 j (e+3) j e o_ k_::
  .ld f199 64 175 0 (j+e) (.row (av (ae base L R)) 175 1) (aX u2) rfl (by rw[gB,<-h.u2d];exact h.ud o_) k_::.wr 65 .u64 (u2:Int) (u2:Int) (r6 (nq eM d_))::
  .quo 66 .u64 _ ((r*base+u2:Nat):Int) (Us hr eM)::.gt 67 (q*v2) (r*base+u2) tr hq.symm::more
noncomputable def O6(h:DG j e L R V T v1 v2 u2)(q r:Nat)(hq:0<q/\q<18446744073709551616)(hr:r<base)(tr:Bool)(ht:tr=decide (base<=r+v1)):bN prog Bs 159:=
 have kU:v1<base:=h.ds.D4;
 [.wr 70 .u64 ((q:Int)-1) ((q-1:Nat):Int) (by rw[kK];omega),.fN 74 (e+2) 1 (e+1) rfl (by have:=h.hL;have:=h.h63;omega),.ix f199 75 1 (e+2) (e+1) o_ k_,.ld f199 76 175 1 (e+1) (.view (av (ae base (e+2) V))) (aX v1) rfl (by rw[gB,<-h.Ut];exact DG.vd o_) k_,.wr 77 .u64 (v1:Int) (v1:Int) (r6 (nq kU d_)),.wr 78 .u64 ((r:Int)+(v1:Int)) ((r+v1:Nat):Int) (by rw[<-wT];exact r6 (by unfold base at hr kU;omega)),.ge 80 (r+v1) 4294967296 tr ht.symm]
section
variable{e:Nat}(h:DG j e L R V T v1 v2 u2)
include h
theorem aBC(IC:q<base)(hr:r<base)(hq:q*v2<=r*base+u2):
  ah prog Bs 159 (aK (ai f199 0)) (lN j (e+2) q r) (iI L R (e+2) V) 2 ⟨.exit 0,lN j (e+2) q r,iI L R (e+2) V,2⟩:=
 aG (Uu h q r IC hr false (by simp;omega) [])
theorem aKU(hq:0<q/\q<18446744073709551616)(hr:r<base)(hc:base<=q\/r*base+u2<q*v2)(ht:r+v1<base):
  ah prog Bs 159 (aK (ai f199 0)) (lN j (e+2) q r) (iI L R (e+2) V) 2 ⟨.normal,lN j (e+2) (q-1) (r+v1),iI L R (e+2) V,2⟩:=by
 by_cases hb:base<=q
 ·exact aG (.ge 48 q 4294967296 true (by simp;exact hb)::O6 h q r hq hr false (by simp;omega))
 ·exact aG (Uu h q r o_ hr true (by simp[hc.resolve_left hb]) (O6 h q r hq hr false (by simp;omega)))
theorem aBD(hq:0<q/\q<18446744073709551616)(hr:r<base)(hc:base<=q\/r*base+u2<q*v2)(ht:base<=r+v1):
  ah prog Bs 159 (aK (ai f199 0)) (lN j (e+2) q r) (iI L R (e+2) V) 2 ⟨.exit 0,lN j (e+2) (q-1) (r+v1),iI L R (e+2) V,2⟩:=by
 by_cases hb:base<=q
 ·exact aG (.ge 48 q 4294967296 true (by simp;exact hb)::O6 h q r hq hr true (by simp;omega))
 ·exact aG (Uu h q r o_ hr true (by simp[hc.resolve_left hb]) (O6 h q r hq hr true (by simp;omega)))
theorem aKV:∃ q r,ah prog Bs 159 (.block 0 (ai f199 0)) (lN j (e+2) (T/v1) (T%v1)) (iI L R (e+2) V) 2 ⟨.normal,lN j (e+2) q r,iI L R (e+2) V,2⟩/\q<base/\q*V<R/base^j+V/\R/base^j/V<=q:=by
 have kU:v1<base:=h.ds.D4;have yq:=h.ds.top;have As:0<v1:=by unfold base at yq;omega
 have nQ:T%v1<v1:=cU _ As;have g0:=h.ds.start;have sm:∀{q r},Cn (R/base^j) V T v1 q r->q<18446744073709551616:=λg=>fA (h.ds.aKz g) d_;have one:∀{q r q' r':Nat},ah prog Bs 159 (.loop (aK (ai f199 0))) (lN j (e+2) q r) (iI L R (e+2) V) 2 ⟨.exit 0,lN j (e+2) q' r',iI L R (e+2) V,2⟩->
   ah prog Bs 159 (.block 0 (ai f199 0)) (lN j (e+2) q r) (iI L R (e+2) V) 2 ⟨.normal,lN j (e+2) q' r',iI L R (e+2) V,2⟩:=λg=>cg (id:=0) g
 have zero:∀{q r:Nat} {o:nh},o.ex≠.normal->ah prog Bs 159 (aK (ai f199 0)) (lN j (e+2) q r) (iI L R (e+2) V) 2 o->ah prog Bs 159 (.loop (aK (ai f199 0))) (lN j (e+2) q r) (iI L R (e+2) V) 2 o:=λ{q r o} ho g=>
  cz (P:=prog) (B:=Bs) (N:=159) (b:=aK (ai f199 0)) (next:=2) 0 (λ_=>lN j (e+2) q r) (λ_=>iI L R (e+2) V) (λ_ _ _=>Iff.rfl) (λi hi=>by omega) g ho
 generalize T/v1=q0 at *;generalize T%v1=r0 at *;by_cases c1:base<=q0\/r0*base+u2<q0*v2
 ·obtain⟨p1,g1⟩:=h.ds.less g0 c1;by_cases t1:base<=r0+v1
  ·obtain⟨a1,a2⟩:=h.ds.fin g1 (.inr t1);exact⟨_,_,one (zero n_ (aBD h ⟨p1,sm g0⟩ o_ c1 t1)),a1,a2,g1.le⟩
  ·have t1:=Nat.not_le.1 t1;have two:∀{o:nh},o.ex≠.normal->ah prog Bs 159 (aK (ai f199 0)) (lN j (e+2) (q0-1) (r0+v1)) (iI L R (e+2) V) 2 o->ah prog Bs 159 (.loop (aK (ai f199 0))) (lN j (e+2) q0 r0) (iI L R (e+2) V) 2 o:=λ{o} ho g=>
    cz (P:=prog) (B:=Bs) (N:=159) (b:=aK (ai f199 0)) (next:=2) 1 (λi=>if i=0 then lN j (e+2) q0 r0 else lN j (e+2) (q0-1) (r0+v1)) (λ_=>iI L R (e+2) V) (λ_ _ _=>Iff.rfl) (λi hi=>by
     have:i=0:=by omega
     subst this;exact aKU h ⟨p1,sm g0⟩ o_ c1 t1) g ho
   by_cases c2:base<=q0-1\/(r0+v1)*base+u2<(q0-1)*v2
   ·obtain⟨p2,g2⟩:=h.ds.less g1 c2;have t2:=h.ds.aKy r0;obtain⟨a1,a2⟩:=h.ds.fin g2 (.inr t2);exact⟨_,_,one (two n_ (aBD h ⟨p2,sm g1⟩ t1 c2 t2)),a1,a2,g2.le⟩
   ·have Uv:q0-1<base/\(q0-1)*v2<=(r0+v1)*base+u2:=by
     constructor
     ·exact Nat.not_le.1 λhh=>c2 (.inl hh)
     ·exact KZ.1 λhh=>c2 (.inr hh)
    obtain⟨a1,a2⟩:=h.ds.fin g1 (.inl Uv);exact⟨_,_,one (two n_ (aBC h Uv.1 t1 Uv.2)),a1,a2,g1.le⟩
 ·have Uw:q0<base/\q0*v2<=r0*base+u2:=by
   constructor
   ·exact Nat.not_le.1 λhh=>c1 (.inl hh)
   ·exact KZ.1 λhh=>c1 (.inr hh)
  obtain⟨a1,a2⟩:=h.ds.fin g0 (.inl Uw);exact⟨_,_,one (zero n_ (aBC h Uw.1 o_ Uw.2)),a1,a2,g0.le⟩
end
end
section
variable{Bs:aa}{j L R V T v1 v2 u2:Nat}
theorem ID{L R S t:Nat}(ht:t<L)(h:i<=t):(av (dh base L i S R))[t]?=some (aX (R/base^t%base)):=lL (DH ht h)
theorem K3{L R S:Nat}(hi:i<L)(hd:d=S/base^i%base):fK prog 175 (av (dh base L i S R)) i (aX d)=some (av (dh base L (i+1) S R)):=by rw[Aj _ i _ (by simp[av,x9];omega),Ak,Ai hi hd]
def gL(j m R V q:Nat):Nat:=gR base j R (gK base m (R/base^j) V q)
def D8(j m R V q i:Nat):aU:=
 [(83,vI i),(82,vI m),(81,sl 1 m),(7,rf q),(9,rf (oW base q V i)),(10,aX (pF base (R/base^j) V q i)),(5,vI m),(0,us j m),(1,sl 1 m)]
def Cu(j m L R V q i:Nat):aL:=[(0,.row (av (dh base L (j+i) (gL j m R V q) R)) 175 1),(1,.view (av (ae base m V)))]
section
variable{e q:Nat}(h:DG j e L R V T v1 v2 u2)(hq:q<base)(qQ:q*V<R/base^j+V)
include h hq qQ
omit hq in
theorem DG.qle:q*V<=R/base^j+base^(e+3):=by have h1:V<=base^(e+3):=dq (kv h.hV) (dj d_ o_);omega
omit hq in
theorem DG.sub(hi:i<=e+2):aH prog 193 [aX (R/base^j/base^i%base),aX ((oW base q V i+q*(V/base^i%base))%base),aX (pF base (R/base^j) V q i)]
  (.tuple #[aX (gL j (e+2) R V q/base^(j+i)%base),aX (pF base (R/base^j) V q (i+1))]):=by
 have hb:pF base (R/base^j) V q i<=1:=Oy _ _ _;have:=aAL (x:=R/base^j/base^i%base) (y:=(oW base q V i+q*(V/base^i%base))%base) (b:=pF base (R/base^j) V q i) (cU _ d_) (cU _ d_) hb;rw[aKG d_ (h.qle qQ) hi,aKH d_]at this;unfold gL;rw[yo d_];exact this
theorem aKW(hi:i<e+2):
  ah prog Bs 159 (aK (ai f199 2)) (D8 j (e+2) R V q i) (Cu j (e+2) L R V q i) 2 ⟨.normal,D8 j (e+2) R V q (i+1),Cu j (e+2) L R V q (i+1),2⟩:=by
 have hL:=h.hL;have h63:=h.h63;have yd:=h.sub qQ (show i<=e+2 by omega);have hc:=aBl (B:=base) d_ hq V i;have uz:=aKB (B:=base) d_ q V i;have hv:V/base^i%base<base:=cU _ d_;have bW:fK prog 175 (av (dh base L (j+i) (gL j (e+2) R V q) R)) (j+i) (aX (gL j (e+2) R V q/base^(j+i)%base))=some (av (dh base L (j+(i+1)) (gL j (e+2) R V q) R)):=K3 o_ rfl;have Ux:=DG.vd (V:=V) hi;have Uy:(av (dh base L (j+i) (gL j (e+2) R V q) R))[j+i]?=some (aX (R/base^j/base^i%base)):=by rw[<-Iy];exact ID o_ (bF _)
 generalize R/base^j/base^i%base=x at *;generalize V/base^i%base=y at *;generalize hC:oW base q V i=C at *;have hp:q*y<18446744069414584321:=by have h1:q*y<=(base-1)*(base-1):=yf o_ o_;exact fA h1 d_
 have hs:C+q*y<18446744073709551616:=by unfold base at hc;omega
 have e1:D8 j (e+2) R V q i=[(83,vI i),(82,vI (e+2)),(81,sl 1 (e+2)),(7,rf q),(9,rf C),(10,aX (pF base (R/base^j) V q i)),(5,vI (e+2)),(0,us j (e+2)),(1,sl 1 (e+2))]:=by unfold D8;rw[hC]
 rw[e1];generalize hP:q*y=W at *;exact aG [.lt 84 i (e+2) true (by simp[hi]),.ix f199 86 1 (e+2) i hi k_,.ld f199 87 175 1 i (.view (av (ae base (e+2) V))) (aX y) rfl (by rw[gB];exact Ux) k_,.wr 91 .u64 (y:Int) (y:Int) (r6 (nq hv d_)),.wr 92 .u64 ((q:Int)*(y:Int)) (W:Int) (by rw[<-oP,hP];exact r6 o_),.wr 93 .u64 ((C:Int)+(W:Int)) ((C+W:Nat):Int) (by rw[<-wT];exact r6 hs),.xZ f199 99 0 j (e+3) j i o_ k_,.ld f199 100 175 0 (j+i) (.row (av (dh base L (j+i) (gL j (e+2) R V q) R)) 175 1) (aX x) rfl (by rw[gB];exact Uy) k_,.wr 102 .u32 ((C+W:Nat):Int) (((C+W)%base:Nat):Int) (by rw[ox];unfold base;omega),yd.at 104,.xZ f199 107 0 j (e+3) j i o_ k_,.st f199 100107 175 0 (j+i) (.row (av (dh base L (j+i) (gL j (e+2) R V q) R)) 175 1) (aX (gL j (e+2) R V q/base^(j+i)%base)) (.row (av (dh base L (j+(i+1)) (gL j (e+2) R V q) R)) 175 1) rfl bW rfl k_,.quo 109 .u64 (((C+W:Nat):Int).fdiv ((2:Int)^32)) ((oW base q V (i+1):Nat):Int) (by rw[ti _ d_,<-uz];unfold base;omega),.sum 110 i 1 (i+1) rfl o_]
omit h hq qQ in
theorem aKX:Cu j (e+2) L R V q 0=iI L R (e+2) V:=by unfold Cu iI gL;rw[jv,O1 d_]
theorem aKY:ah prog Bs 159 (.block 2 (ai f199 2)) (D8 j (e+2) R V q 0) (iI L R (e+2) V) 2 ⟨.normal,D8 j (e+2) R V q (e+2),Cu j (e+2) L R V q (e+2),2⟩:=by
 rw[<-aKX (q:=q)];exact cg (id:=2) (cz (b:=aK (ai f199 2)) (r:=⟨.exit 2,D8 j (e+2) R V q (e+2),Cu j (e+2) L R V q (e+2),2⟩) (e+2) (D8 j (e+2) R V q) (Cu j (e+2) L R V q) (λi t _=>kH (l:=Cu j (e+2) L R V q i) (m:=Cu j (e+2) L R V q 0) rfl t)
  (λi hi=>aKW h hq qQ hi) (aG [.lt 84 (e+2) (e+2) false s_]) n_)
end
def oy(j m R V q:Nat):Nat:=gR base j R ((gK base m (R/base^j) V q+V)%base^(m+1))
def IE(j m R V q i:Nat):aU:=
 [(131,vI i),(130,vI m),(129,sl 1 m),(13,aX (fB base (gK base m (R/base^j) V q) V i)),(7,rf (q-1)),(5,vI m),(0,us j m),(1,sl 1 m)]
def Cv(j m L R V q i:Nat):aL:=[(0,.row (av (dh base L (j+i) (oy j m R V q) (gL j m R V q))) 175 1),(1,.view (av (ae base m V)))]
section
variable{e q:Nat}(h:DG j e L R V T v1 v2 u2)
include h
theorem aKZ(hi:i<e+2):
  ah prog Bs 159 (aK (ai f199 4)) (IE j (e+2) R V q i) (Cv j (e+2) L R V q i) 2 ⟨.normal,IE j (e+2) R V q (i+1),Cv j (e+2) L R V q (i+1),2⟩:=by
 have hL:=h.hL;have h63:=h.h63;have hc:=B7 (B:=base) d_ (gK base (e+2) (R/base^j) V q) V i;have Am:=KK (x:=gK base (e+2) (R/base^j) V q/base^i%base) (y:=V/base^i%base) (c:=fB base (gK base (e+2) (R/base^j) V q) V i) (cU _ d_) (cU _ d_) (fA hc d_);rw[Uk d_ (show i<=e+2 by omega),FV d_]at Am;have bW:fK prog 175 (av (dh base L (j+i) (oy j (e+2) R V q) (gL j (e+2) R V q))) (j+i) (aX ((gK base (e+2) (R/base^j) V q+V)%base^(e+2+1)/base^i%base))=some (av (dh base L (j+(i+1)) (oy j (e+2) R V q) (gL j (e+2) R V q))):=
  K3 o_ (by unfold oy;rw[yo d_])
 have Ux:=DG.vd (V:=V) hi;have Uy:(av (dh base L (j+i) (oy j (e+2) R V q) (gL j (e+2) R V q)))[j+i]?=some (aX (gK base (e+2) (R/base^j) V q/base^i%base)):=by have:=ID (L:=L) (i:=j+i) (R:=gL j (e+2) R V q) (S:=oy j (e+2) R V q) (t:=j+i) o_ (bF _);rw[this];unfold gL;rw[yo d_]
 exact aG [.lt 132 i (e+2) true (by simp[hi]),.ix f199 134 1 (e+2) i hi k_,.ld f199 135 175 1 i (.view (av (ae base (e+2) V))) (aX (V/base^i%base)) rfl (by rw[gB];exact Ux) k_,.xZ f199 141 0 j (e+3) j i o_ k_,.ld f199 142 175 0 (j+i) (.row (av (dh base L (j+i) (oy j (e+2) R V q) (gL j (e+2) R V q))) 175 1) (aX (gK base (e+2) (R/base^j) V q/base^i%base)) rfl (by rw[gB];exact Uy) k_,Am.at 145,.xZ f199 148 0 j (e+3) j i o_ k_,.st f199 100148 175 0 (j+i) (.row (av (dh base L (j+i) (oy j (e+2) R V q) (gL j (e+2) R V q))) 175 1) (aX ((gK base (e+2) (R/base^j) V q+V)%base^(e+2+1)/base^i%base)) (.row (av (dh base L (j+(i+1)) (oy j (e+2) R V q) (gL j (e+2) R V q))) 175 1) rfl bW rfl k_,.sum 149 i 1 (i+1) rfl o_]
omit h in
theorem aK0:Cv j (e+2) L R V q 0=iI L (gL j (e+2) R V q) (e+2) V:=by unfold Cv iI oy;rw[jv,<-aBm (B:=base) d_ j R (gK base (e+2) (R/base^j) V q)];unfold gL;rw[O1 d_]
theorem aK1:ah prog Bs 159 (.block 4 (ai f199 4)) (IE j (e+2) R V q 0) (iI L (gL j (e+2) R V q) (e+2) V) 2 ⟨.normal,IE j (e+2) R V q (e+2),Cv j (e+2) L R V q (e+2),2⟩:=by
 rw[<-aK0 (q:=q)];exact cg (id:=4) (cz (b:=aK (ai f199 4)) (r:=⟨.exit 4,IE j (e+2) R V q (e+2),Cv j (e+2) L R V q (e+2),2⟩) (e+2) (IE j (e+2) R V q) (Cv j (e+2) L R V q) (λi t _=>kH (l:=Cv j (e+2) L R V q i) (m:=Cv j (e+2) L R V q 0) rfl t)
  (λi hi=>aKZ h hi) (aG [.lt 132 (e+2) (e+2) false s_]) n_)
end
noncomputable def aBE(h:DG j e L R V T v1 v2 u2)(hq:q<base)(qQ:q*V<R/base^j+V)
  (hg:ah prog Bs 159 (.block 0 (ai f199 0)) (lN j (e+2) (T/v1) (T%v1)) (iI L R (e+2) V) 2 ⟨.normal,lN j (e+2) q r,iI L R (e+2) V,2⟩) (more:bN prog Bs 159):bN prog Bs 159:=
 have hL:=h.hL;have h63:=h.h63;have hx:R/base^j/base^(e+2)%base<base:=cU _ d_;have hy:R/base^j/base^(e+1)%base<base:=cU _ d_;have kU:v1<base:=h.ds.D4;have As:(v1:Int)≠0:=by have:=h.ds.top;unfold base at this;omega
 have hT:T<18446744073709551616:=by
  rw[<-h.aBB];have:R/base^j/base^(e+2)%base*base<=(base-1)*base:=fe _ o_;have e3:(base-1)*base=18446744069414584320:=by decide
  rw[e3]at this;clear e3;unfold base at *;omega
 have hc:=aBl (B:=base) d_ hq V (e+2);have h0:V/base^(e+2)%base=0:=rV h.hV (bF _) d_;have yd:=h.sub qQ (bF (e+2))
 have aK2:aH prog 193 [aX (R/base^j/base^(e+2)%base),aX (oW base q V (e+2)),aX (pF base (R/base^j) V q (e+2))]
   (.tuple #[aX (gL j (e+2) R V q/base^(j+(e+2))%base),aX (pF base (R/base^j) V q (e+3))]):=by
  rw[h0,Nat.mul_zero,jv (oW base q V (e+2)),dZ hc]at yd;exact yd
 have jz:(av (dh base L (j+(e+2)) (gL j (e+2) R V q) R))[j+(e+2)]?=some (aX (R/base^j/base^(e+2)%base)):=by rw[<-Iy];exact ID o_ (bF _)
 have bW:fK prog 175 (av (dh base L (j+(e+2)) (gL j (e+2) R V q) R)) (j+(e+2)) (aX (gL j (e+2) R V q/base^(j+(e+2))%base))=some (av (ae base L (gL j (e+2) R V q))):=by
  rw[K3 o_ rfl,show j+(e+2)+1=j+(e+3)by omega,Gc d_]
  ·have:=h.hR;have h2:=Ix (B:=base) d_ (j:=j) R this;rw[aKC]at h2;exact h2
  ·exact Ix d_ R (Ui d_);
 .xZ f199 20 0 j (e+3) j (e+2) o_ k_::.ld f199 21 175 0 (j+(e+2)) (.row (av (ae base L R)) 175 1) (aX (R/base^j/base^(e+2)%base)) rfl (by rw[gB];exact h.ud (bF _)) k_::
 .wr 22 .u64 ((R/base^j/base^(e+2)%base:Nat):Int) ((R/base^j/base^(e+2)%base:Nat):Int) (r6 (nq hx d_))::
 .wr 23 .u64 (((R/base^j/base^(e+2)%base:Nat):Int)*2^32) ((R/base^j/base^(e+2)%base*base:Nat):Int) (Ur hx)::.fN 26 (e+2) 1 (e+1) rfl o_::
 .xZ f199 27 0 j (e+3) j (e+1) o_ k_::.ld f199 28 175 0 (j+(e+1)) (.row (av (ae base L R)) 175 1) (aX (R/base^j/base^(e+1)%base)) rfl (by rw[gB];exact h.ud o_) k_::
 .wr 29 .u64 ((R/base^j/base^(e+1)%base:Nat):Int) ((R/base^j/base^(e+1)%base:Nat):Int) (r6 (nq hy d_))::.quo 30 .u64 _ ((T:Nat):Int) ((Us hx hy).trans (by rw[h.aBB]))::
 .fN 34 (e+2) 1 (e+1) rfl o_::.ix f199 35 1 (e+2) (e+1) o_ k_::.ld f199 36 175 1 (e+1) (.view (av (ae base (e+2) V))) (aX v1) rfl (by rw[gB,<-h.Ut];exact DG.vd o_) k_::
 .wr 37 .u64 (v1:Int) (v1:Int) (r6 (nq kU d_))::.wQ f199 38 .u64 (T:Int) v1 ((T/v1:Nat):Int) As (by rw[Cd o_,<-uJ];exact r6 (fA (uK _ _) hT)) k_::
 .fN 42 (e+2) 1 (e+1) rfl o_::.ix f199 43 1 (e+2) (e+1) o_ k_::.ld f199 44 175 1 (e+1) (.view (av (ae base (e+2) V))) (aX v1) rfl (by rw[gB,<-h.Ut];exact DG.vd o_) k_::
 .wr 45 .u64 (v1:Int) (v1:Int) (r6 (nq kU d_))::.F1 f199 46 .u64 (T:Int) v1 ((T%v1:Nat):Int) As (by rw[Ar o_];rfl) k_::
 .code 0 _ _ _ _ _ hg::.rw 9 (.int .u64 0) (rf (oW base q V 0)) (by rw[aKA];rfl)::.rw 10 (.int .u32 0) (aX (pF base (R/base^j) V q 0)) (by unfold pF;rw[TL];rfl)::
 .code 2 _ _ _ _ _ (aKY h hq qQ)::.xZ f199 116 0 j (e+3) j (e+2) o_ k_::.ld f199 117 175 0 (j+(e+2)) (.row (av (dh base L (j+(e+2)) (gL j (e+2) R V q) R)) 175 1) (aX (R/base^j/base^(e+2)%base)) rfl (by rw[gB];exact jz) k_::
 .wr 119 .u32 ((oW base q V (e+2):Nat):Int) ((oW base q V (e+2):Nat):Int) (by rw[ox];unfold base at hc ⊢;omega)::aK2.at 121::.xZ f199 124 0 j (e+3) j (e+2) o_ k_::
 .st f199 100124 175 0 (j+(e+2)) (.row (av (dh base L (j+(e+2)) (gL j (e+2) R V q) R)) 175 1) (aX (gL j (e+2) R V q/base^(j+(e+2))%base)) (.row (av (ae base L (gL j (e+2) R V q))) 175 1) rfl bW rfl k_::more
theorem aK3{g c':Nat}{vv:i_}(h:DG j e L R V T v1 v2 u2)(hg:w.heap[g]?=some (.cells cur 175 (0,0)))(hn:e+3<=c')(nK:j+c'=cap)(kf:cap<=maxLen)(bL:cur.size=cap*1)
  (hc:cur.toList.take (av (ae base L R)).length=av (ae base L R)) (hv:dr w vv (e+2) (av (ae base (e+2) V))) (bB:∀ b o c,vv=.slice (some ⟨b,o,none⟩) (e+2) c->b≠g) :
  Calls prog 199 #[.slice (some ⟨g,j,none⟩) (e+3) c',vv] w λex w'=>ex=.returned (aX (R/base^j/V))/\B9 g w w'/\∃ gE,w'.heap[g]?=some (.cells gE 175 (0,0))/\gE.size=cap*1/\
   gE.toList.take (av (ae base L (gR base j R (R/base^j%V)))).length=av (ae base L (gR base j R (R/base^j%V))):=by
 obtain⟨q,r,IF,hq,qQ,hle⟩:=aKV (Bs:=aa.wP w g) h;have hU:=h.ds.hU;have mg:=aKJ (B:=base) d_ hq h.hV hU;have hL:=h.hL;have h63:=h.h63;have aWM:q<18446744073709551616:=nq hq d_;have key:∀(qq:Nat) (S:Nat) (rs:bN prog (aa.wP w g) 159),qq=R/base^j/V->S=gR base j R (R/base^j%V)->
   pv (iv (P:=prog) f199 100 (us j (e+2)::tg 1 [cJ.row vv (e+2) (av (ae base (e+2) V))]) ((0,.row (av (ae base L R)) 175 1)::vJ 1 [cJ.row vv (e+2) (av (ae base (e+2) V))]) (uF 1 [cJ.row vv (e+2) (av (ae base (e+2) V))]) rs) [(0,.row (av (ae base L S)) 175 1)] =
    pw (iv f199 100 (us j (e+2)::tg 1 [cJ.row vv (e+2) (av (ae base (e+2) V))]) ((0,.row (av (ae base L R)) 175 1)::vJ 1 [cJ.row vv (e+2) (av (ae base (e+2) V))]) (uF 1 [cJ.row vv (e+2) (av (ae base (e+2) V))]) rs) (aX qq) [(0,.row (av (ae base L S)) 175 1)]->
   Calls prog 199 #[.slice (some ⟨g,j,none⟩) (e+3) c',vv] w λex w'=>ex=.returned (aX (R/base^j/V))/\B9 g w w'/\∃ gE,w'.heap[g]?=some (.cells gE 175 (0,0))/\gE.size=cap*1/\
    gE.toList.take (av (ae base L (gR base j R (R/base^j%V)))).length=av (ae base L (gR base j R (R/base^j%V))):=by
  rintro qq S rs rfl rfl FJ
  exact aKq (ms:=[]) (cells':=av (ae base L (gR base j R (R/base^j%V)))) (v:=aX (R/base^j/V)) mixed func199 hg kf bL hc (ga _) (ga _) hn nK [cJ.row vv (e+2) (av (ae base (e+2) V))]
   (λs hs=>by simp at hs;subst hs;exact⟨hv,ga _⟩) (λs hs=>by simp at hs;subst hs;exact bB) 100 (N:=159) k_ FJ λaB Uf v' w' _ kS h1 h2 _ _=>⟨by rw[kS.fH rfl],h1,h2⟩
 by_cases hb:R/base^j<q*V
 ·rw[aA hb]at mg;obtain⟨e1,e2⟩:=aBp (B:=base) (m:=e+2) d_ h.hV hU qQ hb;have e3:oy j (e+2) R V q=gR base j R (R/base^j%V):=by unfold oy;rw[e2]
  have h0:V/base^(e+2)%base=0:=rV h.hV (bF _) d_;have K4:=Uk (B:=base) (m:=e+2) (V:=V) (D:=gK base (e+2) (R/base^j) V q) d_ (bF (e+2));rw[h0,jv (gK base (e+2) (R/base^j) V q/base^(e+2)%base)]at K4;have jz:(av (dh base L (j+(e+2)) (oy j (e+2) R V q) (gL j (e+2) R V q)))[j+(e+2)]?=some (aX (gK base (e+2) (R/base^j) V q/base^(e+2)%base)):=by have:=ID (L:=L) (i:=j+(e+2)) (R:=gL j (e+2) R V q) (S:=oy j (e+2) R V q) (t:=j+(e+2)) o_ (bF _);rw[this];unfold gL;rw[yo d_]
  have bW:fK prog 175 (av (dh base L (j+(e+2)) (oy j (e+2) R V q) (gL j (e+2) R V q))) (j+(e+2)) (aX ((gK base (e+2) (R/base^j) V q+V)%base^(e+2+1)/base^(e+2)%base))=some (av (ae base L (oy j (e+2) R V q))):=by
   rw[K3 o_ (by unfold oy;rw[yo d_]),show j+(e+2)+1=j+(e+3)by omega,Gc d_]
   ·exact Ix d_ R (Ui d_)
   ·exact Ix d_ R (cU _ (cT d_))
  have hd:gK base (e+2) (R/base^j) V q/base^(e+2)%base<base:=cU _ d_;have gY:=B7 (B:=base) d_ (gK base (e+2) (R/base^j) V q) V (e+2);have hbk:=aK1 (Bs:=aa.wP w g) (q:=q) h;have Cw:q-1=R/base^j/V:=by rw[e1,O0]
  have ql:0<q:=by rw[e1];exact Uz _
  refine key (q-1) (oy j (e+2) R V q) (aBE h hq qQ IF [.rw 126 (.bool (((pF base (R/base^j) V q (e+3):Nat):Int)!=0)) b_ (by rw[show e+3=e+2+1 from rfl,mg];rfl),.wr 128 .u64 ((q:Int)-1) ((q-1:Nat):Int) (by rw[kK];omega),.rw 13 (.int .u32 0) (aX (fB base (gK base (e+2) (R/base^j) V q) V 0)) (by rw[Ox];rfl),.code 4 _ _ _ _ _ hbk,.xZ f199 152 0 j (e+3) j (e+2) o_ k_,.ld f199 153 175 0 (j+(e+2)) (.row (av (dh base L (j+(e+2)) (oy j (e+2) R V q) (gL j (e+2) R V q))) 175 1) (aX (gK base (e+2) (R/base^j) V q/base^(e+2)%base)) rfl (by rw[gB];exact jz) k_,.wr 155 .u32 (((gK base (e+2) (R/base^j) V q/base^(e+2)%base:Nat):Int)+((fB base (gK base (e+2) (R/base^j) V q) V (e+2):Nat):Int)) (((gK base (e+2) (R/base^j) V q+V)%base^(e+2+1)/base^(e+2)%base:Nat):Int)
    (by rw[<-K4,<-wT,ox];unfold base;omega),.xZ f199 156 0 j (e+3) j (e+2) o_ k_,
   .st f199 100156 175 0 (j+(e+2)) (.row (av (dh base L (j+(e+2)) (oy j (e+2) R V q) (gL j (e+2) R V q))) 175 1) (aX ((gK base (e+2) (R/base^j) V q+V)%base^(e+2+1)/base^(e+2)%base)) (.row (av (ae base L (oy j (e+2) R V q))) 175 1) rfl bW rfl k_,
   .wr 158 .u32 ((q-1:Nat):Int) ((q-1:Nat):Int) (by rw[ox];unfold base at hq;omega)]) Cw e3 k_
 ·rw[au hb]at mg;obtain⟨e1,e2⟩:=aBo (B:=base) (m:=e+2) d_ h.hV hU hle hb;have e3:gL j (e+2) R V q=gR base j R (R/base^j%V):=by unfold gL;rw[e2]
  exact key q (gL j (e+2) R V q) (aBE h hq qQ IF [.rw 126 (.bool (((pF base (R/base^j) V q (e+3):Nat):Int)!=0)) a_ (by rw[show e+3=e+2+1 from rfl,mg];rfl),.wr 158 .u32 (q:Int) (q:Int) (by rw[ox];unfold base at hq;omega)]) e1 e3 k_
end
section
variable{Bs:aa}{N:Nat}
theorem O7{y:m_}(ho:dC o.op=some y){n M:Nat}{x:Obj}(hx:x.reads=true)(hc:x.cells=av (ae base M a))(hnM:n<=M)(ha:a<base^n)(h63:n<=9223372036854775807)(hd:nd base a=d):
  cI prog Bs o [.func (.func 178) #[] #[],sl k n] [(k,some x)] (sl k d) []:=by
 subst hd;refine kj (fi:=[]) (ca:=[]) ho k_ λι c w hm hn args' dP=>?_;obtain⟨v,rfl,h1⟩:=oh dP;have hk:c k=some x:=hn _ (aR ..);have hr:=pA (len:=n) hm hk hx (by rw[hc];exact ga _) (λh=>h) h1;have e:(av (ae base M a)).take n=av (ae base n a):=by unfold av;rw[<-DC,KF hnM]
 rw[hc,nk,e]at hr;refine(aAE hr ha h63).mono ?_
 rintro e w' ⟨rfl,hb⟩
 refine⟨ι,_,rfl,Map.le.refl _,?_,hm.call hb⟩;have e7:=jK (B:=base) d_ ha;rcases h1.iM rfl with ⟨q1,q2,_,_,q5⟩|⟨b,oo,cap,c',q1,q2,q3,q5⟩
 ·rw[q5];have:nd base a=0:=by omega
  rw[this];exact .slcN q1
 ·rw[q5];exact .slc q1 o_ q3
theorem aBF{y:m_}(ho:dC o.op=some y){n:Nat}(hx:qY x1 a)(hk:k<=31)(h1:nd base a<35184372088832)(pq:nd base a=n)(kn:Nat):
  cI prog Bs o [.func (.func 198) #[] #[],sl k1 n,vI k] [(k1,some x1),(kn,none)] (sl kn (n+1)) [(kn,.row (av (ae base (n+1) (a*2^k))) 175 1)]:=by
 subst pq;refine kj (fi:=[]) (ca:=[]) ho k_ λι cc w hm hn args' bo=>?_;rw[jJ,jZ]at bo;obtain⟨va,vb,rfl,hv,iF⟩:=jH bo;rw[iF.fH rfl];refine(aKO (Cq hm (hn _ (aR ..)) hx hv) hk h1).mono ?_
 rintro e w' ⟨v,rfl,h1,h2⟩
 obtain⟨aB,q1,q2,q3⟩:=FT hm h2 (k:=kn) (hn _ (bK _ (aR ..))) h1 (ga _);exact⟨aB,v,rfl,q1,q3,q2⟩
def aZ.part(fn:Func)(key k n l h s m off:Nat)(zX:l*s=off)(hh:h<=n)(hm:l+m=h)(h0:0<m)(ho:th P (az fn key)=some (true,true,s)):aZ P B N:=
 .step key (az fn key) [sl k n,vI l,vI h] [] (.slice (some ⟨k,off,some 7⟩) m l) [] (by
  subst zX;have:=H8 (B:=B) ho (k:=k) (off:=0) (n:=n) (cc:=0) (l:=l) (h:=h) n_ n_ o_ hh (.inl o_);have e1:h-l=m:=by omega
  rw[e1,kT,kT]at this;exact this)
end
structure DV(e L A V:Nat):Prop where
 hV:V<base^(e+2)
 top:base<=2*(V/base^(e+1))
 hL:e+2+1<=L
 hA:A<V*base^(L-(e+2))
 h63:L<35184372088832
theorem DV.pos{V:Nat}(h:DV e L A V):0<V:=by
 rcases ow V with e1|e1
 ·have:=h.hA;rw[e1,l9]at this;omega
 ·exact e1
theorem DV.dg{V:Nat}(h:DV e L A V)(hj:j+(e+2)+1<=L):
  DG j e L (A%(V*base^(j+1))) V (A%(V*base^(j+1))/base^j/base^(e+1)) (V/base^(e+1)) (V/base^e%base) (A%(V*base^(j+1))/base^j/base^e%base) where
 ds:={ hB:=by decide,hU:=aBs d_ h.pos A j,hT:=rfl,hu:=rfl,kU:=rfl,iF:=rfl,top:=h.top,D4:=by have:=h.hV;rw[jc (cT d_),c7,<-dH];exact this }
 hL:=hj
 hV:=h.hV
 h63:=h.h63
section
variable{Bs:aa}{e L A V M:Nat}
def IG(e L p j:Nat):aU:=[(13,dw j),(12,sl 4 p),(10,sl 3 L),(9,sl 2 (e+2)),(11,vI (e+2))]
def Cx(L A V M p j:Nat):aL:=[(3,.row (av (ae base L (A%(V*base^j)))) 175 1),(4,.row (av (ig base p j (A/V))) 175 1),(2,.row (av (ae base M V)) 175 1)]
theorem aK4(h:DV e L A V)(hM:e+2<=M){p:Nat}(hp:p+(e+2)=L)(hj:j<p):
  ah prog Bs 110 (aK (ai f176 0)) (IG e L p (j+1)) (Cx L A V M p (j+1)) 5 ⟨.normal,IG e L p j,Cx L A V M p j,5⟩:=by
 have h63:=h.h63;have hdg:=h.dg (j:=j) o_;have hr:=aBq (B:=base) d_ A V j;have hq:=aBr (B:=base) A V j;have bW:fK prog 175 (av (ig base p (j+1) (A/V))) j (aX (A/V/base^j%base))=some (av (ig base p j (A/V))):=by rw[Aj _ _ _ (by simp[av,OB];exact hj),Ak,OD hj rfl]
 have D9:(av (ae base M V)).take (e+2)=av (ae base (e+2) V):=by unfold av;rw[<-DC,KF hM]
 have hw:cI prog Bs (az f176 76) [.func (.func 199) #[] #[],.slice (some ⟨3,j,some 7⟩) (e+3) j,sl 2 (e+2)] [(3,some (.row (av (ae base L (A%(V*base^(j+1))))) 175 1)),(2,some (.row (av (ae base M V)) 175 1))]
   (aX (A/V/base^j%base)) [(3,.row (av (ae base L (A%(V*base^j)))) 175 1)]:=by
  refine aKs (x:=.func 199) (Ug:=e+2) k_ k_ d_ o_ (ga _) (ga _) rfl rfl (ga _) o_ λw g cap cur c' v2 hg lF nK kf bL hc hv bB=>?_;have hv:dr w v2 (e+2) ((av (ae base M V)).take (e+2)):=hv;rw[D9]at hv;have:=aK3 hdg hg lF nK kf bL hc hv bB;rw[hq,hr]at this;exact this
 exact aG [.rw 62 (dw (j+1)) (vI j) (eH j),.ge 63 j 0 true s_,.rw 67 (dw (j+1)) (vI j) (eH j),.rw 69 (dw (j+1)) (vI j) (eH j),.rw 70 (dw (j+1)) (vI j) (eH j),.sum 72 j (e+2) (j+(e+2)) rfl o_,.sum 73 (j+(e+2)) 1 (j+(e+3)) rfl o_,.part f176 74 3 L j (j+(e+3)) 1 (e+3) j (gZ j) o_ rfl o_ k_,.step 76 _ _ _ _ _ hw,.ix f176 77 4 p j hj k_,.st f176 100077 175 4 j (.row (av (ig base p (j+1) (A/V))) 175 1) (aX (A/V/base^j%base)) (.row (av (ig base p j (A/V))) 175 1) rfl bW rfl k_,.rw 64 (dw (j+1)) (vI j) (eH j),.wr 65 .i64 ((j:Int)-1) ((j:Int)-1) (pE o_)]
theorem aK5(h:DV e L A V)(hM:e+2<=M){p:Nat}(hp:p+(e+2)=L):
  ah prog Bs 110 (.block 0 (ai f176 0)) (IG e L p p) (Cx L A V M p p) 5 ⟨.normal,IG e L p 0,Cx L A V M p 0,5⟩:=by
 have:=cz (P:=prog) (B:=Bs) (N:=110) (b:=aK (ai f176 0)) (next:=5) (r:=⟨.exit 0,IG e L p 0,Cx L A V M p 0,5⟩) p (λi=>IG e L p (p-i)) (λi=>Cx L A V M p (p-i)) (λi t _=>kH (l:=Cx L A V M p (p-i)) (m:=Cx L A V M p (p-0)) rfl t)
  (λi hi=>by
   have e1:p-i=(p-(i+1))+1:=by omega
   simp only[e1];exact aK4 h hM hp o_)
  (by simp only[wR];exact aG [.rw 63 (.bool (decide (((0:Nat):Int)-1>=0))) a_ rfl]) n_
 exact cg (id:=0) this
section
variable{m X k p:Nat}
def IH(m L k i:Nat):aU:=[(83,vI i),(82,vI m),(14,sl 3 m),(10,sl 3 L),(8,vI k)]
def Au(L X k i:Nat):aL:=[(3,.row (av (dh base L i (X/2^k) X)) 175 1)]
theorem aK6(hi:i<m)(hmL:m+1<=L)(hk:k<=31)(h63:L<35184372088832):
  ah prog Bs 110 (aK (ai f176 2)) (IH m L k i) (Au L X k i) 5 ⟨.normal,IH m L k (i+1),Au L X k (i+1),5⟩:=by
 have wF:(av (dh base L i (X/2^k) X))[i+1]?=some (aX (X/base^(i+1)%base)):=ID o_ o_;have uu:(av (dh base L i (X/2^k) X))[i]?=some (aX (X/base^i%base)):=ID o_ o_;have hd:=aBt (B:=base) (k:=k) (X:=X) (i:=i) d_ ⟨2^(32-k),by rw[<-eW,show k+(32-k)=32 by omega]⟩;have bW:fK prog 175 (av (dh base L i (X/2^k) X)) i (aX (X/2^k/base^i%base))=some (av (dh base L (i+1) (X/2^k) X)):=K3 o_ rfl;have hx:X/base^(i+1)%base<base:=cU _ d_;have hy:X/base^i%base<base:=cU _ d_;generalize X/base^(i+1)%base=x at *;generalize X/base^i%base=y at *;have hb:(x*base+y)/2^k<18446744073709551616:=fA (uK _ _) (by unfold base at *;omega);have l4:=Us hx hy;have hs:((x*base+y:Nat):Int).fdiv (2^(min k IntKind.u64.bits))=(((x*base+y)/2^k:Nat):Int):=by rw[show min k IntKind.u64.bits=k from oQ (by show k<=64;omega),ti _ (Iv d_),uJ,Iw];rfl
 generalize (x*base+y)/2^k=z at *;exact aG [.lt 84 i m true (by simp[hi]),.sum 90 i 1 (i+1) rfl o_,.ix f176 91 3 L (i+1) o_ k_,.ld f176 92 175 3 (i+1) (.row (av (dh base L i (X/2^k) X)) 175 1) (aX x) rfl (by rw[gB];exact wF) k_,.wr 93 .u64 (x:Int) (x:Int) (r6 (nq hx d_)),.wr 94 .u64 ((x:Int)*2^32) ((x*base:Nat):Int) (Ur hx),.ix f176 97 3 L i o_ k_,.ld f176 98 175 3 i (.row (av (dh base L i (X/2^k) X)) 175 1) (aX y) rfl (by rw[gB];exact uu) k_,.wr 99 .u64 (y:Int) (y:Int) (r6 (nq hy d_)),.quo 100 .u64 _ ((x*base+y:Nat):Int) l4,.shr f176 102 .u64 ((x*base+y:Nat):Int) (z:Int) k hs k_,.wr 103 .u32 (z:Int) ((X/2^k/base^i%base:Nat):Int) (by rw[ox,<-hd];unfold base;omega),.ix f176 104 3 m i hi k_,.st f176 100104 175 3 i (.row (av (dh base L i (X/2^k) X)) 175 1) (aX (X/2^k/base^i%base)) (.row (av (dh base L (i+1) (X/2^k) X)) 175 1) rfl bW rfl k_,.sum 105 i 1 (i+1) rfl o_]
theorem aK7(hX:X<base^m)(hmL:m+1<=L)(hk:k<=31)(h63:L<35184372088832):
  ah prog Bs 110 (.block 2 (ai f176 2)) (IH m L k 0) [(3,.row (av (ae base L X)) 175 1)] 5 ⟨.normal,IH m L k m,[(3,.row (av (ae base L (X/2^k))) 175 1)],5⟩:=by
 have e0:Au L X k 0=[(3,.row (av (ae base L X)) 175 1)]:=by unfold Au dh ae;simp
 have e1:Au L X k m=[(3,.row (av (ae base L (X/2^k))) 175 1)]:=by unfold Au;rw[Gc d_ hX (fA (uK _ _) hX)]
 rw[<-e0,<-e1];exact cg (id:=2) (cz (b:=aK (ai f176 2)) (r:=⟨.exit 2,IH m L k m,Au L X k m,5⟩) m (IH m L k) (Au L X k) (λi t _=>kH (l:=Au L X k i) (m:=Au L X k 0) rfl t)
  (λi hi=>aK6 hi hmL hk h63) (aG [.lt 84 m m false s_]) n_)
end
end
section
variable{Bs:aa}{N:Nat}
theorem aK8{y:m_}(ho:dC o.op=some y){n:Nat}(hx:qY x1 a)(hd:0<d)(nP:d<base)(h1:nd base a<35184372088832)(pq:nd base a=n)(kn:Nat):
  cI prog Bs o [.func (.func 196) #[] #[],sl k1 n,aX d] [(k1,some x1),(kn,none)] (.tuple #[sl kn (nd base (a/d)),aX (a%d)]) [(kn,vQ (a/d))]:=by
 subst pq;refine kj (fi:=[]) (ca:=[]) ho k_ λι cc w hm hn args' bo=>?_;rw[jJ,jZ]at bo;obtain⟨va,vb,rfl,hv,iF⟩:=jH bo;rw[iF.fH rfl];refine(aJZ (Cq hm (hn _ (aR ..)) hx hv) hd nP h1).mono ?_
 rintro e w' ⟨v,rfl,h1,h2⟩
 obtain⟨aB,q1,q2,q3⟩:=FT hm h2 (k:=kn) (hn _ (bK _ (aR ..))) h1 (ga _);exact⟨aB,_,rfl,q1,.tup (.cons q3 (.cons (.same rfl) .nil)),q2⟩
end
theorem aBG(h:a<base):ae base 1 a=[a]:=by simp[ae,dZ h]
theorem UA{vb:i_}(gQ:jd w va a)(mf:jd w vb b)(cd:a<b)(h1:nd base a<35184372088832)(h2:nd base b<35184372088832):
  Calls prog 176 #[va,vb] w λe w'=>e=.returned (.tuple #[.slice none 0 0,va])/\Below w.heap.size w w':=by
 have hl:∀ s∈[cJ.row va (nd base a) (av (ae base (nd base a) a)),cJ.row vb (nd base b) (av (ae base (nd base b) b))],s.OK w:=by
  intro s hs;simp at hs;rcases hs with rfl|rfl
  ·exact⟨gQ,ga _⟩
  ·exact⟨mf,ga _⟩
 have hc:qV a b<0:=by have:=@OR a b;omega
 refine mN (Q:=λe w'=>e=.returned (.tuple #[.slice none 0 0,va])/\Below w.heap.size w w') mixed func176 [cJ.row va (nd base a) (av (ae base (nd base a) a)),cJ.row vb (nd base b) (av (ae base (nd base b) b))] hl 100 (N:=110) k_
  (rs:=[(.step 18 (az f176 18) _ _ _ _ (O3 (y:=.func 162) (k1:=0) (k2:=1) k_ k_ (yp a) (yp b) rfl λw va vb ha hb=>OS ha hb h1 h2):aZ prog (aa.at w) 110),.rw 19 (.bool (decide (qV a b<0))) b_ (by rw[aJ hc])])
  (v:=.tuple #[.slice none 0 0,sl 0 (nd base a)]) (ms:=[]) k_ λaB cr v' w' kS bJ _ dP=>⟨?_,bJ.base⟩
 obtain⟨cX,rfl,bo⟩:=kS.vt;obtain⟨p,q,hp,h3,h4⟩:=jH bo;cases dP with
 |cons h5 _=>
 have:q=va:=Kz h4 h5;have e:cX=#[p,q]:=wK.1 (by rw[hp]);rw[e,h3.fH rfl,this]
theorem UB{vb:i_}(gQ:jd w va a)(mf:jd w vb b)(cd:b<=a)(lO:b≠0)(hb:b<base)(h1:nd base a<35184372088832):
  Calls prog 176 #[va,vb] w λe w'=>∃ vq vr,e=.returned (.tuple #[vq,vr])/\ko w w' vq (a/b)/\ko w w' vr (a%b)/\Below w.heap.size w w':=by
 have c8:nd base b=1:=by have h3:=jK (B:=base) (n:=1) d_ (by rw[Cg];exact hb);have h4:=x7 (B:=base) d_ lO;omega
 have Gd:dr w vb 1 (av (ae base 1 b)):=by have:=mf;unfold jd at this;rw[c8]at this;exact this
 have hl:∀ s∈[cJ.row va (nd base a) (av (ae base (nd base a) a)),cJ.row vb 1 (av (ae base 1 b))],s.OK w:=by
  intro s hs;simp at hs;rcases hs with rfl|rfl
  ·exact⟨gQ,ga _⟩
  ·exact⟨Gd,ga _⟩
 have hc:¬qV a b<0:=by have:=@OR a b;omega
 have vR:qY (.view (av (ae base 1 b))) b:=by have:=yp b;rw[c8]at this;exact this
 have hr:a%b<base:=nq (cU _ (uG lO)) hb;have UC:cI prog (aa.at w) (az f176 18) [.func (.func 162) #[] #[],sl 0 (nd base a),sl 1 1] [(0,some (.view (av (ae base (nd base a) a)))),(1,some (.view (av (ae base 1 b))))] (.int .i64 (qV a b)) []:=by have:=O3 (Bs:=aa.at w) (o:=az f176 18) (f:=162) (y:=.func 162) (k1:=0) (k2:=1) (res:=.int .i64 (qV a b)) k_ k_ (yp a) vR rfl λw va vb ha hb=>OS ha hb h1 o_;rw[c8]at this;exact this
 refine mN (Q:=λe w'=>∃ vq vr,e=.returned (.tuple #[vq,vr])/\ko w w' vq (a/b)/\ko w w' vr (a%b)/\Below w.heap.size w w') mixed func176 [cJ.row va (nd base a) (av (ae base (nd base a) a)),cJ.row vb 1 (av (ae base 1 b))] hl 100 (N:=110) k_
  (rs:=[(.step 18 (az f176 18) _ _ _ _ UC:aZ prog (aa.at w) 110),.rw 19 (.bool (decide (qV a b<0))) a_ (by rw[aY hc]),.ld f176 28 175 1 0 (.view (av (ae base 1 b))) (aX b) rfl (by rw[gB,aBG hb];rfl) k_,.step 29 (az f176 29) _ _ _ _ (aK8 (y:=.func 196) (k1:=0) k_ (yp a) (uG lO) hb h1 rfl 2),.bs f176 34 3 1 175 1 [0] (aX 0) [aX (a%b)] #[aX (a%b)] (.row (av (ae base 1 (a%b))) 175 1) (by rw[aBG hr];rfl) (λv hv=>by simp at hv;subst hv;rfl) (λv hv=>by simp at hv;subst hv;rfl) k_ rfl o_ o_ k_,.step 35 (az f176 35) _ _ _ _ (O7 (y:=.func 178) (k:=3) (n:=1) (M:=1) (a:=a%b) (x:=.row (av (ae base 1 (a%b))) 175 1) k_ rfl rfl (bF 1) (by rw[Cg];exact hr) o_ rfl)])
  (v:=.tuple #[sl 2 (nd base (a/b)),sl 3 (nd base (a%b))]) (ms:=[(2,vQ (a/b)),(3,.row (av (ae base 1 (a%b))) 175 1)]) k_ λaB cr v' w' kS bJ dW _=>?_
 obtain⟨cX,rfl,bo⟩:=kS.vt;obtain⟨p,q,hp,h3,h4⟩:=jH bo;have e:cX=#[p,q]:=wK.1 (by rw[hp]);subst e;exact⟨p,q,rfl,yc bJ (dW _ (aR ..)) (eE d_ _) h3,yc bJ (dW _ (bK _ (aR ..))) (by rw[Cg];exact hr) h4,bJ.base⟩
theorem norm(cd:b<=a)(hb:nd base b=e+2)(h1:nd base a<35184372088831):
  ∃ k,k<=31/\32-bl (b/base^(e+1)%base)=k/\DV e (nd base a+1) (a*2^k) (b*2^k)/\nd base (b*2^k)=e+2/\b*2^k<base^(e+3):=by
 have ao:=eE (B:=base) d_ b;rw[hb]at ao;have gw:base^(e+1)<=b:=aAu d_ o_;have hp:0<base^(e+1):=cT d_;have hd:b/base^(e+1)%base=b/base^(e+1):=FU ao;obtain⟨d,mQ⟩:∃ d,d=b/base^(e+1):=⟨_,rfl⟩;have nP:d<base:=by rw[mQ,<-hd];exact cU _ d_
 have Ea:d≠0:=by have:=O4 gw hp;omega
 obtain⟨t,t1,t2,t3⟩:=aKP Ea;have ht:t<=31:=by
  rcases fo t 32 with h|h
  ·omega
  ·have:=dj (show 0<2 by decide) h;have e32:(2:Nat)^32=base:=by decide
   omega
 have fX:0<2^(31-t):=cT d_;have hV1:d*2^(31-t)<=b*2^(31-t)/base^(e+1):=by rw[D5 hp,Cs];refine fe _ ?_;rw[mQ];exact D6 _ _
 have yq:base<=2*(b*2^(31-t)/base^(e+1)):=by
  have h3:2^t*2^(31-t)<=d*2^(31-t):=fe _ t2;rw[<-eW,show t+(31-t)=31 by omega]at h3;have e31:base=2*2^31:=by decide
  omega
 have yn:b*2^(31-t)<base^(e+2):=by
  have h3:b<(d+1)*base^(e+1):=by rw[mQ];exact(jc hp).1 (Cp _)
  have h4:(d+1)*2^(31-t)<=base:=by have:(d+1)*2^(31-t)<=2^(t+1)*2^(31-t):=fe _ t3;rw[<-eW,show t+1+(31-t)=32 by omega]at this;exact this
  have h5:b*2^(31-t)<(d+1)*base^(e+1)*2^(31-t):=Co h3 fX;rw[Cs]at h5;have h6:(d+1)*2^(31-t)*base^(e+1)<=base*base^(e+1):=fe _ h4;rw[c7 base,<-dH]at h6;exact cH h5 h6
 have Cy:e+2<=nd base a:=by rw[<-hb];exact jL d_ cd
 refine⟨31-t,by omega,by rw[hd,<-mQ,t1];omega,{ hV:=yn,top:=yq,hL:=by omega,hA:=?_,h63:=by omega },?_,cH yn (dj d_ o_)⟩
 ·have ha:=eE (B:=base) d_ a;have h3:a*2^(31-t)<base^nd base a*2^(31-t):=Co ha fX;have h4:2^(31-t)*base^(e+1)<=b*2^(31-t):=by rw[c7];exact fe _ gw
  have h5:2^(31-t)*base^(e+1)*base^(nd base a+1-(e+2))<=b*2^(31-t)*base^(nd base a+1-(e+2)):=fe _ h4;rw[gA,<-eW,show e+1+(nd base a+1-(e+2))=nd base a by omega,c7]at h5;exact cH h3 h5
 ·refine aA8 (jK d_ yn) ?_;rw[<-hb];exact jL d_ (F5 _ fX)
theorem UD{vb:i_}(gQ:jd w va a)(mf:jd w vb b)(cd:b<=a)(hb:nd base b=e+2)(h1:nd base a<35184372088831):
  Calls prog 176 #[va,vb] w λe w'=>∃ vq vr,e=.returned (.tuple #[vq,vr])/\ko w w' vq (a/b)/\ko w w' vr (a%b)/\Below w.heap.size w w':=by
 obtain⟨k,hk,hlz,II,O8,hV3⟩:=norm cd hb h1;have mK:nd base b<35184372088831:=fA (jL d_ cd) h1;have ao:=eE (B:=base) d_ b;have aWN:=eE (B:=base) d_ a;rw[hb]at ao;have Fz:0<2^k:=cT d_;have K5:0<b:=by
  rcases ow b with h|h
  ·rw[h,oV]at hb;omega
  ·exact h
 have Gd:dr w vb (e+2) (av (ae base (e+2) b)):=by have:=mf;unfold jd at this;rw[hb]at this;exact this
 have hl:∀ s∈[cJ.row va (nd base a) (av (ae base (nd base a) a)),cJ.row vb (e+2) (av (ae base (e+2) b))],s.OK w:=by
  intro s hs;simp at hs;rcases hs with rfl|rfl
  ·exact⟨gQ,ga _⟩
  ·exact⟨Gd,ga _⟩
 have hc:¬qV a b<0:=by have:=@OR a b;omega
 have vR:qY (.view (av (ae base (e+2) b))) b:=by have:=yp b;rw[hb]at this;exact this
 have UC:cI prog (aa.at w) (az f176 18) [.func (.func 162) #[] #[],sl 0 (nd base a),sl 1 (e+2)] [(0,some (.view (av (ae base (nd base a) a)))),(1,some (.view (av (ae base (e+2) b))))] (.int .i64 (qV a b)) []:=by have:=O3 (Bs:=aa.at w) (o:=az f176 18) (f:=162) (y:=.func 162) (k1:=0) (k2:=1) (res:=.int .i64 (qV a b)) k_ k_ (yp a) vR rfl λw va vb ha hb=>OS ha hb o_ o_;rw[hb]at this;exact this
 have Cy:e+2<=nd base a:=by rw[<-hb];exact jL d_ cd
 have aWO:nd base a=nd base a:=rfl;have lz:=aKT (x:=b/base^(e+1)%base) (cU _ d_);rw[hlz]at lz;have gy:2<=e+2:=by omega
 obtain⟨p,hp⟩:∃ p,p+(e+2)=nd base a+1:=⟨nd base a+1-(e+2),by omega⟩;have O9:=aK5 (Bs:=aa.at w) (M:=e+3) II o_ hp;have hA:=II.hA;rw[show nd base a+1-(e+2)=p by omega]at hA;have UE:a*2^k%(b*2^k*base^p)=a*2^k:=dZ hA;have UF:a*2^k%(b*2^k*base^0)=a%b*2^k:=by rw[tn,gZ,aBv]
 have hQ:a*2^k/(b*2^k)=a/b:=aBw _ _ Fz;have aK9:a%b*2^k<base^(e+2):=by refine cH (Co (cU _ K5) Fz) (kv II.hV)
 have Aa:=aK7 (Bs:=aa.at w) (L:=nd base a+1) (k:=k) aK9 o_ hk o_;rw[TO _ Fz]at Aa;have K6:a/b<base^p:=by rw[<-hQ,jc II.pos,c7 (base^p)];exact hA
 have IJ:a%b<base^(e+2):=nq (cU _ K5) ao;unfold Cx at O9;rw[UE,UF,hQ,OC,KJ]at O9;generalize hn:nd base a=n at *
 refine mN (Q:=λe w'=>∃ vq vr,e=.returned (.tuple #[vq,vr])/\ko w w' vq (a/b)/\ko w w' vr (a%b)/\Below w.heap.size w w') mixed func176 [cJ.row va n (av (ae base n a)),cJ.row vb (e+2) (av (ae base (e+2) b))] hl 100 (N:=110) k_
  (rs:=[(.step 18 (az f176 18) _ _ _ _ UC:aZ prog (aa.at w) 110),.rw 19 (.bool (decide (qV a b<0))) a_ (by rw[aY hc]),.gH 23 (e+2) 1 false s_,.fN 39 (e+2) 1 (e+1) rfl o_,.ix f176 40 1 (e+2) (e+1) o_ k_,.ld f176 41 175 1 (e+1) (.view (av (ae base (e+2) b))) (aX (b/base^(e+1)%base)) rfl (by rw[gB];exact DG.vd o_) k_,lz.at 42,.step 45 (az f176 45) _ _ _ _ (aBF (y:=.func 198) (k1:=1) k_ vR hk o_ hb 2),.step 46 (az f176 46) _ _ _ _ (O7 (y:=.func 178) (k:=2) (n:=e+3) (M:=e+3) (a:=b*2^k) (x:=.row (av (ae base (e+3) (b*2^k))) 175 1) k_ rfl rfl (bF _) hV3 o_ O8),.step 49 (az f176 49) _ _ _ _ (aBF (y:=.func 198) (k1:=0) (x1:=.view (av (ae base n a))) k_ (by have:=yp a;rw[hn]at this;exact this) hk o_ hn 3),.fN 55 (n+1) (e+2) p o_ o_,.qR f176 56 4 p 175 4 (aX 0) (av (List.replicate p 0)) (FY _) rfl rfl o_ (by simp[maxLen];omega) k_,.fN 60 (n+1) (e+2) p o_ o_,.wr 61 .i64 ((p:Int)-1) ((p:Int)-1) (pE o_),.code 0 _ _ _ _ _ O9,.upto f176 80 3 (n+1) (e+2) 1 o_ k_,.code 2 _ _ _ _ _ Aa,.step 107 (az f176 107) _ _ _ _ (O7 (y:=.func 178) (k:=4) (n:=p) (M:=p) (a:=a/b) (x:=.row (av (ae base p (a/b))) 175 1) k_ rfl rfl (bF _) K6 o_ rfl),.step 109 (az f176 109) _ _ _ _ (O7 (y:=.func 178) (k:=3) (n:=e+2) (M:=n+1) (a:=a%b) (x:=.row (av (ae base (n+1) (a%b))) 175 1) k_ rfl rfl o_ IJ o_ rfl)])
  (v:=.tuple #[sl 4 (nd base (a/b)),sl 3 (nd base (a%b))]) (ms:=[(4,.row (av (ae base p (a/b))) 175 1),(3,.row (av (ae base (n+1) (a%b))) 175 1)]) k_ λaB cr v' w' kS bJ dW _=>?_
 obtain⟨cX,rfl,bo⟩:=kS.vt;obtain⟨p,q,hp,h3,h4⟩:=jH bo;have e:cX=#[p,q]:=wK.1 (by rw[hp]);subst e;exact⟨p,q,rfl,yc bJ (dW _ (aR ..)) K6 h3,yc bJ (dW _ (bK _ (aR ..))) (cH IJ (dj d_ o_)) h4,bJ.base⟩
def sv(neg:Bool)(m:Nat):Value:=.agg #[.bool neg,oX m]
def sg(neg:Bool)(m:Nat):Int:=if neg then -(m:Int)else m
def bd(z:Int):Value:=sv (decide (z<0)) z.natAbs
theorem wU(neg:Bool)(m:Nat):Cr neg m=bd (sg neg m):=by
 cases neg
 ·have e:decide ((m:Int)<0)=false:=by simp
  show Value.agg #[.bool false,oX m]=Value.agg #[.bool (decide ((m:Int)<0)),oX (m:Int).natAbs];rw[e];rfl
 ·have e:(decide (-(m:Int)<0))=decide (m≠0):=by rw[qh];omega
  show Value.agg #[.bool (decide (m≠0)),oX m]=Value.agg #[.bool (decide (-(m:Int)<0)),oX (-(m:Int)).natAbs];rw[e,K7];rfl
theorem tD{C:Int->Value->Prop}(h0:∀ m:Nat,C m (sv false m))(h1:∀ m:Nat,m≠0->C (-(m:Int)) (sv true m))(z:Int):C z (bd z):=by
 by_cases hz:z<0
 ·obtain⟨m,rfl⟩:∃ m:Nat,z=-(m:Int):=⟨z.natAbs,by omega⟩;have:=h1 m o_;have e:bd (-(m:Int))=sv true m:=by unfold bd;rw[aJ hz,K7];rfl
  rw[e];exact this
 ·obtain⟨m,rfl⟩:∃ m:Nat,z=(m:Int):=⟨z.natAbs,by omega⟩;have e:bd (m:Int)=sv false m:=by unfold bd;rw[aY hz];rfl
  rw[e];exact h0 m
theorem yr{n:Nat}(h:m<2^n):nd base m<=n:=jK d_ (cH h (aBH d_ n))
theorem wW{n:Nat}(h:m<2^n):nd 256 m<=n:=jK d_ (cH h (aBH d_ n))
theorem aBI{n:Nat}(h:m<2^n)(hn:n<=1099511627776):Calls prog 160 #[oX m] w λe w'=>∃ v,e=.returned v/\ko w w' v m/\Below w.heap.size w w':=by have e:lk (BA (cO m))=m:=F8 m;have:=aJR (w:=w) (s:=BA (cO m)) (by rw[pD,uL];have:=wW h;omega);rw[e]at this;exact this
section
variable{Bs:aa}{N:Nat}
def aZ.of(fn:Func)(key k m n:Nat)(h:m<2^n)(hn:n<=1099511627776){y:m_}(ho:dC (az fn key).op=some y):aZ prog Bs N:=
 .step key (az fn key) [.func (.func 160) #[] #[],oX m] [(k,none)] (sl k (nd base m)) [(k,vQ m)] (O2 ho k_ (λv hv=>by simp at hv;subst hv;rfl) (λ_=>aBI h hn) k)
def aZ.add(fn:Func)(key k k1 k2 a b:Nat)(h1:nd base a<35184372088832)(h2:nd base b<35184372088832){y:m_}(ho:dC (az fn key).op=some y):aZ prog Bs N:=
 .step key (az fn key) _ _ _ _ (Ul (f:=161) (k1:=k1) (k2:=k2) ho k_ (tB a) (tB b) (λ_ _ _ ha hb=>aJp ha hb h1 h2) k)
def aZ.less(fn:Func)(key k k1 k2 a b:Nat)(cd:b<=a)(h1:nd base a<35184372088832){y:m_}(ho:dC (az fn key).op=some y):aZ prog Bs N:=
 .step key (az fn key) _ _ _ _ (Ul (f:=163) (k1:=k1) (k2:=k2) ho k_ (tB a) (tB b) (λ_ _ _ ha hb=>aJu ha hb cd h1) k)
def aZ.mul(fn:Func)(key k k1 k2 a b:Nat)(h1:nd base a<1099511627777)(h2:nd base b<1099511627777){y:m_}(ho:dC (az fn key).op=some y):aZ prog Bs N:=
 .step key (az fn key) _ _ _ _ (Ul (f:=164) (k1:=k1) (k2:=k2) ho k_ (tB a) (tB b) (λ_ _ _ ha hb=>aJH ha hb o_) k)
def aZ.cmp(fn:Func)(key k1 k2 a b:Nat)(h1:nd base a<35184372088832)(h2:nd base b<35184372088832){y:m_}(ho:dC (az fn key).op=some y):aZ prog Bs N:=
 .step key (az fn key) _ _ _ _ (O3 (f:=162) (k1:=k1) (k2:=k2) (res:=.int .i64 (qV a b)) ho k_ (tB a) (tB b) rfl λ_ _ _ ha hb=>OS ha hb h1 h2)
def aZ.Eb(fn:Func)(key k a:Nat)(x:Obj)(hx:qY x a)(neg:Bool)(h1:nd base a<35184372088832){y:m_}(ho:dC (az fn key).op=some y):aZ prog Bs N:=
 .step key (az fn key) _ _ _ _ (Iz (f:=144) (k1:=k) (post:=[.bool neg]) (res:=Cr neg a) ho k_ hx (λv hv=>by simp at hv;subst hv;rfl) rfl λ_ _ h=>aBu h h1)
end
def yt(neg:Bool):List UInt8->Bool
 |[]=>!neg
 |c::_=>decide (c≠0)
theorem Av(neg:Bool)(l:List UInt8):aH prog 94 [.agg #[.bool neg,.string (BA l)]] (.bool (yt neg l)):=by
 cases l with
 |nil=>exact bI func94 (λ_=>[.rw 5 (.bool ((BA []).toList==(ByteArray.mk #[]).toList)) b_ (by rw[F2];rfl)])
 |cons c l=>
  have e:(((c.toNat:Nat):Int)!=0)=decide (c≠0):=by
   by_cases h:c=0
   ·subst h;rfl
   ·rw[aJ h,rW];intro h2;exact h (OP.1 (by simpa using h2))
  exact bI func94 (λ_=>[.rw 5 (.bool ((BA (c::l)).toList==(ByteArray.mk #[]).toList)) a_ (by rw[F2];rfl),.sx f94 11 (BA (c::l)) 0 c (by rw[KR];rfl) k_,.rw 12 (.bool (((c.toNat:Nat):Int)!=0)) (.bool (decide (c≠0))) (by rw[e])])
theorem iQ(neg:Bool)(h:neg=true->m≠0):aH prog 94 [sv neg m] b_:=by
 have:=Av neg (cO m);have e:yt neg (cO m)=true:=by
  by_cases hm:m=0
  ·subst hm;rw[D0];cases neg
   ·rfl
   ·exact absurd rfl (h rfl)
  ·obtain⟨c,l,h1,h2⟩:=OX hm;rw[h1];exact aJ h2
 rw[e]at this;exact this
theorem lP(h:z.natAbs<9223372036854775808):aH prog 97 [.int .i64 z] (bd z):=by
 have e7:nd base z.natAbs<35184372088832:=by have:=yr (m:=z.natAbs) (n:=63) o_;omega
 by_cases hz:z<0
 ·have e:=wU true z.natAbs;have e2:sg true z.natAbs=z:=by show -((z.natAbs:Nat):Int)=z;omega
  rw[e2]at e;rw[<-e];exact bI func97 (λ_=>[.rw 4 (.bool (decide (z<0))) b_ (by rw[aJ hz]),.wr 6 .u64 z (z+18446744073709551616) (by rw[kK];omega),.wr 7 .u64 (0-(z+18446744073709551616)) (z.natAbs:Int) (by rw[kK];omega),.step 8 (az f97 8) _ _ _ _ (O2 (y:=.func 143) (args:=[.int .u64 (z.natAbs:Int)]) k_ k_ (λv hv=>by simp at hv;subst hv;rfl) (λ_=>T3 (n:=z.natAbs) o_) 1),.Eb f97 9 1 z.natAbs (vQ z.natAbs) (tB _) true e7 (y:=.func 144) k_])
 ·have e:=wU false z.natAbs;have e2:sg false z.natAbs=z:=by show((z.natAbs:Nat):Int)=z;omega
  rw[e2]at e;rw[<-e];exact bI func97 (λ_=>[.rw 4 (.bool (decide (z<0))) a_ (by rw[aY hz]),.wr 11 .u64 z (z.natAbs:Int) (by rw[kK];omega),.step 12 (az f97 12) _ _ _ _ (O2 (y:=.func 143) (args:=[.int .u64 (z.natAbs:Int)]) k_ k_ (λv hv=>by simp at hv;subst hv;rfl) (λ_=>T3 (n:=z.natAbs) o_) 1),.Eb f97 13 1 z.natAbs (vQ z.natAbs) (tB _) false e7 (y:=.func 144) k_])
theorem qm(z:Int):aH prog 95 [bd z] (.int .i64 z.sign):=by
 refine tD (C:=λz v=>aH prog 95 [v] (.int .i64 z.sign)) (λm=>?_) (λm hm=>?_) z
 ·by_cases h:m=0
  ·subst h;exact bI func95 (λ_=>[(iQ false (m:=0) n_).at 5,.rw 10 (.bool ((BA (cO 0)).toList==(ByteArray.mk #[]).toList)) b_ (by rw[qZ];rfl)])
  ·have e:((m:Nat):Int).sign=1:=Cz o_;rw[e];exact bI func95 (λ_=>[(iQ false (m:=m) n_).at 5,.rw 10 (.bool ((BA (cO m)).toList==(ByteArray.mk #[]).toList)) a_ (by rw[qZ,aY h])])
 ·have e:(-(m:Int)).sign=-1:=Ge o_;rw[e];exact bI func95 (λ_=>[(iQ true (m:=m) (λ_=>hm)).at 5,.rw 10 (.bool ((BA (cO m)).toList==(ByteArray.mk #[]).toList)) a_ (by rw[qZ,aY hm])])
theorem oY(z:Int):aH prog 124 [bd z] (bd (-z)):=by
 refine tD (C:=λz v=>aH prog 124 [v] (bd (-z))) (λm=>?_) (λm hm=>?_) z
 ·have e:=wU true m;rw[<-show sg true m=-(m:Int)from rfl,<-e];have e:(!((BA (cO m)).toList==(ByteArray.mk #[]).toList))=decide (m≠0):=by rw[qZ];simp
  exact bI func124 (λ_=>[(iQ false (m:=m) n_).at 4,.rw 13 (.bool (!((BA (cO m)).toList==(ByteArray.mk #[]).toList))) (.bool (decide (m≠0))) (by rw[e])])
 ·have e:=wU false m;rw[K8,<-show sg false m=(m:Int)from rfl,<-e];exact bI func124 (λ_=>[(iQ true (m:=m) (λ_=>hm)).at 4])
theorem UG{n1 n2:Bool}{p:Nat}(v1:n1=true->m1≠0)(v2:n2=true->m2≠0)(h1:m1<2^p)(h2:m2<2^q)(hp:p<=1099511627776)(hq:q<=1099511627776):
  aH prog 121 [sv n1 m1,sv n2 m2] (bd (sg n1 m1+sg n2 m2)):=by
 have b1:=yr h1;have b2:=yr h2;have bp:nd base (m1+m2)<35184372088832:=by
  have:=yr (m:=m1+m2) (n:=p+q+1) (by have e1:=dj (show 0<2 by decide) (show p<=p+q by omega);have e2:=dj (show 0<2 by decide) (show q<=p+q by omega);rw[dH];omega)
  omega
 have k1:=jL (B:=base) d_ (Gf m1 m2);have k2:=jL (B:=base) d_ (Gf m2 m1);obtain⟨ge,a,b,gw,cd,ha,e⟩:∃(ge:Bool) (a b:Nat),decide (m2<=m1)=ge/\b<=a/\(a=bif ge then m1 else m2)/\(b=bif ge then m2 else m1):=by
  by_cases h:m2<=m1
  ·exact⟨true,m1,m2,aJ h,h,rfl,rfl⟩
  ·exact⟨false,m2,m1,aY h,by omega,rfl,rfl⟩
 subst ha e;have bm:nd base ((bif ge then m1 else m2)-bif ge then m2 else m1)<35184372088832:=by cases ge<;>(dsimp only[cond];omega)
 have ba:nd base (bif ge then m1 else m2)<35184372088832:=by cases ge<;>(dsimp only[cond];omega)
 have hc:decide (qV m1 m2>=0)=ge:=by rw[<-gw];exact qh.2 OR
 have e:bd (sg n1 m1+sg n2 m2)=bif n1==n2 then Cr n1 (m1+m2)else Cr (bif ge then n1 else n2) ((bif ge then m1 else m2)-bif ge then m2 else m1):=by rw[wU,wU];cases n1<;>cases n2<;>cases ge<;>simp[sg]at gw cd ⊢<;>congr 1<;>omega
 rw[e];refine fk mixed func121 100 (λ_=>[(iQ _ v1).at 8,(iQ _ v2).at 12,.of f121 18 3 m1 p h1 hp (y:=.func 160) k_,.of f121 21 4 m2 q h2 hq (y:=.func 160) k_]++
   bif n1==n2 then[.add f121 30 5 3 4 m1 m2 o_ o_ (y:=.func 161) k_,.Eb f121 33 5 (m1+m2) (vQ (m1+m2)) (tB _) n1 bp (y:=.func 144) k_]else
   [.cmp f121 37 3 4 m1 m2 o_ o_ (y:=.func 162) k_,.rw 38 (.bool (decide (qV m1 m2>=0))) (.bool ge) (by rw[hc])]++
   bif ge then[.less f121 41 5 3 4 _ _ cd ba (y:=.func 163) k_,.Eb f121 44 5 _ (vQ _) (tB _) n1 bm (y:=.func 144) k_]else
   [.less f121 47 5 4 3 _ _ cd ba (y:=.func 163) k_,.Eb f121 50 5 _ (vQ _) (tB _) n2 bm (y:=.func 144) k_]) (λ_=>?_) k_ ?_<;>cases n1<;>cases n2<;>cases ge<;>kernel_rfl
theorem Gg{C:Int->Int->Value->Value->Prop}(h:∀(n1 n2:Bool) (m1 m2:Nat),(n1=true->m1≠0)->(n2=true->m2≠0)->C (sg n1 m1) (sg n2 m2) (sv n1 m1) (sv n2 m2))(x y:Int):C x y (bd x) (bd y):=
 tD (C:=λx v=>C x y v (bd y)) (λm=>tD (C:=λy u=>C m y (sv false m) u) (λk=>h false false m k n_ n_) (λk hk=>h false true m k n_ (λ_=>hk)) y)
  (λm hm=>tD (C:=λy u=>C (-(m:Int)) y (sv true m) u) (λk=>h true false m k (λ_=>hm) n_) (λk hk=>h true true m k (λ_=>hm) (λ_=>hk)) y) x
theorem rh(n:Bool)(m:Nat):(sg n m).natAbs=m:=by cases n<;>simp[sg]
theorem Aw{x y:Int}{p:Nat}(h1:x.natAbs<2^p)(h2:y.natAbs<2^q)(hp:p<=1099511627776)(hq:q<=1099511627776):aH prog 121 [bd x,bd y] (bd (x+y)):=by revert h1 h2;refine Gg (C:=λx y v u=>x.natAbs<2^p->y.natAbs<2^q->aH prog 121 [v,u] (bd (x+y))) (λn1 n2 m1 m2 v1 v2 h1 h2=>?_) x y;rw[rh]at h1 h2;exact UG v1 v2 h1 h2 hp hq
theorem pH(z:Int):aH prog 94 [bd z] b_:=
 tD (C:=λ_ v=>aH prog 94 [v] b_) (λ_=>iQ false n_) (λ_ hm=>iQ true λ_=>hm) z
theorem Gh{x y:Int}{p:Nat}(h1:x.natAbs<2^p)(h2:y.natAbs<2^q)(hp:p<=1099511627776)(hq:q<=1099511627776):aH prog 130 [bd x,bd y] (bd (x-y)):=
 bI func130 (λ_=>[(pH x).at 6,(pH y).at 10,(oY y).at 16,(Aw h1 (by rw[K7];exact h2) hp hq).at 17])
theorem UH{x y:Int}{p:Nat}(h1:x.natAbs<2^p)(h2:y.natAbs<2^q)(hp:p<=1099511627776)(hq:q<=1099511627776):aH prog 166 [bd x,bd y] (.int .i64 (x-y).sign):=
 bI func166 (λ_=>[(Gh h1 h2 hp hq).at 7,(qm (x-y)).at 8])
theorem nR{x y:Int}{p:Nat}(h1:x.natAbs<2^p)(h2:y.natAbs<2^q)(hp:p<=1099511627776)(hq:q<=1099511627776):aH prog 122 [bd x,bd y] (bd (x*y)):=by
 revert h1 h2;refine Gg (C:=λx y v u=>x.natAbs<2^p->y.natAbs<2^q->aH prog 122 [v,u] (bd (x*y))) (λn1 n2 m1 m2 v1 v2 h1 h2=>?_) x y;rw[rh]at h1 h2;have b1:=yr h1;have b2:=yr h2;have bs:nd base (m1*m2)<35184372088832:=by have:=yr (m:=m1*m2) (n:=p+q) (by rw[eW];exact qS h1 h2);omega
 have e:sg n1 m1*sg n2 m2=sg (n1 !=n2) (m1*m2):=by cases n1<;>cases n2<;>simp[sg,IK,IL]
 rw[e,<-wU];refine fk mixed func122 100 (λ_=>[(iQ _ v1).at 6,(iQ _ v2).at 10,.of f122 16 3 m1 p h1 hp (y:=.func 160) k_,.of f122 19 4 m2 q h2 hq (y:=.func 160) k_,.mul f122 20 5 3 4 m1 m2 o_ o_ (y:=.func 164) k_,.Eb f122 26 5 (m1*m2) (vQ (m1*m2)) (tB _) (n1 !=n2) bs (y:=.func 144) k_]) (λ_=>?_) k_ ?_<;>cases n1<;>cases n2<;>kernel_rfl
section
variable{Bs:aa}{N:Nat}
theorem Pa(hm:aO Bs ι c w){n:Nat}{v:i_}(hk:c k=none)(h:w.ownsRow A ty size v n xs)(cV:∀ u∈xs,flat u=true)
  (dG:∀ j y b o cap,c j=some y->y.owns=true->ι j=some (.at b o cap)->b<A) :
  ∃ aB,Map.le ι aB/\aO Bs aB (bA c k (.view xs)) w/\aM aB (.slice (some ⟨k,0,some 7⟩) n 0) v:=by
 refine Ad hm hk (.aAq h) cV λb o c' e j y o' aT hj hy he=>?_;have h1:=dG j y b o' aT hj hy he;rcases h.2 with ⟨h2,_⟩|⟨g,cap,cur,h2,h3,_⟩
 ·rw[h2]at e;cases e
 ·rw[h2]at e;injection e with e1 e2;injection e1 with e1;injection e1 with e1;omega
def kZ(a:Nat):Obj:=.view (av (ae base (nd base a) a))
theorem Pb(hm:aO Bs ι c w):∀ j y b o cap,c j=some y->y.owns=true->ι j=some (.at b o cap)->b<w.heap.size:=λj y b o cap h1 h2 h3=>(hm.own j y b o cap h1 h2 h3).1
theorem aBJ(hm:aO Bs ι c w)(hle:Map.le ι aB)(h:∀ j y b o cap,c j=some y->y.owns=true->ι j=some (.at b o cap)->b<A):
  ∀ j y b o cap,bA c k (.view xs) j=some y->y.owns=true->aB j=some (.at b o cap)->b<A:=by
 intro j y b o cap hj hy hb;unfold bA at hj;by_cases ch:j=k
 ·rw[aA ch]at hj;injection hj with hj;subst hj;cases hy
 ·rw[au ch]at hj;obtain⟨l,e1,_⟩:=hm.born j y hj;have:=hle j l e1;rw[hb]at this;injection this with this;subst this;exact h j y b o cap hj hy e1
theorem aLa{y:m_}{c:Nat}(ho:dC o.op=some y)(fq:gW prog f=true)(dP:∀ v∈args,flat v=true)
  (h:∀ w,Calls prog f args.toArray w λe w'=>∃ v,e=.returned v/\ko w w' v c/\Below w.heap.size w w') (k:Nat) :
  cI prog Bs o (.func (.func f) #[] #[]::args) [(k,none)] (sl k (nd base c)) [(k,kZ c)]:=by
 refine kj (fi:=[]) (ca:=[]) ho fq λι cc w hm hn args' bo=>?_;rw[jJ,jZ]at bo;rw[oj bo dP];refine(h w).mono ?_
 rintro e w' ⟨v,rfl,h1,h2⟩
 obtain⟨aB,q1,q2,q3⟩:=aAr hm h2 (k:=k) (hn _ (aR ..)) h1 (ga _);exact⟨aB,v,rfl,q1,q3,q2⟩
def aZ.Ax(fn:Func)(key k m n:Nat)(h:m<2^n)(hn:n<=1099511627776){y:m_}(ho:dC (az fn key).op=some y):aZ prog Bs N:=
 .step key (az fn key) [.func (.func 160) #[] #[],oX m] [(k,none)] (sl k (nd base m)) [(k,kZ m)] (aLa ho k_ (λv hv=>by simp at hv;subst hv;rfl) (λ_=>aBI h hn) k)
theorem vS(a:Nat):qY (kZ a) a:=yp a
theorem Pc{y:m_}(ho:dC o.op=some y){kq kr:Nat}(hk:kr≠kq)(vR:qY x1 a)(kU:x1.kF=true)(iD:qY x2 b)(lO:b≠0)(h1:nd base a<35184372088831)(h2:nd base b<35184372088831):
  cI prog Bs o [.func (.func 176) #[] #[],sl k1 (nd base a),sl k2 (nd base b)] [(k1,some x1),(k2,some x2),(kq,none),(kr,none)] (.tuple #[sl kq (nd base (a/b)),sl kr (nd base (a%b))]) [(kr,kZ (a%b)),(kq,kZ (a/b))]:=by
 refine kj (fi:=[]) (ca:=[]) ho k_ λι c w hm hn args' bo=>?_;rw[jJ,jZ]at bo;obtain⟨va,vb,rfl,hv,iF⟩:=jH bo;have iu:c k1=some x1:=hn (k1,some x1) s_;have fX:c k2=some x2:=hn (k2,some x2) s_;have K9:c kq=none:=hn (kq,none) s_;have UI:c kr=none:=hn (kr,none) s_;have ha:=Cq hm iu vR hv;have hb:=Cq hm fX iD iF;have fin:∀(w':h_) (vq vr:i_),Below w.heap.size w w'->(∃ b9,Map.le ι b9/\aO Bs b9 (bA c kq (kZ (a/b))) w'/\aM b9 (sl kq (nd base (a/b))) vq/\∃ dQ,Map.le b9 dQ/\aO Bs dQ (bA (bA c kq (kZ (a/b))) kr (kZ (a%b))) w'/\aM dQ (sl kr (nd base (a%b))) vr)->
   ∃ aB v',Ending.returned (.tuple #[vq,vr])=.returned v'/\Map.le ι aB/\aM aB (.tuple #[sl kq (nd base (a/b)),sl kr (nd base (a%b))]) v'/\aO Bs aB (mH c [(kr,kZ (a%b)),(kq,kZ (a/b))]) w':=by
  rintro w' vq vr gD ⟨b9,q1,q2,q3,dQ,s1,s2,s3⟩
  exact⟨dQ,_,rfl,q1.trans s1,.tup (.cons (q3.mono s1) (.cons s3 .nil)),s2⟩
 have La:∀ x,bA c kq x kr=none:=λx=>by unfold bA;rw[au hk];exact UI
 have new:∀(w':h_) (vq vr:i_),Below w.heap.size w w'->ko w w' vq (a/b)->ko w w' vr (a%b)->(∃ b9,Map.le ι b9/\aO Bs b9 (bA c kq (kZ (a/b))) w'/\aM b9 (sl kq (nd base (a/b))) vq/\∃ dQ,Map.le b9 dQ/\aO Bs dQ (bA (bA c kq (kZ (a/b))) kr (kZ (a%b))) w'/\aM dQ (sl kr (nd base (a%b))) vr):=by intro w' vq vr gD h3 h4;have bJ:=hm.call gD;obtain⟨b9,q1,q2,q3⟩:=Pa bJ K9 h3 (ga _) (Pb hm);obtain⟨dQ,s1,s2,s3⟩:=Pa q2 (La _) h4 (ga _) (aBJ bJ q1 (Pb hm));exact⟨b9,q1,q2,q3,dQ,s1,s2,s3⟩
 by_cases cd:a<b
 ·have e1:a/b=0:=nj cd;have e2:a%b=a:=dZ cd;refine(UA ha hb cd o_ o_).mono ?_
  rintro e w' ⟨rfl,gD⟩
  refine fin w' _ _ gD ?_;have bJ:=hm.call gD;obtain⟨b9,q1,q2,q3⟩:=Ad (xs:=[]) (n:=0) (v:=.slice none 0 0) bJ K9 (.inl ⟨rfl,rfl,rfl⟩) n_ n_;have ez:kZ (a/b)=.view []:=by unfold kZ;rw[e1,oV];rfl
  have en:nd base (a/b)=0:=by rw[e1,oV]
  rw[ez,en,e2];have UJ:dr w' va (nd base a) (av (ae base (nd base a) a)):=dr.jU ha gD;obtain⟨dQ,s1,s2,s3⟩:=Ad q2 (La _) UJ (ga _) (λb o c' e j y o' aT hj hy he=>by
   have Cm:c j=some y:=by
    unfold bA at hj;by_cases ch:j=kq
    ·rw[aA ch]at hj;injection hj with hj;subst hj;cases hy
    ·rw[au ch]at hj;exact hj
   obtain⟨l,e1,_⟩:=hm.born j y Cm;have e2:=q1 j l e1;rw[he]at e2;injection e2 with e2;subst e2;subst e;rcases hv.iM rfl with ⟨_,_,_,_,e⟩|⟨b',o2,qK,c2,gy,_,_,e⟩
   ·cases e
   ·injection e with e _ _;injection e with e;injection e with e _ _;subst e;exact(hm.seen k1 x1 _ _ _ iu kU gy).2 j y _ _ Cm hy e1)
  exact⟨b9,q1,q2,q3,dQ,s1,s2,s3⟩
 ·have Lb:b<=a:=KZ.1 cd;have go:Calls prog 176 #[va,vb] w λe w'=>∃ vq vr,e=.returned (.tuple #[vq,vr])/\ko w w' vq (a/b)/\ko w w' vr (a%b)/\Below w.heap.size w w':=by
   by_cases ao:b<base
   ·exact UB ha hb Lb lO ao o_
   ·have h3:2<=nd base b:=by
     rcases fo (nd base b) 2 with h|h
     ·have h4:=eE (B:=base) d_ b;have h5:base^nd base b<=base^1:=dj d_ o_;rw[Cg]at h5;omega
     ·exact h
    exact UD (e:=nd base b-2) ha hb Lb o_ h1
  refine go.mono ?_
  rintro e w' ⟨vq,vr,rfl,h3,h4,gD⟩
  exact fin w' _ _ gD (new w' vq vr gD h3 h4)
end
def eu(x y:Nat):Nat->Nat×Nat
 |0=>(x,y)
 |i+1=>((eu x y i).2,(eu x y i).1%(eu x y i).2)
theorem Lc(x y:Nat):∀ i,Nat.gcd (eu x y i).1 (eu x y i).2=Nat.gcd x y
 |0=>rfl
 |i+1=>by rw[<-Lc x y i];show Nat.gcd (eu x y i).2 ((eu x y i).1%(eu x y i).2)=_;rw[IM,<-Nat.gcd_rec,IM]
theorem UK(x y:Nat):∀ i,(eu x y i).1<=max x y/\(eu x y i).2<=max x y
 |0=>⟨Nat.le_max_left ..,Nat.le_max_right ..⟩
 |i+1=>by obtain⟨h1,h2⟩:=UK x y i;exact⟨h2,dq (KI _ _) h1⟩
theorem Pd(x y:Nat)(p:Nat->Nat->Bool)(hp:∀ u v,p u v=true->v≠0):∃ n,p (eu x y n).1 (eu x y n).2=false/\∀ i,i<n->p (eu x y i).1 (eu x y i).2=true:=by
 have key:∃ n,p (eu x y n).1 (eu x y n).2=false:=by
  apply iP;intro gi;have all:∀ i,p (eu x y i).1 (eu x y i).2=true:=λi=>by
   cases h:p (eu x y i).1 (eu x y i).2 with
   |true=>rfl
   |false=>exact absurd ⟨i,h⟩ gi
  have dec:∀ i,(eu x y i).2+i<=y:=by
   intro i;induction i with
   |zero=>exact bF _
   |succ i ih=>
    have h0:=hp _ _ (all i);have h1:(eu x y (i+1)).2<(eu x y i).2:=cU _ (uG h0);omega
  have h1:=dec (y+1);omega
 obtain⟨n,hn⟩:=key;obtain⟨e,h1,h2,h3⟩:=Ah (λi=>p (eu x y i).1 (eu x y i).2=false) n hn;exact⟨e,h2,λi hi=>by
  cases h:p (eu x y i).1 (eu x y i).2 with
  |true=>rfl
  |false=>exact absurd h (h3 i hi)⟩
def Ay(u v:Nat):Bool:=decide (2<nd base v)||(decide (2<nd base u)&&decide (0<nd base v))
section
variable{Bs:aa}
def Ec(u v:Nat):aU:=[(5,sl 5 (nd base u)),(6,sl 6 (nd base v))]
def CA(u v:Nat):List Obj:=[kZ u,kZ v]
theorem aLb{u v:Nat}(h:Ay u v=true)(h0:v≠0)(h1:nd base u<35184372088831)(h2:nd base v<35184372088831):
  ah prog Bs 65 (aK (ai f142 0)) (Ec u v) ([]++marks 5 (CA u v)) 7 ⟨.normal,ij 5 [some 6,some 8] (Ec v (u%v)),[]++eg [some 6,some 8] (CA v (u%v)),9⟩:=by
 have hd:=Pc (Bs:=Bs) (o:=az f142 42) (y:=.func 176) k_ (k1:=5) (k2:=6) (kq:=7) (kr:=8) d_ (vS u) rfl (vS v) h0 h1 h2;unfold Ay at h;by_cases c1:2<nd base v
 ·exact aG [.gt 28 (nd base v) 2 true (by simp[c1]),.step 42 _ _ _ _ _ hd]
 ·simp[c1]at h;exact aG [.gt 28 (nd base v) 2 false (by simp;omega),.gt 32 (nd base u) 2 true (by simp[h.1]),.gt 36 (nd base v) 0 true (by simp[h.2]),.step 42 _ _ _ _ _ hd]
theorem aLc{u v:Nat}(h:Ay u v=false):
  ah prog Bs 65 (aK (ai f142 0)) (Ec u v) ([]++marks 5 (CA u v)) 7 ⟨.exit 0,Ec u v,marks 5 (CA u v),7⟩:=by
 unfold Ay at h;by_cases c1:2<nd base v
 ·simp[c1]at h
 ·by_cases c2:2<nd base u
  ·by_cases c3:0<nd base v
   ·simp[c2,c3]at h
   ·exact aG [.gt 28 (nd base v) 2 false (by simp;omega),.gt 32 (nd base u) 2 true (by simp[c2]),.gt 36 (nd base v) 0 false (by simp;omega)]
  ·exact aG [.gt 28 (nd base v) 2 false (by simp;omega),.gt 32 (nd base u) 2 false (by simp;omega)]
theorem aLd{x y n:Nat}(hn:Ay (eu x y n).1 (eu x y n).2=false)(hi:∀ i,i<n->Ay (eu x y i).1 (eu x y i).2=true)(h1:nd base (max x y)<35184372088831):
  ah prog Bs 65 (.block 0 (ai f142 0)) (ij 5 [some 3,some 4] (Ec x y)) ([]++eg [some 3,some 4] (CA x y)) 5 ⟨.normal,Ec (eu x y n).1 (eu x y n).2,marks 5 (CA (eu x y n).1 (eu x y n).2),7⟩:=by
 have:=rX (P:=prog) (B:=Bs) (N:=65) (b:=aK (ai f142 0)) (next:=5) (p:=2) (r:=⟨.exit 0,Ec (eu x y n).1 (eu x y n).2,marks 5 (CA (eu x y n).1 (eu x y n).2),7⟩) n (λi=>Ec (eu x y i).1 (eu x y i).2) (λ_=>[]) (λi=>CA (eu x y i).1 (eu x y i).2) [some 3,some 4] (λ_ _=>rfl)
  (λi _=>⟨λq hq=>(by cases hq),λz hz=>by simp[CA]at hz;rcases hz with rfl|rfl<;>exact Ir (ga _)⟩) k_ k_
  (λi ao=>⟨[some 6,some 8],9,k_,by have hg:=hi i ao;have hle:=UK x y i;refine aLb hg (λe=>?_) (fA (jL d_ hle.1) h1) (fA (jL d_ hle.2) h1);rw[e]at hg;unfold Ay at hg;rw[oV]at hg;simp at hg⟩) (aLc hn) n_
 exact cg (id:=0) this
def yu(u v:Nat):aU:=[(9,rf u),(10,rf v)]
theorem UL{x y:Nat}:∃ g,g=Nat.gcd x y/\ah prog Bs 65 (.block 2 (ai f142 2)) (yu x y) [] 7 ⟨.normal,[(9,rf g)],[],7⟩:=by
 obtain⟨n,hn,hi⟩:=Pd x y (λ_ v=>decide (v≠0)) (λu v h=>jN h);have hz:(eu x y n).2=0:=by have:=Ed hn;omega
 have hg:=Lc x y n;rw[hz,UM]at hg;refine⟨_,hg,cg (id:=2) (cz (P:=prog) (B:=Bs) (N:=65) (b:=aK (ai f142 2)) (next:=7) (r:=⟨.exit 2,[(9,rf (eu x y n).1)],[],7⟩) n (λi=>yu (eu x y i).1 (eu x y i).2) (λ_=>[]) (λ_ _ _=>Iff.rfl) (λi ao=>?_) ?_ n_)⟩
 ·have h0:(eu x y i).2≠0:=jN (hi i ao);show ah _ _ _ _ (yu (eu x y i).1 (eu x y i).2) [] 7 ⟨.normal,yu (eu x y i).2 ((eu x y i).1%(eu x y i).2),[],7⟩;generalize (eu x y i).1=u at *;generalize (eu x y i).2=v at *;exact aG [.rw 57 (.bool ((v:Int)!=0)) b_ (by congr 1;rw[rW];omega),.F1 f142 61 .u64 (u:Int) v ((u%v:Nat):Int) o_ (by rw[Ar o_];rfl) k_]
 ·rw[hz];exact aG [.rw 57 (.bool (((0:Nat):Int)!=0)) a_ rfl]
end
theorem UN{n1 n2:Bool}{p:Nat}(v1:n1=true->m1≠0)(v2:n2=true->m2≠0)(h1:m1<2^p)(h2:m2<2^q)(hp:p<=1099511627776)(hq:q<=1099511627776):
  aH prog 142 [sv n1 m1,sv n2 m2] (bd (Nat.gcd m1 m2:Nat)):=by
 have b1:=yr h1;have b2:=yr h2;have bm:nd base (max m1 m2)<35184372088831:=by rcases Pe m1 m2 with h|h<;>simp[h]<;>omega
 obtain⟨n,hn,hi⟩:=Pd m1 m2 Ay (λu v h e=>by rw[e]at h;unfold Ay at h;rw[oV]at h;simp at h)
 have hg:=Lc m1 m2 n;have hle:=UK m1 m2 n;have hl:=λw=>aLd (Bs:=aa.at w) hn hi bm;have bU:nd base (eu m1 m2 n).1<35184372088831:=fA (jL d_ hle.1) bm;have bV:nd base (eu m1 m2 n).2<35184372088831:=fA (jL d_ hle.2) bm;rw[<-hg];generalize (eu m1 m2 n).1=U at *;generalize (eu m1 m2 n).2=V at *;have e:=wU false (Nat.gcd U V);rw[show sg false (Nat.gcd U V)=((Nat.gcd U V:Nat):Int)from rfl]at e;rw[<-e];by_cases hV:V=0
 ·subst hV;rw[UM];exact bI func142 (λw=>[(iQ n1 v1).at 12,(iQ n2 v2).at 16,.Ax f142 22 3 m1 p h1 hp (y:=.func 160) k_,.Ax f142 25 4 m2 q h2 hq (y:=.func 160) k_,.code 0 _ _ _ _ _ (hl w),.rw 49 (.bool (((nd base 0:Nat):Int)==0)) b_ (by rw[oV];rfl),.Eb f142 51 5 U (kZ U) (vS U) false o_ (y:=.func 144) k_])
 ·have rY:=x7 (B:=base) d_ hV;unfold Ay at hn;have c1:nd base V<=2/\nd base U<=2:=by simp at hn;exact⟨hn.1,KZ.1 λh=>by have:=hn.2 h;omega⟩
  have aBK:∀ t,nd base t<=2->t<18446744073709551616:=λt ht=>by have h1:=eE (B:=base) d_ t;have h2:base^nd base t<=base^2:=dj d_ ht;exact cH h1 (dq h2 d_)
  have aLe:=aBK U c1.2;have aBL:=aBK V c1.1;have Pf:∀ w,∃ g,g=Nat.gcd U V/\ah prog (aa.at w) 65 (.block 2 (ai f142 2)) (yu U V) [] 7 ⟨.normal,[(9,rf g)],[],7⟩:=λw=>UL;have Pf:∀ w,ah prog (aa.at w) 65 (.block 2 (ai f142 2)) (yu U V) [] 7 ⟨.normal,[(9,rf (Nat.gcd U V))],[],7⟩:=λw=>by obtain⟨g,rfl,h⟩:=Pf w;exact h
  have aLf:Nat.gcd U V<18446744073709551616:=fA (Nat.gcd_le_right U (uG hV)) aBL;have bG:nd base (Nat.gcd U V)<35184372088832:=by have:=jL (B:=base) d_ (Nat.gcd_le_right U (uG hV));omega
  exact bI func142 (λw=>[(iQ n1 v1).at 12,(iQ n2 v2).at 16,.Ax f142 22 3 m1 p h1 hp (y:=.func 160) k_,.Ax f142 25 4 m2 q h2 hq (y:=.func 160) k_,.code 0 _ _ _ _ _ (hl w),.gH 49 (nd base V) 0 false (by simp;omega),.step 53 (az f142 53) _ _ _ _ (Iz (f:=177) (y:=.func 177) (k1:=5) (post:=[]) (res:=rf U) k_ k_ (vS U) n_ rfl λ_ _ h=>aAZ h aLe o_),.step 55 (az f142 55) _ _ _ _ (Iz (f:=177) (y:=.func 177) (k1:=6) (post:=[]) (res:=rf V) k_ k_ (vS V) n_ rfl λ_ _ h=>aAZ h aBL o_),.code 2 _ _ _ _ _ (Pf w),.step 63 (az f142 63) _ _ _ _ (O2 (y:=.func 143) (args:=[rf (Nat.gcd U V)]) k_ k_ (λv hv=>by simp at hv;subst hv;rfl) (λ_=>T3 aLf) 7),.Eb f142 64 7 (Nat.gcd U V) (vQ (Nat.gcd U V)) (tB _) false bG (y:=.func 144) k_])
theorem Gi{x y:Int}{p:Nat}(h1:x.natAbs<2^p)(h2:y.natAbs<2^q)(hp:p<=1099511627776)(hq:q<=1099511627776):aH prog 142 [bd x,bd y] (bd (Nat.gcd x.natAbs y.natAbs:Nat)):=by revert h1 h2;refine Gg (C:=λx y v u=>x.natAbs<2^p->y.natAbs<2^q->aH prog 142 [v,u] (bd (Nat.gcd x.natAbs y.natAbs:Nat))) (λn1 n2 m1 m2 v1 v2 h1 h2=>?_) x y;rw[rh]at h1 h2;rw[rh,rh];exact UN v1 v2 h1 h2 hp hq
theorem Pg{a b q r:Int}(h:a=q*b+r)(hr:(0<b/\0<=r/\r<b)\/(b<0/\b<r/\r<=0)):a.fdiv b=q/\a.fmod b=r:=by
 have key:a.fdiv b=q:=by
  rcases hr with ⟨h1,h2,h3⟩|⟨h1,h2,h3⟩
  ·rw[ti _ o_,h,Int.add_comm,aBM _ _ o_,Int.ediv_eq_zero_of_lt h2 h3];omega
  ·have e:a.fdiv b=(-a).fdiv (-b):=(Int.neg_fdiv_neg a b).symm;have e2:-a=-r+q*-b:=by rw[h,IL];omega
   rw[e,ti _ o_,e2,aBM _ _ o_,Int.ediv_eq_zero_of_lt o_ o_];omega
 refine⟨key,?_⟩;have:=Int.mul_fdiv_add_fmod a b;rw[key,UO]at this;omega
section
variable{Bs:aa}{N:Nat}
def aZ.IP(fn:Func)(key k a:Nat)(x:Obj)(hx:qY x a)(neg:Bool)(h1:nd base a<35184372088832){y:m_}(ho:dC (az fn key).op=some y):aZ prog Bs N:=
 .step key (az fn key) _ _ _ _ (Iz (f:=144) (k1:=k) (post:=[.bool neg]) (res:=bd (sg neg a)) ho k_ hx (λv hv=>by simp at hv;subst hv;rfl) rfl λ_ _ h=>by rw[<-wU];exact aBu h h1)
end
theorem UP{x y:Int}{p:Nat}(hy:y≠0)(h1:x.natAbs<2^p)(h2:y.natAbs<2^q)(hp:p<=1099511627774)(hq:q<=1099511627774):
  aH prog 165 [bd x,bd y] (.tuple #[bd (x.fdiv y),bd (x.fmod y),.int .i64 0]):=by
 obtain⟨m1,c8⟩:∃ m,m=x.natAbs:=⟨_,rfl⟩;obtain⟨m2,dE⟩:∃ m,m=y.natAbs:=⟨_,rfl⟩;rw[<-c8]at h1;rw[<-dE]at h2;have IQ:m2≠0:=by omega
 have b1:=yr h1;have b2:=yr h2;obtain⟨s,hs⟩:∃ s,s=(decide (x<0)!=decide (y<0)):=⟨_,rfl⟩;obtain⟨n1,Dz⟩:∃ n,n=decide (x<0):=⟨_,rfl⟩;obtain⟨Q,hQ⟩:∃ Q,Q=m1/m2:=⟨_,rfl⟩;obtain⟨R,hR⟩:∃ R,R=m1%m2:=⟨_,rfl⟩;have Ld:m1=Q*m2+R:=by rw[hQ,hR,c7];exact(jM _ _).symm
 have Gj:R<m2:=by rw[hR];exact cU _ (uG IQ)
 have UQ:Q<=m1:=by rw[hQ];exact uK _ _
 have bQ:nd base (m1/m2)<35184372088832:=by have:=jL (B:=base) d_ UQ;rw[<-hQ];omega
 have bR:nd base (m1%m2)<35184372088832:=by have:=jL (B:=base) d_ (kv Gj);rw[<-hR];omega
 have ex:x=sg n1 m1:=by rw[Dz,c8];unfold sg;by_cases h:x<0<;>simp[h]<;>omega
 have ey:y=sg (n1 !=s) m2:=by rw[Dz,hs,dE];unfold sg;by_cases h:x<0<;>by_cases h':y<0<;>simp[h,h']<;>omega
 have Le:(decide (x<0)!=decide (y<0))=s:=hs.symm;have v1:=pH x;have v2:=pH y;have UR:((BA (cO y.natAbs)).toList==(ByteArray.mk #[]).toList)=false:=by rw[qZ,<-dE,aY IQ]
 have US:(!((BA (cO (sg n1 R).natAbs)).toList==(ByteArray.mk #[]).toList))=decide (R≠0):=by rw[qZ,rh];simp
 have po:x.natAbs<2^p:=by rw[<-c8];exact h1
 have wX:y.natAbs<2^q:=by rw[<-dE];exact h2
 rw[show m1/m2=Q from hQ.symm]at bQ;rw[show m1%m2=R from hR.symm]at bR;have hd:∀ w,cI prog (aa.at w) (az f165 33) [.func (.func 176) #[] #[],sl 4 (nd base x.natAbs),sl 5 (nd base y.natAbs)] [(4,some (kZ x.natAbs)),(5,some (kZ y.natAbs)),(6,none),(7,none)] (.tuple #[sl 6 (nd base Q),sl 7 (nd base R)]) [(7,kZ R),(6,kZ Q)]:=λw=>by have:=Pc (Bs:=aa.at w) (o:=az f165 33) (y:=.func 176) k_ (k1:=4) (k2:=5) (kq:=6) (kr:=7) d_ (vS x.natAbs) rfl (vS y.natAbs) o_ (by rw[<-c8];omega) (by rw[<-dE];omega);rw[<-c8,<-dE,<-hQ,<-hR]at this;rw[<-c8,<-dE];exact this
 have UT:(Value.bool (decide (x<0)))=.bool n1:=by rw[Dz]
 by_cases Ph:R≠0/\s=true
 ·obtain⟨vT,bW⟩:=Ph;have fin:=Pg (a:=x) (b:=y) (q:=sg s Q-1) (r:=sg n1 R+y) (by
    rw[ex,ey,bW,Ld];have e:sg true Q=-(Q:Int):=rfl;rw[e];have fT:((Q*m2:Nat):Int)=(Q:Int)*m2:=oP ..;cases n1<;>simp only[sg,Pj,Pk,KN,rO,vP,vO,wT,fT,Int.sub_mul,IK,IL,K8,Pl]<;>omega)
   (by
    rw[ey,bW];cases n1
    ·right;simp only[sg,Pj,rO,vP,vO];omega
    ·left;simp only[sg,Pk,KN,rO,vP,vO];omega)
  rw[fin.1,fin.2];have s1:(sg s Q).natAbs<2^p:=by rw[rh];omega
  have s2:(1:Int).natAbs<2^1:=by decide
  have s3:(sg n1 R).natAbs<2^q:=by rw[rh];omega
  have sb:=Gh (x:=sg s Q) (y:=1) s1 s2 o_ o_;have ad:=Aw (x:=sg n1 R) (y:=y) s3 wX o_ o_;exact bI func165 (λw=>[v1.at 11,v2.at 15,.rw 23 (.bool ((BA (cO y.natAbs)).toList==(ByteArray.mk #[]).toList)) a_ (by rw[UR]),.Ax f165 29 4 x.natAbs p po o_ (y:=.func 160) k_,.Ax f165 32 5 y.natAbs q wX o_ (y:=.func 160) k_,.step 33 _ _ _ _ _ (hd w),.rw 41 (.bool (decide (x<0)!=decide (y<0))) (.bool s) (by rw[Le]),.IP f165 42 6 Q (kZ Q) (vS Q) s bQ (y:=.func 144) k_,.rw 45 (.bool (decide (x<0))) (.bool n1) UT,.IP f165 46 7 R (kZ R) (vS R) n1 bR (y:=.func 144) k_,.rw 49 (.bool (!((BA (cO (sg n1 R).natAbs)).toList==(ByteArray.mk #[]).toList))) b_ (by rw[US,aJ vT]),.rw 55 (.bool (decide (x<0)!=decide (y<0))) b_ (by rw[Le,bW]),(lP (z:=1) d_).at 58,sb.at 59,ad.at 62])
 ·have fin:=Pg (a:=x) (b:=y) (q:=sg s Q) (r:=sg n1 R) (by
    rw[ex,ey,Ld];have fT:((Q*m2:Nat):Int)=(Q:Int)*m2:=oP ..;cases n1<;>cases s<;>simp only[sg,Pj,Pk,KN,OI,rO,vP,vO,wT,fT,IK,IL,K8]<;>omega)
   (by
    rw[ey];cases n1<;>cases s
    ·left;simp only[sg,Pj,vP,vO];omega
    ·right;have vT:R=0:=iP λh=>Ph ⟨h,rfl⟩;simp only[sg,Pj,rO,vP,vO];omega
    ·right;simp only[sg,Pk,OI,rO];omega
    ·left;have vT:R=0:=iP λh=>Ph ⟨h,rfl⟩;simp only[sg,Pk,KN,rO,vP,vO];omega)
  rw[fin.1,fin.2];by_cases vT:R=0
  ·exact bI func165 (λw=>[v1.at 11,v2.at 15,.rw 23 (.bool ((BA (cO y.natAbs)).toList==(ByteArray.mk #[]).toList)) a_ (by rw[UR]),.Ax f165 29 4 x.natAbs p po o_ (y:=.func 160) k_,.Ax f165 32 5 y.natAbs q wX o_ (y:=.func 160) k_,.step 33 _ _ _ _ _ (hd w),.rw 41 (.bool (decide (x<0)!=decide (y<0))) (.bool s) (by rw[Le]),.IP f165 42 6 Q (kZ Q) (vS Q) s bQ (y:=.func 144) k_,.rw 45 (.bool (decide (x<0))) (.bool n1) UT,.IP f165 46 7 R (kZ R) (vS R) n1 bR (y:=.func 144) k_,.rw 49 (.bool (!((BA (cO (sg n1 R).natAbs)).toList==(ByteArray.mk #[]).toList))) a_ (by rw[US,aY (λh=>h vT)])])
  ·have bW:s=false:=by
    cases s
    ·rfl
    ·exact absurd ⟨vT,rfl⟩ Ph
   exact bI func165 (λw=>[v1.at 11,v2.at 15,.rw 23 (.bool ((BA (cO y.natAbs)).toList==(ByteArray.mk #[]).toList)) a_ (by rw[UR]),.Ax f165 29 4 x.natAbs p po o_ (y:=.func 160) k_,.Ax f165 32 5 y.natAbs q wX o_ (y:=.func 160) k_,.step 33 _ _ _ _ _ (hd w),.rw 41 (.bool (decide (x<0)!=decide (y<0))) (.bool s) (by rw[Le]),.IP f165 42 6 Q (kZ Q) (vS Q) s bQ (y:=.func 144) k_,.rw 45 (.bool (decide (x<0))) (.bool n1) UT,.IP f165 46 7 R (kZ R) (vS R) n1 bR (y:=.func 144) k_,.rw 49 (.bool (!((BA (cO (sg n1 R).natAbs)).toList==(ByteArray.mk #[]).toList))) b_ (by rw[US,aJ vT]),.rw 55 (.bool (decide (x<0)!=decide (y<0))) a_ (by rw[Le,bW])])
section
variable{P:j_}{B:aa}{N:Nat}
def Gk(o:Oper):Option (Bool×TypeId):=match o.op with|.binOp .eql t _ _ _=>some (true,t)|.binOp .neq t _ _ _=>some (false,t)|_=>none
theorem aBN{op:BinOp}{t:TypeId}{x y:m_}{xs ys:p_}(hg:P.eqGuardType P.depth t=false)(w:h_):(eqGuard op t x y (.agg xs) (.agg ys)).run P w=.ok () w:=by unfold eqGuard;cases op<;>simp[hg]
theorem Pm{t:TypeId}{neg:Bool}{xs ys:p_}{lx ly:List Lit}{r:Bool}(ho:Gk o=some (neg,t))(hm:m<=10000)(hk:P.keyTypeAt m t=true)(hg:P.eqGuardType P.depth t=false)
  (hfx:(Value.agg xs).formed P t=true) (hfy:(Value.agg ys).formed P t=true) (hx:P.keyLits D t xs.toList=some lx) (hy:P.keyLits D t ys.toList=some ly) (Zq:flat (.agg xs)=true) (Kh:flat (.agg ys)=true)
  (hr:(if neg then r else !r)=true↔lx=ly):cI P B o [.agg xs,.agg ys] [] (.bool r) []:=by
 refine(BQ (λu hu=>by simp at hu;rcases hu with rfl|rfl<;>assumption) rfl λρ fP w _=>?_).step;obtain⟨r',e1,e2⟩:=run_equalIn_deep (10000-m) m t hk w D D (.agg xs) (.agg ys) lx ly hfx hfy hx hy;rw[show 10000-m+m=10000 by omega]at e1;have e1:(Op.equal t (.agg xs) (.agg ys)).run P w=.ok r' w:=e1;unfold Gk at ho;split at ho
 ·rename_i t' p q t2 ck;injection ho with ho;injection ho with h1 h2;subst h1;subst h2;rw[ck]at fP;simp[Op.operands]at fP;have e3:r'=r:=by rw[<-e2]at hr;cases r<;>cases r'<;>simp at hr ⊢
  have oS:=aBN (op:=.eql) (x:=p) (y:=q) (xs:=xs) (ys:=ys) hg w;simp only[execOp,ck,fP.1,fP.2];simp[oS,binOp,e1,e3]
 ·rename_i t' p q t2 ck;injection ho with ho;injection ho with h1 h2;subst h1;subst h2;rw[ck]at fP;simp[Op.operands]at fP;have e3:(!r')=r:=by rw[<-e2]at hr;cases r<;>cases r'<;>simp at hr ⊢
  have oS:=aBN (op:=.neq) (x:=p) (y:=q) (xs:=xs) (ys:=ys) hg w;simp only[execOp,ck,fP.1,fP.2];simp[oS,binOp,e1,e3]
 ·cases ho
theorem aBO{β:Type}(f:TypeId->Nat->Option β):∀(l:List Field) {m:List (TypeId×Nat)},l.map (λg=>(g.type,g.offset))=m->(l.mapM λg=>f g.type g.offset)=m.mapM λp=>f p.1 p.2
 |[],m,h=>by subst h;rfl
 |g::l,m,h=>by subst h;simp only[mL,KC];rw[aBO f l rfl]
theorem Pn{t: TypeId}{fs: Array Field}{l: List (TypeId × Nat)}{cs: al}(hu : P.underlying t = some (.struct fs))(hf : fs.toList.map (fun g => (g.type, g.offset)) = l)(hn : fs.all (fun g => g.name != "_") = true)(hl : cs.length = P.cellsOf t)(d : Nat) :
  P.keyLits (d+1) t cs=(l.mapM λp=>P.keyLits d p.1 ((cs.drop p.2).take (P.cellsOf p.1))).map List.flatten:=by
 conv=>lhs;unfold Program.keyLits
 rw[hu];dsimp only;rw[aA ⟨hl,hn⟩,aBO (λa b=>P.keyLits d a ((cs.drop b).take (P.cellsOf a))) fs.toList hf]
theorem aLg{t e:TypeId}{n:Nat}{cs:al}(hu:P.underlying t=some (.array n e))(hl:cs.length=P.cellsOf t)(d:Nat):
  P.keyLits (d+1) t cs=((List.range n).mapM λi=>P.keyLits d e ((cs.drop (i*P.cellsOf e)).take (P.cellsOf e))).map List.flatten:=by
 conv=>lhs;unfold Program.keyLits
 rw[hu];dsimp only;rw[aA hl]
theorem aLh{t:TypeId}(hu:P.underlying t=some .bool)(b:Bool)(d:Nat):P.keyLits (d+1) t [.bool b]=some [.bool b]:=by unfold Program.keyLits;rw[hu]
theorem aLi{t:TypeId}(hu:P.underlying t=some .string)(s:ByteArray)(hs:s.size<=maxLen)(d:Nat):P.keyLits (d+1) t [.string s]=some [.string s.data.toList]:=by unfold Program.keyLits;rw[hu];dsimp only;rw[aA hs]
end
section
class CR (F:Type) extends Add F,Mul F,Neg F,Sub F,Zero F,One F where
 add_assoc:∀ a b c:F,a+b+c=a+(b+c)
 add_comm:∀ a b:F,a+b=b+a
 zero_add:∀ a:F,0+a=a
 neg_add:∀ a:F,-a+a=0
 mul_assoc:∀ a b c:F,a*b*c=a*(b*c)
 mul_comm:∀ a b:F,a*b=b*a
 one_mul:∀ a:F,1*a=a
 mul_add:∀ a b c:F,a*(b+c)=a*b+a*c
 sub_def:∀ a b:F,a-b=a+-b
namespace CR
variable{F:Type}[CR F]
theorem add_zero(a:F):a+0=a:=by rw[add_comm,zero_add]
theorem add_neg(a:F):a+-a=0:=by rw[add_comm,neg_add]
theorem mul_one(a:F):a*1=a:=by rw[mul_comm,one_mul]
theorem add_mul(a b c:F):(a+b)*c=a*c+b*c:=by rw[mul_comm,mul_add,mul_comm c a,mul_comm c b]
theorem add_left_comm(a b c:F):a+(b+c)=b+(a+c):=by rw[<-add_assoc,add_comm a b,add_assoc]
theorem mul_left_comm(a b c:F):a*(b*c)=b*(a*c):=by rw[<-mul_assoc,mul_comm a b,mul_assoc]
theorem add_left_cancel{a b c:F}(h:a+b=a+c):b=c:=by have:=cS (λx=>-a+x) h;simpa only[<-add_assoc,neg_add,zero_add]using this
theorem mul_zero(a:F):a*0=0:=by apply add_left_cancel (a:=a*0);rw[<-mul_add,zero_add,add_zero]
theorem zero_mul(a:F):0*a=0:=by rw[mul_comm,mul_zero]
theorem IU{a b:F}(h:a+b=0):b=-a:=add_left_cancel (a:=a) (by rw[h,add_neg])
theorem neg_mul(a b:F):-a*b=-(a*b):=IU (by rw[<-add_mul,add_neg,zero_mul])
theorem mul_neg(a b:F):a*-b=-(a*b):=by rw[mul_comm,neg_mul,mul_comm]
theorem neg_neg(a:F):- -a=a:=(IU (neg_add a)).symm
theorem Az(a b:F):-(a+b)=-a+-b:=
 (IU (by rw[add_assoc,add_left_comm b,<-add_assoc,add_neg,zero_add,add_neg])).symm
theorem neg_zero:-(0:F)=0:=(IU (zero_add 0)).symm
def ofNat:Nat->F
 |0=>0
 |n+1=>ofNat n+1
def ofInt:Int->F
 |.ofNat n=>ofNat n
 |.negSucc n=>-ofNat (n+1)
theorem ofNat_add(a b:Nat):(ofNat (a+b):F)=ofNat a+ofNat b:=by
 induction b with
 |zero=>simp[ofNat,add_zero]
 |succ b ih=>rw[<-vz];simp only[ofNat];rw[ih,add_assoc]
theorem ofNat_mul(a b:Nat):(ofNat (a*b):F)=ofNat a*ofNat b:=by
 induction b with
 |zero=>simp[ofNat,mul_zero]
 |succ b ih=>rw[Oz,ofNat_add,ih];simp only[ofNat];rw[mul_add,mul_one]
theorem ofInt_sub(a b:Nat):(ofInt ((a:Int)-b):F)=ofNat a+-ofNat b:=by
 rcases Pe b a with h|h
 ·obtain⟨c,rfl⟩:=Nat.le.dest h;rw[show((b+c:Nat):Int)-b=Int.ofNat c by simp[wT];omega];simp only[ofInt];rw[ofNat_add,add_comm (ofNat b),add_assoc,add_neg,add_zero]
 ·obtain⟨c,rfl⟩:=Nat.le.dest h;cases c with
  |zero=>rw[show(a:Int)-((a+0:Nat):Int)=Int.ofNat 0 by simp];simp[ofInt,ofNat,add_neg]
  |succ c=>
   rw[show(a:Int)-((a+(c+1):Nat):Int)=Int.negSucc c by omega];simp only[ofInt];rw[ofNat_add a (c+1),Az,<-add_assoc,add_neg,zero_add]
theorem ofInt_neg(a:Int):(ofInt (-a):F)=-ofInt a:=by
 cases a with
 |ofNat n=>
  cases n with
  |zero=>simp[ofInt,ofNat,neg_zero]
  |succ n=>rfl
 |negSucc n=>rw[show -(Int.negSucc n)=Int.ofNat (n+1)from rfl];simp only[ofInt];rw[neg_neg]
theorem tD(a:Int):∃ m n:Nat,a=(m:Int)-n:=by
 cases a with
 |ofNat m=>exact⟨m,0,by simp⟩
 |negSucc n=>exact⟨0,n+1,by omega⟩
theorem ofInt_add(a b:Int):(ofInt (a+b):F)=ofInt a+ofInt b:=by obtain⟨m,n,rfl⟩:=tD a;obtain⟨p,q,rfl⟩:=tD b;rw[show(m:Int)-n+(p-q)=((m+p:Nat):Int)-(n+q:Nat)by omega];rw[ofInt_sub,ofInt_sub,ofInt_sub,ofNat_add,ofNat_add,Az];simp only[add_assoc,add_left_comm]
theorem ofInt_mul(a b:Int):(ofInt (a*b):F)=ofInt a*ofInt b:=by
 obtain⟨m,n,rfl⟩:=tD a;obtain⟨p,q,rfl⟩:=tD b;rw[show((m:Int)-n)*(p-q)=((m*p+n*q:Nat):Int)-(m*q+n*p:Nat)by simp only[wT,oP,Int.sub_mul,Int.mul_sub];omega]
 rw[ofInt_sub,ofInt_sub,ofInt_sub];simp only[ofNat_add,ofNat_mul,add_mul,mul_add,neg_mul,mul_neg,Az,neg_neg];simp only[add_assoc,add_left_comm,add_comm]
end CR
open CR
inductive E where
 |var (i:Nat)
 |num (n:Int)
 |add (a b:E)
 |mul (a b:E)
 |neg (a:E)
 |sub (a b:E)
 |one
namespace E
instance:Add E:=⟨E.add⟩
instance:Mul E:=⟨E.mul⟩
instance:Neg E:=⟨E.neg⟩
instance:Sub E:=⟨E.sub⟩
instance:Zero E:=⟨E.num 0⟩
instance:One E:=⟨E.one⟩
def den{F:Type}[CR F](ρ:Nat->F):E->F
 |.var i=>ρ i
 |.num n=>ofInt n
 |.add a b=>den ρ a+den ρ b
 |.mul a b=>den ρ a*den ρ b
 |.neg a=>-den ρ a
 |.sub a b=>den ρ a-den ρ b
 |.one=>1
abbrev Mon:=List Nat
abbrev Poly:=List (Mon×Int)
def Po(v:Nat):Mon->Mon
 |[]=>[v]
 |u::m=>if Nat.ble v u then v::u::m else u::Po v m
def Lf(m n:Mon):Mon:=m.foldr Po n
def Gl:Mon->Mon->Bool
 |[],[]=>true
 |a::m,b::n=>Nat.beq a b&&Gl m n
 |_,_=>false
def mlt:Mon->Mon->Bool
 |[],[]=>false
 |[],_::_=>true
 |_::_,[]=>false
 |a::m,b::n=>if Nat.beq a b then mlt m n else Nat.blt a b
def pins(m:Mon)(a:Int):Poly->Poly
 |[]=>[(m,a)]
 |(n,b)::p=>if Gl m n then(if a+b=0 then p else(n,a+b)::p)else if mlt m n then(m,a)::(n,b)::p else(n,b)::pins m a p
def IV(p q:Poly):Poly:=p.foldr (λx acc=>pins x.1 x.2 acc) q
def Lg(m:Mon)(a:Int)(q:Poly)(acc:Poly):Poly:=q.foldr (λx acc=>pins (Lf m x.1) (a*x.2) acc) acc
def Lh(p q:Poly):Poly:=p.foldr (λx acc=>Lg x.1 x.2 q acc) []
def norm:E->Poly
 |.var i=>[([i],1)]
 |.num n=>if n=0 then[]else[([],n)]
 |.add a b=>IV (norm a) (norm b)
 |.mul a b=>Lh (norm a) (norm b)
 |.neg a=>(norm a).map λx=>(x.1,-x.2)
 |.sub a b=>IV (norm a) ((norm b).map λx=>(x.1,-x.2))
 |.one=>[([],1)]
def peq:Poly->Poly->Bool
 |[],[]=>true
 |(m,a)::p,(n,b)::q=>Gl m n&&(a==b)&&peq p q
 |_,_=>false
section
variable{F:Type}[CR F](ρ:Nat->F)
def tE:Mon->F
 |[]=>1
 |v::m=>ρ v*tE m
def kL:Poly->F
 |[]=>0
 |(m,a)::p=>ofInt a*tE ρ m+kL p
theorem aLj(v:Nat)(m:Mon):tE ρ (Po v m)=ρ v*tE ρ m:=by
 induction m with
 |nil=>rfl
 |cons u m ih=>
  simp only[Po];split
  ·rfl
  ·simp only[tE];rw[ih,mul_left_comm]
theorem aLk(m n:Mon):tE ρ (Lf m n)=tE ρ m*tE ρ n:=by
 induction m with
 |nil=>simp only[Lf,UU,tE,one_mul]
 |cons v m ih=>simp only[Lf,UW,aLj];simp only[Lf]at ih;rw[ih];simp only[tE];rw[mul_assoc]
theorem aBP{m n:Mon}(h:Gl m n=true):m=n:=by
 induction m generalizing n with
 |nil=>cases n<;>simp_all [Gl]
 |cons a m ih=>
  cases n with
  |nil=>simp[Gl]at h
  |cons b n=>
   simp only[Gl,dc]at h;rw[SP h.1,ih h.2]
theorem aBQ(m:Mon)(a:Int)(p:Poly):kL ρ (pins m a p)=ofInt a*tE ρ m+kL ρ p:=by
 induction p with
 |nil=>rfl
 |cons x p ih=>
  obtain⟨n,b⟩:=x;simp only[pins];split
  ·rename_i h;have:=aBP h;subst this;split
   ·rename_i h0;simp only[kL];rw[<-add_assoc,<-add_mul,<-ofInt_add,h0];rw[show(ofInt 0:F)=0 from rfl,zero_mul,zero_add]
   ·simp only[kL];rw[ofInt_add,add_mul,add_assoc]
  ·split
   ·rfl
   ·simp only[kL];rw[ih,add_left_comm]
theorem aBR(p q:Poly):kL ρ (IV p q)=kL ρ p+kL ρ q:=by
 induction p with
 |nil=>simp only[IV,UU,kL,zero_add]
 |cons x p ih=>simp only[IV,UW,aBQ];simp only[IV]at ih;rw[ih];simp only[kL];rw[add_assoc]
theorem aLl(m:Mon)(a:Int)(q acc:Poly):kL ρ (Lg m a q acc)=ofInt a*tE ρ m*kL ρ q+kL ρ acc:=by
 induction q with
 |nil=>simp only[Lg,UU,kL,mul_zero,zero_add]
 |cons x q ih=>
  simp only[Lg,UW,aBQ];simp only[Lg]at ih;rw[ih];simp only[kL];rw[aLk,ofInt_mul,mul_add,<-add_assoc]
  congr 2
  simp only[mul_assoc,mul_left_comm]
theorem aLm(p q:Poly):kL ρ (Lh p q)=kL ρ p*kL ρ q:=by
 induction p with
 |nil=>simp only[Lh,UU,kL,zero_mul]
 |cons x p ih=>simp only[Lh,UW,aLl];simp only[Lh]at ih;rw[ih];simp only[kL];rw[add_mul]
theorem aBS(p:Poly):kL ρ (p.map λx=>(x.1,-x.2))=-kL ρ p:=by
 induction p with
 |nil=>simp only[Ud,kL,neg_zero]
 |cons x p ih=>simp only[mL,kL];rw[ih,ofInt_neg,neg_mul,Az]
theorem aBT(e:E):kL ρ (norm e)=den ρ e:=by
 induction e with
 |var i=>
  simp only[norm,kL,tE,den,mul_one,add_zero];rw[show(ofInt 1:F)=0+1 from rfl,zero_add,one_mul]
 |num n=>
  simp only[norm];split
  ·rename_i h;subst h;rfl
  ·simp only[kL,tE,den,mul_one,add_zero]
 |add a b Li Lj=>simp only[norm,den,aBR,Li,Lj]
 |mul a b Li Lj=>simp only[norm,den,aLm,Li,Lj]
 |neg a ih=>simp only[norm,den,aBS,ih]
 |sub a b Li Lj=>simp only[norm,den,aBR,aBS,Li,Lj,sub_def]
 |one=>simp only[norm,kL,tE,den,mul_one,add_zero];rw[show(ofInt 1:F)=0+1 from rfl,zero_add]
theorem aLn{p q:Poly}(h:peq p q=true):p=q:=by
 induction p generalizing q with
 |nil=>cases q<;>simp_all [peq]
 |cons x p ih=>
  obtain⟨m,a⟩:=x;cases q with
  |nil=>simp[peq]at h
  |cons y q=>
   obtain⟨n,b⟩:=y;simp only[peq,dc,beq_iff_eq]at h;rw[aBP h.1.1,h.1.2,ih h.2]
theorem prove(l r:E)(h:peq l.norm r.norm=true):l.den ρ=r.den ρ:=by rw[<-aBT,<-aBT,aLn h]
end
end E
def tF{F:Type}[CR F](l:List F):Nat->F:=λi=>l.getD i 0
end
section
open CR
class OF (F:Type) extends CR F,Inv F where
 jA:∀ x:F,x≠0->x*x⁻¹=1
 inv_zero:(0:F)⁻¹=0
 aE:F->Int
 fU:∀ x:F,aE x=0↔x=0
 iJ:∀ x:F,aE x=-1\/aE x=0\/aE x=1
 pI:∀ x:F,aE (-x)=- aE x
 nt:∀ x y:F,aE (x*y)=aE x*aE y
 Ee:∀ x y:F,aE x=1->aE y=1->aE (x+y)=1
 IW:aE (1:F)=1
namespace OF
variable{F:Type}[OF F]
instance:LT F:=⟨λa b=>aE (b-a)=1⟩
instance:LE F:=⟨λa b=>aE (b-a)≠-1⟩
theorem lt_def(a b:F):(a<b)=(aE (b-a)=1):=rfl
theorem le_def(a b:F):(a<=b)=(aE (b-a)≠-1):=rfl
instance(a b:F):Decidable (a<b):=inferInstanceAs (Decidable (aE (b-a)=1))
instance(a b:F):Decidable (a<=b):=inferInstanceAs (Decidable (aE (b-a)≠-1))
theorem IX(a:F)(l r:E->E)(h:E.peq (l (.var 0)).norm (r (.var 0)).norm=true):(l (.var 0)).den (tF [a])=(r (.var 0)).den (tF [a]):=E.prove _ _ _ h
theorem iR(a b:F)(l r:E->E->E)(h:E.peq (l (.var 0) (.var 1)).norm (r (.var 0) (.var 1)).norm=true):
  (l (.var 0) (.var 1)).den (tF [a,b])=(r (.var 0) (.var 1)).den (tF [a,b]):=E.prove _ _ _ h
theorem j0(a b c:F)(l r:E->E->E->E)(h:E.peq (l (.var 0) (.var 1) (.var 2)).norm (r (.var 0) (.var 1) (.var 2)).norm=true):
  (l (.var 0) (.var 1) (.var 2)).den (tF [a,b,c])=(r (.var 0) (.var 1) (.var 2)).den (tF [a,b,c]):=E.prove _ _ _ h
theorem yv(a b c d:F)(l r:E->E->E->E->E)(h:E.peq (l (.var 0) (.var 1) (.var 2) (.var 3)).norm (r (.var 0) (.var 1) (.var 2) (.var 3)).norm=true):
  (l (.var 0) (.var 1) (.var 2) (.var 3)).den (tF [a,b,c,d])=(r (.var 0) (.var 1) (.var 2) (.var 3)).den (tF [a,b,c,d]):=E.prove _ _ _ h
theorem Gm(a b c d e:F)(l r:E->E->E->E->E->E)
  (h:E.peq (l (.var 0) (.var 1) (.var 2) (.var 3) (.var 4)).norm (r (.var 0) (.var 1) (.var 2) (.var 3) (.var 4)).norm=true) :
  (l (.var 0) (.var 1) (.var 2) (.var 3) (.var 4)).den (tF [a,b,c,d,e])=(r (.var 0) (.var 1) (.var 2) (.var 3) (.var 4)).den (tF [a,b,c,d,e]):=E.prove _ _ _ h
theorem aLo(a b c d e f:F)(l r:E->E->E->E->E->E->E)
  (h:E.peq (l (.var 0) (.var 1) (.var 2) (.var 3) (.var 4) (.var 5)).norm (r (.var 0) (.var 1) (.var 2) (.var 3) (.var 4) (.var 5)).norm=true) :
  (l (.var 0) (.var 1) (.var 2) (.var 3) (.var 4) (.var 5)).den (tF [a,b,c,d,e,f])=(r (.var 0) (.var 1) (.var 2) (.var 3) (.var 4) (.var 5)).den (tF [a,b,c,d,e,f]):=E.prove _ _ _ h
theorem sub_zero(a:F):a-0=a:=IX a (λa=>a-0) (λa=>a) d_
theorem sub_self(a:F):a-a=0:=IX a (λa=>a-a) (λ_=>0) d_
theorem sub_eq_zero{a b:F}:a-b=0↔a=b:=by
 constructor
 ·intro h;have:a=(a-b)+b:=iR a b (λa _=>a) (λa b=>(a-b)+b) d_;rw[this,h,CR.zero_add]
 ·rintro rfl;exact sub_self a
theorem gj{a:F}:0<a↔aE a=1:=by rw[lt_def,sub_zero]
theorem Gn{a:F}:a<0↔aE a=-1:=by rw[lt_def,show(0:F)-a=-a from IX a (λa=>0-a) (λa=>-a) d_,pI];omega
theorem Pp{a:F}:a=0↔aE a=0:=(fU a).symm
theorem Lk{a:F}:0<=a↔aE a≠-1:=by rw[le_def,sub_zero]
theorem UX{a:F}:a<=0↔aE a≠1:=by rw[le_def,show(0:F)-a=-a from IX a (λa=>0-a) (λa=>-a) d_,pI];omega
theorem neg_sub(a b:F):-(a-b)=b-a:=iR a b (λa b=>-(a-b)) (λa b=>b-a) d_
theorem AA(a b:F):aE (a-b)=- aE (b-a):=by rw[<-neg_sub,pI]
theorem lt_irrefl(a:F):¬a<a:=by rw[lt_def,sub_self,(fU (0:F)).2 rfl];decide
theorem not_lt{a b:F}:¬a<b↔b<=a:=by rw[lt_def,le_def,AA a b];omega
theorem not_le{a b:F}:¬a<=b↔b<a:=by rw[lt_def,le_def,AA a b];rcases iJ (b-a)with h|h|h<;>rw[h]<;>decide
theorem lt_trans{a b c:F}(h:a<b)(k:b<c):a<c:=by rw[lt_def]at *;rw[show c-a=(c-b)+(b-a)from j0 a b c (λa _ c=>c-a) (λa b c=>(c-b)+(b-a)) d_];exact Ee _ _ k h
theorem le_of_lt{a b:F}(h:a<b):a<=b:=by rw[lt_def]at h;rw[le_def,h];decide
theorem le_refl(a:F):a<=a:=by rw[le_def,sub_self,(fU (0:F)).2 rfl];decide
theorem le_of_eq{a b:F}(h:a=b):a<=b:=h▸le_refl a
theorem oz{a b:F}(h:a<=b):a<b\/a=b:=by
 rw[le_def]at h;rw[lt_def];rcases iJ (b-a)with k|k|k
 ·exact absurd k h
 ·exact .inr (sub_eq_zero.1 ((fU _).1 k)).symm
 ·exact .inl k
theorem lt_of_lt_of_le{a b c:F}(h:a<b)(k:b<=c):a<c:=by
 rcases oz k with k|rfl
 ·exact lt_trans h k
 ·exact h
theorem lt_of_le_of_lt{a b c:F}(h:a<=b)(k:b<c):a<c:=by
 rcases oz h with h|rfl
 ·exact lt_trans h k
 ·exact k
theorem le_trans{a b c:F}(h:a<=b)(k:b<=c):a<=c:=by
 rcases oz h with h|rfl
 ·exact le_of_lt (lt_of_lt_of_le h k)
 ·exact k
theorem le_antisymm{a b:F}(h:a<=b)(k:b<=a):a=b:=by
 rcases oz h with h|h
 ·exact absurd (lt_of_lt_of_le h k) (lt_irrefl a)
 ·exact h
theorem lt_trichotomy(a b:F):a<b\/a=b\/b<a:=by
 by_cases h:a<b
 ·exact .inl h
 ·rcases oz (not_lt.1 h)with h|h
  ·exact .inr (.inr h)
  ·exact .inr (.inl h.symm)
theorem le_total(a b:F):a<=b\/b<=a:=by
 by_cases h:a<b
 ·exact .inl (le_of_lt h)
 ·exact .inr (not_lt.1 h)
theorem ne_of_lt{a b:F}(h:a<b):a≠b:=λe=>lt_irrefl b (e▸h)
theorem ne_of_gt{a b:F}(h:a<b):b≠a:=λe=>lt_irrefl b (e▸h)
theorem sub_pos{a b:F}:0<b-a↔a<b:=by rw[gj,lt_def]
theorem sub_nonneg{a b:F}:0<=b-a↔a<=b:=by rw[Lk,le_def]
theorem add_pos{a b:F}(h:0<a)(k:0<b):0<a+b:=by rw[gj]at *;exact Ee _ _ h k
theorem add_nonneg{a b:F}(h:0<=a)(k:0<=b):0<=a+b:=by
 rcases oz h with h|h
 ·rcases oz k with k|k
  ·exact le_of_lt (add_pos h k)
  ·rw[<-k,CR.add_zero];exact le_of_lt h
 ·rw[<-h,CR.zero_add];exact k
theorem IY{a b:F}(h:0<a)(k:0<=b):0<a+b:=by
 rcases oz k with k|k
 ·exact add_pos h k
 ·rw[<-k,CR.add_zero];exact h
theorem aBU{a b:F}(h:0<=a)(k:0<b):0<a+b:=by rw[CR.add_comm];exact IY k h
theorem mul_pos{a b:F}(h:0<a)(k:0<b):0<a*b:=by rw[gj]at *;rw[nt,h,k];rfl
theorem mul_nonneg{a b:F}(h:0<=a)(k:0<=b):0<=a*b:=by
 rcases oz h with h|h
 ·rcases oz k with k|k
  ·exact le_of_lt (mul_pos h k)
  ·rw[<-k,CR.mul_zero];exact le_refl _
 ·rw[<-h,CR.zero_mul];exact le_refl _
theorem neg_pos{a:F}:0 < -a↔a<0:=by rw[gj,Gn,pI];omega
theorem neg_nonneg{a:F}:0<=-a↔a<=0:=by rw[Lk,UX,pI];omega
theorem Gp{a:F}:-a<0↔0<a:=by rw[gj,Gn,pI];omega
theorem Ef{a:F}:-a<=0↔0<=a:=by rw[Lk,UX,pI];omega
theorem zero_lt_one:(0:F)<1:=by rw[gj];exact IW
theorem nS(a:F):0<=a*a:=by rw[Lk,nt];rcases iJ a with h|h|h<;>rw[h]<;>decide
theorem UY{a:F}(h:a≠0):0<a*a:=by
 rw[gj,nt];rcases iJ a with k|k|k
 ·rw[k];decide
 ·exact absurd ((fU a).1 k) h
 ·rw[k];decide
theorem mul_eq_zero{a b:F}:a*b=0↔a=0\/b=0:=by rw[<-fU,nt,<-fU,<-fU,Int.mul_eq_zero]
theorem mul_ne_zero{a b:F}(h:a≠0)(k:b≠0):a*b≠0:=λe=>by
 rcases mul_eq_zero.1 e with e|e
 ·exact h e
 ·exact k e
theorem mul_lt_mul_left{a b c:F}(hc:0<c):c*a<c*b↔a<b:=by rw[lt_def,lt_def,show c*b-c*a=c*(b-a)from j0 a b c (λa b c=>c*b-c*a) (λa b c=>c*(b-a)) d_,nt,gj.1 hc,Pl]
theorem mul_le_mul_left{a b c:F}(hc:0<c):c*a<=c*b↔a<=b:=by rw[le_def,le_def,show c*b-c*a=c*(b-a)from j0 a b c (λa b c=>c*b-c*a) (λa b c=>c*(b-a)) d_,nt,gj.1 hc,Pl]
theorem add_lt_add_left{a b:F}(c:F):c+a<c+b↔a<b:=by rw[lt_def,lt_def,show c+b-(c+a)=b-a from j0 a b c (λa b c=>c+b-(c+a)) (λa b _=>b-a) d_]
theorem add_le_add_left{a b:F}(c:F):c+a<=c+b↔a<=b:=by rw[le_def,le_def,show c+b-(c+a)=b-a from j0 a b c (λa b c=>c+b-(c+a)) (λa b _=>b-a) d_]
theorem add_lt_add_right{a b:F}(c:F):a+c<b+c↔a<b:=by rw[CR.add_comm a,CR.add_comm b];exact add_lt_add_left c
theorem add_le_add_right{a b:F}(c:F):a+c<=b+c↔a<=b:=by rw[CR.add_comm a,CR.add_comm b];exact add_le_add_left c
theorem add_le_add{a b c d:F}(h:a<=b)(k:c<=d):a+c<=b+d:=le_trans ((add_le_add_right c).2 h) ((add_le_add_left b).2 k)
theorem add_lt_add{a b c d:F}(h:a<b)(k:c<d):a+c<b+d:=lt_trans ((add_lt_add_right c).2 h) ((add_lt_add_left b).2 k)
theorem add_lt_add_of_lt_of_le{a b c d:F}(h:a<b)(k:c<=d):a+c<b+d:=lt_of_lt_of_le ((add_lt_add_right c).2 h) ((add_le_add_left b).2 k)
theorem add_lt_add_of_le_of_lt{a b c d:F}(h:a<=b)(k:c<d):a+c<b+d:=lt_of_le_of_lt ((add_le_add_right c).2 h) ((add_lt_add_left b).2 k)
theorem inv_mul{a:F}(h:a≠0):a⁻¹*a=1:=by rw[CR.mul_comm,jA a h]
theorem aLp(a:F):aE a⁻¹=aE a:=by
 by_cases h:a=0
 ·rw[h,inv_zero]
 ·have:=nt a a⁻¹;rw[jA a h,IW]at this;rcases iJ a with k|k|k<;>rcases iJ a⁻¹ with l|l|l<;>rw[k,l]at this ⊢<;>omega
theorem inv_pos{a:F}(h:0<a):0<a⁻¹:=by rw[gj]at *;rw[aLp,h]
theorem Ll{u v:F}(h:v*v<u*u):aE (u+v)=aE u:=by
 have e:(u+v)*(u-v)=u*u-v*v:=iR u v (λu v=>(u+v)*(u-v)) (λu v=>u*u-v*v) d_;have s:aE (u+v)*aE (u-v)=1:=by rw[<-nt,e];exact h
 have t:(u+v)+(u-v)=u+u:=iR u v (λu v=>(u+v)+(u-v)) (λu _=>u+u) d_;have two:∀ x y:F,aE x=1->aE y=1->x+y=u+u->aE u=1:=by
  intro x y hx hy lj;have:=Ee x y hx hy;rw[lj]at this;rcases iJ u with k|k|k
  ·have h2:=Ee (-u) (-u) (by rw[pI,k];rfl) (by rw[pI,k];rfl);rw[<-CR.Az,pI,this]at h2;exact absurd h2 d_
  ·rw[(fU u).1 k,CR.add_zero,(fU (0:F)).2 rfl]at this;exact absurd this d_
  ·exact k
 rcases iJ (u+v)with k|k|k<;>rcases iJ (u-v)with l|l|l<;>rw[k,l]at s<;>first|exact absurd s d_|skip
 ·have h1:=Ee (-(u+v)) (-(u-v)) (by rw[pI,k];rfl) (by rw[pI,l];rfl);rw[<-CR.Az,t,CR.Az]at h1;rw[k];rcases iJ u with m|m|m
  ·exact m.symm
  ·rw[(fU u).1 m,CR.neg_zero,CR.add_zero,(fU (0:F)).2 rfl]at h1;exact absurd h1 d_
  ·have h2:=Ee u u m m;rw[<-CR.Az,pI,h2]at h1;exact absurd h1 d_
 ·rw[k,two _ _ k l t]
theorem Lm{a b:F}(h:0<a):aE (a*b)=aE b:=by rw[nt,gj.1 h,Pl]
theorem mul_lt_mul''{a b c d:F}(ha:0<=a)(h:a<b)(hc:0<=c)(k:c<d):a*c<b*d:=by have hb:=lt_of_le_of_lt ha h;have hd:=lt_of_le_of_lt hc k;have e:b*d-a*c=(b-a)*d+a*(d-c):=yv a b c d (λa b c d=>b*d-a*c) (λa b c d=>(b-a)*d+a*(d-c)) d_;rw[<-sub_pos,e];exact IY (mul_pos (sub_pos.2 h) hd) (mul_nonneg ha (sub_nonneg.2 (le_of_lt k)))
end OF
end
section
open CR OF
class yw (F:Type) [OF F] (s:F):Prop where
 pos:0<s
 UZ:∀ x y:F,x*x=s*(y*y)->y=0
@[ext] structure bO (F:Type) (s:F) where
 re:F
 im:F
namespace bO
variable{F:Type}[OF F]{s:F}
instance:Add (bO F s):=⟨λx y=>⟨x.re+y.re,x.im+y.im⟩⟩
instance:Mul (bO F s):=⟨λx y=>⟨x.re*y.re+s*(x.im*y.im),x.re*y.im+x.im*y.re⟩⟩
instance:Neg (bO F s):=⟨λx=>⟨-x.re,-x.im⟩⟩
instance:Sub (bO F s):=⟨λx y=>⟨x.re-y.re,x.im-y.im⟩⟩
instance:Zero (bO F s):=⟨⟨0,0⟩⟩
instance:One (bO F s):=⟨⟨1,0⟩⟩
def nm(x:bO F s):F:=x.re*x.re-s*(x.im*x.im)
instance:Inv (bO F s):=⟨λx=>⟨x.re*(nm x)⁻¹,-(x.im*(nm x)⁻¹)⟩⟩
def sg(x:bO F s):Int:=if aE (nm x)=1 then aE x.re else aE x.im
theorem U0(x y:bO F s):(x+y).re=x.re+y.re:=rfl
theorem U1(x y:bO F s):(x+y).im=x.im+y.im:=rfl
theorem IZ(x y:bO F s):(x*y).re=x.re*y.re+s*(x.im*y.im):=rfl
theorem I0(x y:bO F s):(x*y).im=x.re*y.im+x.im*y.re:=rfl
theorem Pq(x:bO F s):(-x).re=-x.re:=rfl
theorem Pr(x:bO F s):(-x).im=-x.im:=rfl
theorem I1:(0:bO F s).re=0:=rfl
theorem I2:(0:bO F s).im=0:=rfl
theorem U2:(1:bO F s).re=1:=rfl
theorem aBV:(1:bO F s).im=0:=rfl
theorem U3(x:bO F s):(x⁻¹).re=x.re*(nm x)⁻¹:=rfl
theorem U4(x:bO F s):(x⁻¹).im=-(x.im*(nm x)⁻¹):=rfl
theorem Ps(x y:bO F s):nm (x*y)=nm x*nm y:=by
 unfold nm;rw[IZ,I0]
 exact Gm x.re x.im y.re y.im s (λa b c d s=>(a*c+s*(b*d))*(a*c+s*(b*d))-s*((a*d+b*c)*(a*d+b*c)))
  (λa b c d s=>(a*a-s*(b*b))*(c*c-s*(d*d))) d_
theorem aBW(x:bO F s):nm (-x)=nm x:=by unfold nm;rw[Pq,Pr];exact j0 x.re x.im s (λa b s=>-a*-a-s*(-b*-b)) (λa b s=>a*a-s*(b*b)) d_
theorem tG{x:bO F s}(h:aE (nm x)=1):sg x=aE x.re:=by unfold sg;rw[aA h]
theorem uN{x:bO F s}(h:aE (nm x)=-1):sg x=aE x.im:=by unfold sg;rw[au (by rw[h];decide)]
theorem I3:sg (0:bO F s)=0:=by unfold sg;split<;>exact(fU _).2 rfl
theorem U5(x:bO F s):sg (-x)=- sg x:=by unfold sg;rw[aBW,Pq,Pr,OF.pI,OF.pI];split<;>rfl
theorem aLq(x:bO F s):sg x=-1\/sg x=0\/sg x=1:=by unfold sg;split<;>exact iJ _
theorem Pt(x:bO F s):(-x).re*(-x).re=x.re*x.re/\(-x).im*(-x).im=x.im*x.im:=by rw[Pq,Pr];exact⟨IX x.re (λa=>-a*-a) (λa=>a*a) d_,IX x.im (λa=>-a*-a) (λa=>a*a) d_⟩
theorem aLr(x y:bO F s):x+y=y+x:=bO.ext (CR.add_comm _ _) (CR.add_comm _ _)
theorem aLs:sg (1:bO F s)=1:=by
 have:nm (1:bO F s)=1:=by unfold nm;rw[U2,aBV,CR.mul_zero,CR.mul_zero,OF.sub_zero,CR.one_mul]
 rw[tG (by rw[this];exact IW),U2];exact IW
variable[hs:yw F s]
theorem Pu{x:bO F s}(h:nm x=0):x=0:=by
 have h1:=OF.sub_eq_zero.1 h;have h2:=yw.UZ _ _ h1;have h3:x.re=0:=by rw[h2,CR.mul_zero,CR.mul_zero]at h1;rcases mul_eq_zero.1 h1 with h|h<;>exact h
 exact bO.ext h3 h2
theorem ways(x:bO F s):x=0\/(aE (nm x)=1/\s*(x.im*x.im)<x.re*x.re)\/(aE (nm x)=-1/\x.re*x.re<s*(x.im*x.im)):=by
 rcases OF.lt_trichotomy (x.re*x.re) (s*(x.im*x.im))with h|h|h
 ·refine .inr (.inr ⟨?_,h⟩);unfold nm;rw[AA,show aE (s*(x.im*x.im)-x.re*x.re)=1 from h]
 ·exact .inl (Pu (OF.sub_eq_zero.2 h))
 ·exact .inr (.inl ⟨h,h⟩)
theorem aLt:aE s=1:=gj.1 (yw.pos (F:=F) (s:=s))
theorem aLu(x y:bO F s):sg (x*y)=sg x*sg y:=by
 have hz:∀ z:bO F s,(0:bO F s)*z=0:=λz=>by
  apply bO.ext
  ·rw[IZ,I1,I2,CR.zero_mul,CR.zero_mul,CR.mul_zero,CR.add_zero]
  ·rw[I0,I1,I2,CR.zero_mul,CR.zero_mul,CR.add_zero]
 have oO:∀ z:bO F s,z*(0:bO F s)=0:=λz=>by
  apply bO.ext
  ·rw[IZ,I1,I2,CR.mul_zero,CR.mul_zero,CR.mul_zero,CR.add_zero]
  ·rw[I0,I1,I2,CR.mul_zero,CR.mul_zero,CR.add_zero]
 have hp:=yw.pos (F:=F) (s:=s);rcases ways x with rfl|⟨hx,lx⟩|⟨hx,lx⟩
 ·rw[hz,I3,Int.zero_mul]
 ·rcases ways y with rfl|⟨hy,ly⟩|⟨hy,ly⟩
  ·rw[oO,I3,Int.mul_zero]
  ·have hn:aE (nm (x*y))=1:=by rw[Ps,nt,hx,hy];rfl
   rw[tG hx,tG hy,tG hn,<-nt,IZ];apply Ll;have:=mul_lt_mul'' (mul_nonneg (le_of_lt hp) (nS _)) lx (mul_nonneg (le_of_lt hp) (nS _)) ly;rw[show s*(x.im*y.im)*(s*(x.im*y.im))=s*(x.im*x.im)*(s*(y.im*y.im))from j0 x.im y.im s (λb d s=>s*(b*d)*(s*(b*d))) (λb d s=>s*(b*b)*(s*(d*d))) d_];rw[show x.re*y.re*(x.re*y.re)=x.re*x.re*(y.re*y.re)from iR x.re y.re (λa c=>a*c*(a*c)) (λa c=>a*a*(c*c)) d_];exact this
  ·have hn:aE (nm (x*y))=-1:=by rw[Ps,nt,hx,hy];rfl
   rw[tG hx,uN hy,uN hn,<-nt,I0];apply Ll;have:=mul_lt_mul'' (mul_nonneg (le_of_lt hp) (nS _)) lx (nS _) ly;rw[<-mul_lt_mul_left hp];rw[show s*(x.im*y.re*(x.im*y.re))=s*(x.im*x.im)*(y.re*y.re)from j0 x.im y.re s (λb c s=>s*(b*c*(b*c))) (λb c s=>s*(b*b)*(c*c)) d_];rw[show s*(x.re*y.im*(x.re*y.im))=x.re*x.re*(s*(y.im*y.im))from j0 x.re y.im s (λa d s=>s*(a*d*(a*d))) (λa d s=>a*a*(s*(d*d))) d_];exact this
 ·rcases ways y with rfl|⟨hy,ly⟩|⟨hy,ly⟩
  ·rw[oO,I3,Int.mul_zero]
  ·have hn:aE (nm (x*y))=-1:=by rw[Ps,nt,hx,hy];rfl
   rw[uN hx,tG hy,uN hn,<-nt,I0,CR.add_comm];apply Ll;have:=mul_lt_mul'' (nS _) lx (mul_nonneg (le_of_lt hp) (nS _)) ly;rw[<-mul_lt_mul_left hp];rw[show s*(x.im*y.re*(x.im*y.re))=s*(x.im*x.im)*(y.re*y.re)from j0 x.im y.re s (λb c s=>s*(b*c*(b*c))) (λb c s=>s*(b*b)*(c*c)) d_];rw[show s*(x.re*y.im*(x.re*y.im))=x.re*x.re*(s*(y.im*y.im))from j0 x.re y.im s (λa d s=>s*(a*d*(a*d))) (λa d s=>a*a*(s*(d*d))) d_];exact this
  ·have hn:aE (nm (x*y))=1:=by rw[Ps,nt,hx,hy];rfl
   rw[uN hx,uN hy,tG hn,<-nt,IZ,CR.add_comm];rw[show aE (x.im*y.im)=aE (s*(x.im*y.im))by rw[Lm hp]];apply Ll;have:=mul_lt_mul'' (nS _) lx (nS _) ly;rw[show s*(x.im*y.im)*(s*(x.im*y.im))=s*(x.im*x.im)*(s*(y.im*y.im))from j0 x.im y.im s (λb d s=>s*(b*d)*(s*(b*d))) (λb d s=>s*(b*b)*(s*(d*d))) d_];rw[show x.re*y.re*(x.re*y.re)=x.re*x.re*(y.re*y.re)from iR x.re y.re (λa c=>a*c*(a*c)) (λa c=>a*a*(c*c)) d_];exact this
theorem aLv(x:bO F s):sg x=0↔x=0:=by
 constructor
 ·intro h;rcases ways x with rfl|⟨hx,lx⟩|⟨hx,lx⟩
  ·rfl
  ·rw[tG hx]at h;rw[(fU _).1 h,CR.mul_zero]at lx;exact absurd (lt_of_le_of_lt (mul_nonneg (le_of_lt (yw.pos (F:=F) (s:=s))) (nS _)) lx) (OF.lt_irrefl _)
  ·rw[uN hx]at h;rw[(fU _).1 h,CR.mul_zero,CR.mul_zero]at lx;exact absurd (lt_of_le_of_lt (nS _) lx) (OF.lt_irrefl _)
 ·rintro rfl;exact I3
theorem aBX{u v:F}(hu:0<u)(h:v*v<u*u):0<u+v:=by rw[gj,Ll h];exact gj.1 hu
theorem add_one{x y:bO F s}(hx:s*(x.im*x.im)<x.re*x.re)(hy:s*(y.im*y.im)<y.re*y.re)(px:0<x.re)(py:0<y.re):sg (x+y)=1:=by
 have hp:=yw.pos (F:=F) (s:=s);have:=mul_lt_mul'' (mul_nonneg (le_of_lt hp) (nS _)) hx (mul_nonneg (le_of_lt hp) (nS _)) hy;have h1:0<x.re*y.re+-(s*(x.im*y.im)):=by apply aBX (mul_pos px py);rw[show -(s*(x.im*y.im))*-(s*(x.im*y.im))=s*(x.im*x.im)*(s*(y.im*y.im))from j0 x.im y.im s (λb d s=>-(s*(b*d))*-(s*(b*d))) (λb d s=>s*(b*b)*(s*(d*d))) d_];rw[show x.re*y.re*(x.re*y.re)=x.re*x.re*(y.re*y.re)from iR x.re y.re (λa c=>a*c*(a*c)) (λa c=>a*a*(c*c)) d_];exact this
 have hn:aE (nm (x+y))=1:=by
  rw[<-gj];unfold nm;rw[U0,U1];rw[show(x.re+y.re)*(x.re+y.re)-s*((x.im+y.im)*(x.im+y.im))=(x.re*x.re-s*(x.im*x.im))+(y.re*y.re-s*(y.im*y.im))+((x.re*y.re+-(s*(x.im*y.im)))+(x.re*y.re+-(s*(x.im*y.im))))from
   Gm x.re x.im y.re y.im s (λa b c d s=>(a+c)*(a+c)-s*((b+d)*(b+d))) (λa b c d s=>(a*a-s*(b*b))+(c*c-s*(d*d))+((a*c+-(s*(b*d)))+(a*c+-(s*(b*d))))) d_]
  exact add_pos (add_pos (sub_pos.2 hx) (sub_pos.2 hy)) (add_pos h1 h1)
 rw[tG hn,U0];exact gj.1 (add_pos px py)
theorem aBY{x y:bO F s}(hx:x.re*x.re<s*(x.im*x.im))(hy:y.re*y.re<s*(y.im*y.im))(px:0<x.im)(py:0<y.im):sg (x+y)=1:=by
 have hp:=yw.pos (F:=F) (s:=s);have:=mul_lt_mul'' (nS _) hx (nS _) hy;have h1:0<s*(x.im*y.im)+-(x.re*y.re):=by apply aBX (mul_pos hp (mul_pos px py));rw[show s*(x.im*y.im)*(s*(x.im*y.im))=s*(x.im*x.im)*(s*(y.im*y.im))from j0 x.im y.im s (λb d s=>s*(b*d)*(s*(b*d))) (λb d s=>s*(b*b)*(s*(d*d))) d_];rw[show -(x.re*y.re)*-(x.re*y.re)=x.re*x.re*(y.re*y.re)from iR x.re y.re (λa c=>-(a*c)*-(a*c)) (λa c=>a*a*(c*c)) d_];exact this
 have hn:aE (nm (x+y))=-1:=by
  rw[<-Gn,<-neg_pos];unfold nm;rw[U0,U1];rw[show -((x.re+y.re)*(x.re+y.re)-s*((x.im+y.im)*(x.im+y.im)))=(s*(x.im*x.im)-x.re*x.re)+(s*(y.im*y.im)-y.re*y.re)+((s*(x.im*y.im)+-(x.re*y.re))+(s*(x.im*y.im)+-(x.re*y.re)))from
   Gm x.re x.im y.re y.im s (λa b c d s=>-((a+c)*(a+c)-s*((b+d)*(b+d)))) (λa b c d s=>(s*(b*b)-a*a)+(s*(d*d)-c*c)+((s*(b*d)+-(a*c))+(s*(b*d)+-(a*c)))) d_]
  exact add_pos (add_pos (sub_pos.2 hx) (sub_pos.2 hy)) (add_pos h1 h1)
 rw[uN hn,U1];exact gj.1 (add_pos px py)
theorem aLw(x y:bO F s)(hx:sg x=1)(hy:sg y=1):sg (x+y)=1:=by
 have ne:∀ z:bO F s,sg z=1->z≠0:=λz h e=>by rw[e,I3]at h;exact absurd h d_
 -- the first part of x aWP,the second one of y
 have mixed:∀ x y:bO F s,sg x=1->sg y=1->aE (nm x)=1->s*(x.im*x.im)<x.re*x.re->aE (nm y)=-1->y.re*y.re<s*(y.im*y.im)->sg (x+y)=1:=by
  intro x y hx hy nx lx ny ly;rw[tG nx]at hx;rw[uN ny]at hy;rcases ways (x+y)with h|⟨hn,ln⟩|⟨hn,ln⟩
  ·have:y=-x:=by have h1:x.re+y.re=0:=cS bO.re h;have h2:x.im+y.im=0:=cS bO.im h;exact bO.ext (CR.IU h1) (CR.IU h2)
   rw[this,aBW,nx]at ny;exact absurd ny d_
  ·rw[tG hn];rcases iJ (x+y).re with k|k|k
   ·-- then -(x+y) and x add up to -y
    have h3:=add_one (x:=-(x+y)) (y:=x) (by rw[(Pt _).1,(Pt _).2];exact ln) lx (by rw[Pq];exact neg_pos.2 (Gn.2 k)) (gj.2 hx);have h4:-(x+y)+x=-y:=bO.ext (iR x.re y.re (λa c=>-(a+c)+a) (λ_ c=>-c) d_) (iR x.im y.im (λa c=>-(a+c)+a) (λ_ c=>-c) d_);rw[h4,U5,uN ny,hy]at h3;exact absurd h3 d_
   ·have k0:=(fU _).1 k;rw[k0,CR.mul_zero]at ln;exact absurd (lt_of_le_of_lt (mul_nonneg (le_of_lt (yw.pos (F:=F) (s:=s))) (nS _)) ln) (OF.lt_irrefl _)
   ·exact k
  ·rw[uN hn];rcases iJ (x+y).im with k|k|k
   ·have h3:=aBY (x:=-(x+y)) (y:=y) (by rw[(Pt _).1,(Pt _).2];exact ln) ly (by rw[Pr];exact neg_pos.2 (Gn.2 k)) (gj.2 hy);have h4:-(x+y)+y=-x:=bO.ext (iR x.re y.re (λa c=>-(a+c)+c) (λa _=>-a) d_) (iR x.im y.im (λa c=>-(a+c)+c) (λa _=>-a) d_);rw[h4,U5,tG nx,hx]at h3;exact absurd h3 d_
   ·have k0:=(fU _).1 k;rw[k0,CR.mul_zero,CR.mul_zero]at ln;exact absurd (lt_of_le_of_lt (nS _) ln) (OF.lt_irrefl _)
   ·exact k
 rcases ways x with h|⟨nx,lx⟩|⟨nx,lx⟩
 ·exact absurd h (ne x hx)
 ·rcases ways y with h|⟨ny,ly⟩|⟨ny,ly⟩
  ·exact absurd h (ne y hy)
  ·rw[tG nx]at hx;rw[tG ny]at hy;exact add_one lx ly (gj.2 hx) (gj.2 hy)
  ·exact mixed x y hx hy nx lx ny ly
 ·rcases ways y with h|⟨ny,ly⟩|⟨ny,ly⟩
  ·exact absurd h (ne y hy)
  ·rw[aLr];exact mixed y x hy hx ny ly nx lx
  ·rw[uN nx]at hx;rw[uN ny]at hy;exact aBY lx ly (gj.2 hx) (gj.2 hy)
instance:OF (bO F s) where
 add_assoc a b c:=bO.ext (CR.add_assoc _ _ _) (CR.add_assoc _ _ _)
 add_comm a b:=bO.ext (CR.add_comm _ _) (CR.add_comm _ _)
 zero_add a:=bO.ext (CR.zero_add _) (CR.zero_add _)
 neg_add a:=bO.ext (CR.neg_add _) (CR.neg_add _)
 mul_assoc x y z:=bO.ext
  (E.prove (tF [x.re,x.im,y.re,y.im,z.re,z.im,s]) ((E.var 0*E.var 2+E.var 6*(E.var 1*E.var 3))*E.var 4+E.var 6*((E.var 0*E.var 3+E.var 1*E.var 2)*E.var 5))
   (E.var 0*(E.var 2*E.var 4+E.var 6*(E.var 3*E.var 5))+E.var 6*(E.var 1*(E.var 2*E.var 5+E.var 3*E.var 4))) d_)
  (E.prove (tF [x.re,x.im,y.re,y.im,z.re,z.im,s]) ((E.var 0*E.var 2+E.var 6*(E.var 1*E.var 3))*E.var 5+(E.var 0*E.var 3+E.var 1*E.var 2)*E.var 4)
   (E.var 0*(E.var 2*E.var 5+E.var 3*E.var 4)+E.var 1*(E.var 2*E.var 4+E.var 6*(E.var 3*E.var 5))) d_)
 mul_comm x y:=bO.ext
  (Gm x.re x.im y.re y.im s (λa b c d s=>a*c+s*(b*d)) (λa b c d s=>c*a+s*(d*b)) d_)
  (yv x.re x.im y.re y.im (λa b c d=>a*d+b*c) (λa b c d=>c*b+d*a) d_)
 one_mul x:=bO.ext
  (j0 x.re x.im s (λa b s=>1*a+s*(0*b)) (λa _ _=>a) d_)
  (iR x.re x.im (λa b=>1*b+0*a) (λ_ b=>b) d_)
 mul_add x y z:=bO.ext
  (E.prove (tF [x.re,x.im,y.re,y.im,z.re,z.im,s]) (E.var 0*(E.var 2+E.var 4)+E.var 6*(E.var 1*(E.var 3+E.var 5)))
   ((E.var 0*E.var 2+E.var 6*(E.var 1*E.var 3))+(E.var 0*E.var 4+E.var 6*(E.var 1*E.var 5))) d_)
  (aLo x.re x.im y.re y.im z.re z.im (λa b c d e f=>a*(d+f)+b*(c+e)) (λa b c d e f=>(a*d+b*c)+(a*f+b*e)) d_)
 sub_def a b:=bO.ext (CR.sub_def _ _) (CR.sub_def _ _)
 jA x h:=by
  have hn:nm x≠0:=λe=>h (Pu e);have h1:=jA (nm x) hn;apply bO.ext
  ·rw[IZ,U3,U4,U2,<-h1];exact yv x.re x.im s (nm x)⁻¹ (λa b s n=>a*(a*n)+s*(b*-(b*n))) (λa b s n=>(a*a-s*(b*b))*n) d_
  ·rw[I0,U3,U4,aBV];exact j0 x.re x.im (nm x)⁻¹ (λa b n=>a*-(b*n)+b*(a*n)) (λ_ _ _=>0) d_
 inv_zero:=by
  apply bO.ext
  ·rw[U3,I1,CR.zero_mul]
  ·rw[U4,I2,CR.zero_mul,CR.neg_zero]
 aE:=sg
 fU:=aLv
 iJ:=aLq
 pI:=U5
 nt:=aLu
 Ee:=aLw
 IW:=aLs
end bO
theorem CB(q:Rat):q.num.sign=1↔0<q:=by rw[Int.sign_eq_one_iff_pos,Rat.lt_iff];simp
theorem I4(q:Rat):q.num.sign=-1↔q<0:=by rw[aLx,Rat.lt_iff];simp
theorem I5(q:Rat):q.num.sign=0↔q=0:=by rw[aLy];exact Rat.num_eq_zero
theorem U6(q:Rat):q.num.sign=-1\/q.num.sign=0\/q.num.sign=1:=by
 rcases Pv q.num 0 with h|h|h
 ·exact .inl (aLx.2 h)
 ·exact .inr (.inl (aLy.2 h))
 ·exact .inr (.inr (Int.sign_eq_one_iff_pos.2 h))
instance:OF Rat where
 add_assoc:=Rat.add_assoc
 add_comm:=Rat.add_comm
 zero_add:=Rat.zero_add
 neg_add:=Rat.neg_add_cancel
 mul_assoc:=Rat.mul_assoc
 mul_comm:=Rat.mul_comm
 one_mul:=Rat.one_mul
 mul_add:=Rat.mul_add
 sub_def:=Rat.sub_eq_add_neg
 jA:=λx h=>I6 x h
 inv_zero:=Rat.inv_zero
 aE q:=q.num.sign
 fU:=I5
 iJ:=U6
 pI q:=by rw[Rat.neg_num,Int.sign_neg]
 nt x y:=by
  rcases U6 x with h|h|h<;>rcases U6 y with k|k|k<;>rw[h,k]
  ·exact(CB _).2 (by have:=(I4 _).1 h;have:=(I4 _).1 k;have h2:=U7 (a:=-x) (b:=-y) (by grind) (by grind);grind)
  ·rw[(I5 y).1 k,Rat.mul_zero];rfl
  ·exact(I4 _).2 (by have:=(I4 _).1 h;have:=(CB _).1 k;have h2:=U7 (a:=-x) (b:=y) (by grind) (by grind);grind)
  ·rw[(I5 x).1 h,Rat.zero_mul];rfl
  ·rw[(I5 x).1 h,Rat.zero_mul];rfl
  ·rw[(I5 x).1 h,Rat.zero_mul];rfl
  ·exact(I4 _).2 (by have:=(CB _).1 h;have:=(I4 _).1 k;have h2:=U7 (a:=x) (b:=-y) (by grind) (by grind);grind)
  ·rw[(I5 y).1 k,Rat.mul_zero];rfl
  ·exact(CB _).2 (U7 ((CB _).1 h) ((CB _).1 k))
 Ee x y h k:=(CB _).2 (by have:=(CB _).1 h;have:=(CB _).1 k;grind)
 IW:=rfl
theorem aLz(n:Nat)(hn:n=2\/n=3\/n=6)(p q:Nat)(h:p*p=n*(q*q))(hc:Nat.gcd p q=1):False:=by
 rcases hn with rfl|rfl|rfl
 ·have h1:p%2=0:=by
   have:(p*p)%2=0:=by rw[h];omega
   rcases U8 p with k|k
   ·exact k
   ·rw[Ln,k]at this;exact absurd this d_
  obtain⟨r,rfl⟩:∃ r,p=2*r:=⟨p/2,by omega⟩;have h2:q*q=2*(r*r):=by
   have:2*r*(2*r)=2*(2*(r*r)):=by simp only[gA,nO]
   omega
  have h3:q%2=0:=by
   have:(q*q)%2=0:=by rw[h2];omega
   rcases U8 q with k|k
   ·exact k
   ·rw[Ln,k]at this;exact absurd this d_
  have:=I7 (Lo h1) (Lo h3);rw[hc]at this;exact absurd this d_
 ·have m3:∀ k:Nat,(k*k)%3=0->k%3=0:=by
   intro k hk;have:k%3=0\/k%3=1\/k%3=2:=by omega
   rcases this with e|e|e
   ·exact e
   ·rw[Ln,e]at hk;exact absurd hk d_
   ·rw[Ln,e]at hk;exact absurd hk d_
  have h1:p%3=0:=m3 p (by rw[h];omega);obtain⟨r,rfl⟩:∃ r,p=3*r:=⟨p/3,by omega⟩;have h2:q*q=3*(r*r):=by
   have:3*r*(3*r)=3*(3*(r*r)):=by simp only[gA,nO]
   omega
  have h3:q%3=0:=m3 q (by rw[h2];omega);have:=I7 (Lo h1) (Lo h3);rw[hc]at this;exact absurd this d_
 ·have h1:p%2=0:=by
   have:(p*p)%2=0:=by rw[h];omega
   rcases U8 p with k|k
   ·exact k
   ·rw[Ln,k]at this;exact absurd this d_
  obtain⟨r,rfl⟩:∃ r,p=2*r:=⟨p/2,by omega⟩;have h2:3*(q*q)=2*(r*r):=by
   have:2*r*(2*r)=2*(2*(r*r)):=by simp only[gA,nO]
   omega
  have h3:q%2=0:=by
   have:(q*q)%2=0:=by omega
   rcases U8 q with k|k
   ·exact k
   ·rw[Ln,k]at this;exact absurd this d_
  have:=I7 (Lo h1) (Lo h3);rw[hc]at this;exact absurd this d_
theorem U9(n:Nat)(hn:n=2\/n=3\/n=6)(x:Rat)(h:x*x=(n:Rat)):False:=by
 have hd:(x.den:Rat)≠0:=by have:=x.den_nz;simpa[Rat.natCast_eq_zero_iff]using this
 have e:(x.num:Rat)*x.num=n*(x.den*x.den):=by
  have h3:x*(x.den:Rat)=x.num:=by have h4:(x.num:Rat)/x.den*x.den=x.num:=aBZ hd;rw[<-Rat.mkRat_eq_div,Rat.mkRat_self]at h4;exact h4
  rw[<-h3,<-h];grind
 have e':x.num*x.num=n*(x.den*x.den):=by
  have:((x.num*x.num:Int):Rat)=((n*(x.den*x.den):Int):Rat):=by simp only[Eg,Rat.intCast_natCast];exact e
  exact Rat.intCast_inj.1 this
 have e'':x.num.natAbs*x.num.natAbs=n*(x.den*x.den):=by have:=cS Int.natAbs e';rw[yx]at this;rw[this];simp[yx]
 exact aLz n hn _ _ e'' x.reduced
theorem aLA{x y c:Rat}(h:x*x=c*(y*y))(hy:y≠0):(x*y⁻¹)*(x*y⁻¹)=c:=by
 have:=I6 y hy;have e:(x*y⁻¹)*(x*y⁻¹)=(x*x)*(y⁻¹*y⁻¹):=by grind
 rw[e,h];grind
instance aWQ:yw Rat 2 where
 pos:=by rw[gj];rfl
 UZ x y h:=by
  by_cases hy:y=0
  ·exact hy
  ·exact(U9 2 (.inl rfl) _ (aLA h hy)).elim
abbrev K2:=bO Rat 2
def yy:K2:=⟨3,0⟩
theorem aLB(x:K2)(h:x*x=yy):False:=by
 have h1:x.re*x.re+2*(x.im*x.im)=3:=cS bO.re h;have h2:x.re*x.im+x.im*x.re=0:=cS bO.im h;have h3:x.re=0\/x.im=0:=by
  have:x.re*x.im=0:=by grind
  exact Rat.mul_eq_zero.1 this
 rcases h3 with h3|h3
 ·have:(2*x.im)*(2*x.im)=((6:Nat):Rat):=by rw[h3]at h1;have:((6:Nat):Rat)=6:=rfl;grind
  exact U9 6 (.inr (.inr rfl)) _ this
 ·have:x.re*x.re=((3:Nat):Rat):=by rw[h3]at h1;have:((3:Nat):Rat)=3:=rfl;grind
  exact U9 3 (.inr (.inl rfl)) _ this
instance aWR:yw K2 yy where
 pos:=by rw[gj];decide +kernel
 UZ x y h:=by
  by_cases hy:y=0
  ·exact hy
  ·refine(aLB (x*y⁻¹) ?_).elim;have h1:=OF.jA y hy;rw[show x*y⁻¹*(x*y⁻¹)=x*x*(y⁻¹*y⁻¹)from iR x y⁻¹ (λx i=>x*i*(x*i)) (λx i=>x*x*(i*i)) d_,h];rw[show yy*(y*y)*(y⁻¹*y⁻¹)=yy*((y*y⁻¹)*(y*y⁻¹))from j0 y y⁻¹ yy (λy i t=>t*(y*y)*(i*i)) (λy i t=>t*((y*i)*(y*i))) d_,h1,CR.mul_one,CR.mul_one]
abbrev K:=bO K2 yy
instance:OF K:=inferInstance
instance:DecidableEq K2:=λx y=>decidable_of_iff (x.re=y.re/\x.im=y.im) ⟨λh=>bO.ext h.1 h.2,λh=>by subst h;exact⟨rfl,rfl⟩⟩
instance:DecidableEq K:=λx y=>decidable_of_iff (x.re=y.re/\x.im=y.im) ⟨λh=>bO.ext h.1 h.2,λh=>by subst h;exact⟨rfl,rfl⟩⟩
structure Fr where
 a:Int
 b:Int
 c:Int
 e:Int
 d:Int
theorem Fr.ext'{x y:Fr}(h1:x.a=y.a)(h2:x.b=y.b)(h3:x.c=y.c)(h4:x.e=y.e)(h5:x.d=y.d):x=y:=by cases x;cases y;simp at *;exact⟨h1,h2,h3,h4,h5⟩
def Fr.val(x:Fr):K:=⟨⟨Rat.divInt x.a x.d,Rat.divInt x.b x.d⟩,⟨Rat.divInt x.c x.d,Rat.divInt x.e x.d⟩⟩
def Fr.g(x:Fr):Nat:=Nat.gcd (Nat.gcd (Nat.gcd (Nat.gcd x.d.natAbs x.a.natAbs) x.b.natAbs) x.c.natAbs) x.e.natAbs
structure Fr.qo(x:Fr):Prop where
 pos:0<x.d
 one:x.g=1
theorem aLC{x:Fr}(hd:k ∣ x.d.natAbs)(ha:k ∣ x.a.natAbs)(hb:k ∣ x.b.natAbs)(hc:k ∣ x.c.natAbs)(he:k ∣ x.e.natAbs):k ∣ x.g:=
 I7 (I7 (I7 (I7 hd ha) hb) hc) he
theorem Gq(x:Fr):x.g ∣ x.d.natAbs:=Eh (Eh (Eh (CC _ _) (CC _ _)) (CC _ _)) (CC _ _)
theorem Pw(x:Fr):x.g ∣ x.a.natAbs:=Eh (Eh (Eh (CC _ _) (CC _ _)) (CC _ _)) (Va _ _)
theorem Px(x:Fr):x.g ∣ x.b.natAbs:=Eh (Eh (CC _ _) (CC _ _)) (Va _ _)
theorem Py(x:Fr):x.g ∣ x.c.natAbs:=Eh (CC _ _) (Va _ _)
theorem Pz(x:Fr):x.g ∣ x.e.natAbs:=Va _ _
theorem aB0(x:Fr)(k:Nat):(Fr.mk (x.a*k) (x.b*k) (x.c*k) (x.e*k) (x.d*k)).g=x.g*k:=by unfold Fr.g;simp only[yx,AB,Nat.gcd_mul_right]
theorem aB1{x y:Fr}(hx:x.qo)(hy:y.qo)(h:x.val=y.val):x.d.natAbs ∣ y.d.natAbs:=by
 have yz:x.d≠0:=by have:=hx.pos;omega
 have wY:y.d≠0:=by have:=hy.pos;omega
 have hr:=cS bO.re h;have hi:=cS bO.im h;have h1:Rat.divInt x.a x.d=Rat.divInt y.a y.d:=cS bO.re hr;have h2:Rat.divInt x.b x.d=Rat.divInt y.b y.d:=cS bO.im hr;have h3:Rat.divInt x.c x.d=Rat.divInt y.c y.d:=cS bO.re hi;have h4:Rat.divInt x.e x.d=Rat.divInt y.e y.d:=cS bO.im hi;rw[Rat.divInt_eq_divInt_iff yz wY]at h1 h2 h3 h4;have key:∀ u v:Int,u*y.d=v*x.d->x.d.natAbs ∣ (u*(y.d.natAbs:Int)).natAbs:=by
  intro u v e;have e2:(u*(y.d.natAbs:Int)).natAbs=(u*y.d).natAbs:=by simp[yx]
  rw[e2,e,yx];exact Nat.dvd_mul_left _ _
 have:=aLC (x:=Fr.mk (x.a*(y.d.natAbs:Int)) (x.b*(y.d.natAbs:Int)) (x.c*(y.d.natAbs:Int)) (x.e*(y.d.natAbs:Int)) (x.d*(y.d.natAbs:Int))) (k:=x.d.natAbs)
  (by rw[yx];exact Nat.dvd_mul_right _ _) (key _ _ h1) (key _ _ h2) (key _ _ h3) (key _ _ h4)
 rw[aB0,hx.one,qT]at this;exact this
theorem aB2{x y:Fr}(hx:x.qo)(hy:y.qo)(h:x.val=y.val):x=y:=by
 have iS:=hx.pos;have hyp:=hy.pos;have hd:x.d=y.d:=by have:=Nat.dvd_antisymm (aB1 hx hy h) (aB1 hy hx h.symm);omega
 have yz:x.d≠0:=by omega
 have wY:y.d≠0:=by omega
 have hr:=cS bO.re h;have hi:=cS bO.im h;have h1:Rat.divInt x.a x.d=Rat.divInt y.a y.d:=cS bO.re hr;have h2:Rat.divInt x.b x.d=Rat.divInt y.b y.d:=cS bO.im hr;have h3:Rat.divInt x.c x.d=Rat.divInt y.c y.d:=cS bO.re hi;have h4:Rat.divInt x.e x.d=Rat.divInt y.e y.d:=cS bO.im hi;rw[Rat.divInt_eq_divInt_iff yz wY,hd]at h1 h2 h3 h4;exact Fr.ext' (Vb wY h1) (Vb wY h2) (Vb wY h3) (Vb wY h4) hd
def Fr.s(x:Fr):Int:=if x.d<0 then -(x.g:Int)else x.g
def Fr.low(x:Fr):Fr:=⟨x.a/x.s,x.b/x.s,x.c/x.s,x.e/x.s,x.d/x.s⟩
theorem Vc{x:Fr}(hd:x.d≠0):0<x.g:=Nat.pos_of_dvd_of_pos (Gq x) o_
theorem Vd{x:Fr}(hd:x.d≠0):x.s≠0:=by have:=Vc hd;unfold Fr.s;split<;>omega
theorem PA(x:Fr):x.s.natAbs=x.g:=by unfold Fr.s;split<;>simp
theorem Ei{x:Fr}{u:Int}(h:x.g ∣ u.natAbs):x.s ∣ u:=by rw[<-Int.natAbs_dvd_natAbs,PA];exact h
theorem aB3{x:Fr}:x.a=x.low.a*x.s/\x.b=x.low.b*x.s/\x.c=x.low.c*x.s/\x.e=x.low.e*x.s/\x.d=x.low.d*x.s:=
 ⟨(PB (Ei (Pw x))).symm,(PB (Ei (Px x))).symm,(PB (Ei (Py x))).symm,(PB (Ei (Pz x))).symm,(PB (Ei (Gq x))).symm⟩
theorem aB4{x:Fr}(hd:x.d≠0):x.low.val=x.val:=by obtain⟨h1,h2,h3,h4,h5⟩:=aB3 (x:=x);have hs:=Vd hd;have key:∀ u v:Int,Rat.divInt u x.low.d=Rat.divInt (u*x.s) (x.low.d*x.s):=λu _=>(Rat.divInt_mul_right hs).symm;unfold Fr.val;rw[key _ 0,key _ 0,key _ 0,key _ 0,<-h1,<-h2,<-h3,<-h4,<-h5]
theorem aB5{x:Fr}(hd:x.d≠0):x.low.qo:=by
 obtain⟨h1,h2,h3,h4,h5⟩:=aB3 (x:=x);have hg:=Vc hd;constructor
 ·have:x.d=x.low.d*x.s:=h5;rcases Int.lt_or_gt_of_ne hd with h|h
  ·have hs:x.s<0:=by unfold Fr.s;rw[aA h];omega
   rcases Pv x.low.d 0 with k|k|k
   ·have:=Int.mul_pos_of_neg_of_neg k hs;omega
   ·rw[k,Int.zero_mul]at this;omega
   ·exact k
  ·have hs:0<x.s:=by unfold Fr.s;rw[au o_];omega
   rcases Pv x.low.d 0 with k|k|k
   ·have:=Int.mul_neg_of_neg_of_pos k hs;omega
   ·rw[k,Int.zero_mul]at this;omega
   ·exact k
 ·have e:x.g=x.low.g*x.g:=by
   obtain⟨G,hG⟩:∃ G,G=x.g:=⟨_,rfl⟩;have ab:∀ u v:Int,u=v*x.s->u.natAbs=(v*(G:Int)).natAbs:=λu v h=>by rw[h,yx,yx,PA,AB,hG]
   have h:=aB0 x.low G;have e2:x.g=(Fr.mk (x.low.a*G) (x.low.b*G) (x.low.c*G) (x.low.e*G) (x.low.d*G)).g:=by unfold Fr.g;dsimp only;rw[<-ab _ _ h1,<-ab _ _ h2,<-ab _ _ h3,<-ab _ _ h4,<-ab _ _ h5]
   have:=e2.trans h;rw[hG]at this;exact this
  have:=aLD hg (show 1*x.g=x.low.g*x.g by rw[qT];exact e);exact this.symm
theorem Lp{x:Fr}{u:Int}(hd:x.d≠0):(u/x.s).natAbs<=u.natAbs:=aLE u x.s
def bX(k:K):Fr:=(Fr.mk (k.re.re.num*(k.re.im.den*(k.im.re.den*k.im.im.den):Nat)) (k.re.im.num*(k.re.re.den*(k.im.re.den*k.im.im.den):Nat))
 (k.im.re.num*(k.re.re.den*(k.re.im.den*k.im.im.den):Nat)) (k.im.im.num*(k.re.re.den*(k.re.im.den*k.im.re.den):Nat)) ((k.re.re.den*(k.re.im.den*(k.im.re.den*k.im.im.den)):Nat):Int)).low
theorem ll(k:K):(bX k).qo:=aB5 (by have h1:=k.re.re.den_pos;have h2:=k.re.im.den_pos;have h3:=k.im.re.den_pos;have h4:=k.im.im.den_pos;have:=rZ h1 (rZ h2 (rZ h3 h4));show((k.re.re.den*(k.re.im.den*(k.im.re.den*k.im.im.den)):Nat):Int)≠0;omega)
theorem PC(q:Rat){n:Nat}(hm:0<m)(e:n=q.den*m):Rat.divInt (q.num*(m:Nat)) ((n:Nat):Int)=q:=by have h:Rat.divInt (q.num*(m:Int)) ((q.den:Int)*(m:Int))=Rat.divInt q.num q.den:=Rat.divInt_mul_right o_;rw[e,oP,h];exact aB6 q
theorem pJ(k:K):(bX k).val=k:=by have h1:=k.re.re.den_pos;have h2:=k.re.im.den_pos;have h3:=k.im.re.den_pos;have h4:=k.im.im.den_pos;have hp:=rZ h1 (rZ h2 (rZ h3 h4));unfold bX;rw[aB4 (by show((k.re.re.den*(k.re.im.den*(k.im.re.den*k.im.im.den)):Nat):Int)≠0;omega)];unfold Fr.val;dsimp only;rw[PC k.re.re (rZ h2 (rZ h3 h4)) rfl,PC k.re.im (rZ h1 (rZ h3 h4)) (by simp only[nO]),PC k.im.re (rZ h1 (rZ h2 h4)) (by simp only[nO]),PC k.im.im (rZ h1 (rZ h2 h3)) (by simp only[c7,nO])]
theorem Gr{x:Fr}(h:x.qo):bX x.val=x:=aB2 (ll _) h (pJ _)
theorem Gs{x:Fr}(hd:x.d≠0):bX x.val=x.low:=aB2 (ll _) (aB5 hd) ((pJ _).trans (aB4 hd).symm)
theorem aLF{x y:K}(h:bX x=bX y):x=y:=by rw[<-pJ x,<-pJ y,h]
def rk(x y:Fr):Fr:=⟨x.a*y.d+y.a*x.d,x.b*y.d+y.b*x.d,x.c*y.d+y.c*x.d,x.e*y.d+y.e*x.d,x.d*y.d⟩
def ev(x y:Fr):Fr:=
 ⟨x.a*y.a+2*(x.b*y.b)+3*(x.c*y.c)+6*(x.e*y.e),x.a*y.b+x.b*y.a+3*(x.c*y.e)+3*(x.e*y.c),x.a*y.c+2*(x.b*y.e)+x.c*y.a+2*(x.e*y.b),x.a*y.e+x.b*y.c+x.c*y.b+x.e*y.a,x.d*y.d⟩
def AD(x:Fr):Fr:=⟨-x.a,-x.b,-x.c,-x.e,x.d⟩
theorem aLG{x y:Fr}(hx:x.d≠0)(hy:y.d≠0):(rk x y).val=x.val+y.val:=by
 apply bO.ext
 ·exact bO.ext (Ve _ _ hx hy).symm (Ve _ _ hx hy).symm
 ·exact bO.ext (Ve _ _ hx hy).symm (Ve _ _ hx hy).symm
theorem aLH(x:Fr):(AD x).val=-x.val:=by have h:∀ u:Int,Rat.divInt (-u) x.d=-Rat.divInt u x.d:=λu=>(Rat.neg_divInt u x.d).symm;exact bO.ext (bO.ext (h _) (h _)) (bO.ext (h _) (h _))
theorem Gt{p:Int}{x y:Fr}(hx:x.d≠0)(hy:y.d≠0){r:Rat}(h:r*((x.d:Rat)*(y.d:Rat))=(p:Rat)):Rat.divInt p (x.d*y.d)=r:=by
 have yi:(x.d:Rat)≠0:=by simpa using hx
 have PD:(y.d:Rat)≠0:=by simpa using hy
 rw[CD,Eg,<-h,Gu,Rat.mul_assoc,I6 _ (by
  intro e;rcases Rat.mul_eq_zero.1 e with e|e
  ·exact yi e
  ·exact PD e),Rat.mul_one]
theorem pK{u d:Int}(hd:d≠0):Rat.divInt u d*(d:Rat)=(u:Rat):=by
 have PE:(d:Rat)≠0:=by simpa using hd
 rw[CD,aBZ PE]
theorem Lq{x y:Fr}(hx:x.d≠0)(hy:y.d≠0):(ev x y).val=x.val*y.val:=by
 have a1:=pK (u:=x.a) hx;have b1:=pK (u:=x.b) hx;have c1:=pK (u:=x.c) hx;have e1:=pK (u:=x.e) hx;have a2:=pK (u:=y.a) hy;have b2:=pK (u:=y.b) hy;have c2:=pK (u:=y.c) hy;have e2:=pK (u:=y.e) hy;apply bO.ext
 ·apply bO.ext
  ·refine Gt hx hy ?_;show((Rat.divInt x.a x.d*Rat.divInt y.a y.d+2*(Rat.divInt x.b x.d*Rat.divInt y.b y.d))+(3*(Rat.divInt x.c x.d*Rat.divInt y.c y.d+2*(Rat.divInt x.e x.d*Rat.divInt y.e y.d))+2*(0*(Rat.divInt x.c x.d*Rat.divInt y.e y.d+Rat.divInt x.e x.d*Rat.divInt y.c y.d))))*((x.d:Rat)*(y.d:Rat))=_;unfold ev;simp only[PF,Eg,<-a1,<-b1,<-c1,<-e1,<-a2,<-b2,<-c2,<-e2];have t2:((2:Int):Rat)=2:=rfl;have t3:((3:Int):Rat)=3:=rfl;have t6:((6:Int):Rat)=6:=rfl;rw[t2,t3,t6];grind
  ·refine Gt hx hy ?_;show((Rat.divInt x.a x.d*Rat.divInt y.b y.d+Rat.divInt x.b x.d*Rat.divInt y.a y.d)+(3*(Rat.divInt x.c x.d*Rat.divInt y.e y.d+Rat.divInt x.e x.d*Rat.divInt y.c y.d)+0*(Rat.divInt x.c x.d*Rat.divInt y.c y.d+2*(Rat.divInt x.e x.d*Rat.divInt y.e y.d))))*((x.d:Rat)*(y.d:Rat))=_;unfold ev;simp only[PF,Eg,<-a1,<-b1,<-c1,<-e1,<-a2,<-b2,<-c2,<-e2];have t3:((3:Int):Rat)=3:=rfl;rw[t3];grind
 ·apply bO.ext
  ·refine Gt hx hy ?_;show((Rat.divInt x.a x.d*Rat.divInt y.c y.d+2*(Rat.divInt x.b x.d*Rat.divInt y.e y.d))+(Rat.divInt x.c x.d*Rat.divInt y.a y.d+2*(Rat.divInt x.e x.d*Rat.divInt y.b y.d)))*((x.d:Rat)*(y.d:Rat))=_;unfold ev;simp only[PF,Eg,<-a1,<-b1,<-c1,<-e1,<-a2,<-b2,<-c2,<-e2];have t2:((2:Int):Rat)=2:=rfl;rw[t2];grind
  ·refine Gt hx hy ?_;show((Rat.divInt x.a x.d*Rat.divInt y.e y.d+Rat.divInt x.b x.d*Rat.divInt y.c y.d)+(Rat.divInt x.c x.d*Rat.divInt y.b y.d+Rat.divInt x.e x.d*Rat.divInt y.a y.d))*((x.d:Rat)*(y.d:Rat))=_;unfold ev;simp only[PF,Eg,<-a1,<-b1,<-c1,<-e1,<-a2,<-b2,<-c2,<-e2]
   grind
theorem Vf(x y:K):bX (x+y)=(rk (bX x) (bX y)).low:=by have hx:=(ll x).pos;have hy:=(ll y).pos;have:=Gs (x:=rk (bX x) (bX y)) (Ej o_ o_);rw[aLG o_ o_,pJ,pJ]at this;exact this
theorem Vg(x y:K):bX (x*y)=(ev (bX x) (bX y)).low:=by have hx:=(ll x).pos;have hy:=(ll y).pos;have:=Gs (x:=ev (bX x) (bX y)) (Ej o_ o_);rw[Lq o_ o_,pJ,pJ]at this;exact this
theorem aLI{x:Fr}(h:x.qo):(AD x).qo:=⟨h.pos,by have:=h.one;unfold Fr.g at this ⊢;simpa[AD]using this⟩
theorem Vh(x:K):bX (-x)=AD (bX x):=by have:=Gr (aLI (ll x));rw[aLH,pJ]at this;exact this
def dX(n:Nat)(x:Fr):Prop:=x.a.natAbs<2^n/\x.b.natAbs<2^n/\x.c.natAbs<2^n/\x.e.natAbs<2^n/\x.d.natAbs<2^n
def Sz(n:Nat)(x:K):Prop:=dX n (bX x)
theorem dX.mono{n:Nat}(h:m<=n){x:Fr}(hx:dX m x):dX n x:=by have:=dj (show 0<2 by decide) h;obtain⟨h1,h2,h3,h4,h5⟩:=hx;exact⟨by omega,by omega,by omega,by omega,by omega⟩
theorem Sz.mono{n:Nat}(h:m<=n){x:K}(hx:Sz m x):Sz n x:=dX.mono h hx
theorem dX.low{n:Nat}{x:Fr}(h:dX n x)(hd:x.d≠0):dX n x.low:=by obtain⟨h1,h2,h3,h4,h5⟩:=h;exact⟨fA (Lp hd) h1,fA (Lp hd) h2,fA (Lp hd) h3,fA (Lp hd) h4,fA (Lp hd) h5⟩
theorem eX{n:Nat}{u v:Int}(hu:u.natAbs<2^m)(hv:v.natAbs<2^n):(u*v).natAbs<2^(m+n):=by
 rw[yx,eW];rcases ow v.natAbs with h|h
 ·rw[h,Nat.mul_zero];exact rZ (cT d_) (cT d_)
 ·exact cH (Co hu h) (jY _ (kv hv))
theorem dX.add{n:Nat}{x y:Fr}(hx:dX m x)(hy:dX n y):dX (m+n+1) (rk x y):=by
 obtain⟨x1,x2,x3,x4,x5⟩:=hx;obtain⟨y1,y2,y3,y4,y5⟩:=hy;have e:2^(m+n+1)=2^(m+n)*2:=dH ..;have e':2^(n+m)=2^(m+n):=by rw[nN]
 have key:∀{u v:Int},u.natAbs<2^m->v.natAbs<2^n->(u*y.d+v*x.d).natAbs<2^(m+n+1):=λ{u v} hu hv=>by have h1:=eX hu y5;have h2:=eX hv x5;rw[e']at h2;have:=aB7 (u*y.d) (v*x.d);omega
 refine⟨key x1 y1,key x2 y2,key x3 y3,key x4 y4,?_⟩;have:=eX x5 y5;show(x.d*y.d).natAbs<_;omega
theorem dX.mul{n:Nat}{x y:Fr}(hx:dX m x)(hy:dX n y):dX (m+n+4) (ev x y):=by
 obtain⟨x1,x2,x3,x4,x5⟩:=hx;obtain⟨y1,y2,y3,y4,y5⟩:=hy;have e:2^(m+n+4)=2^(m+n)*16:=by rw[eW]
 have t:∀{u v:Int} (k:Nat),u.natAbs<2^m->v.natAbs<2^n->((k:Int)*(u*v)).natAbs<=k*2^(m+n):=λ{u v} k hu hv=>by have h1:=eX hu hv;rw[yx,AB];exact jY _ (kv h1)
 have four:∀ p q r s:Int,(p+q+r+s).natAbs<=p.natAbs+q.natAbs+r.natAbs+s.natAbs:=λp q r s=>by omega
 have hp:0<2^(m+n):=cT d_;refine⟨?_,?_,?_,?_,?_⟩
 ·have:=four (x.a*y.a) (2*(x.b*y.b)) (3*(x.c*y.c)) (6*(x.e*y.e));have h1:=eX x1 y1;have h2:=t 2 x2 y2;have h3:=t 3 x3 y3;have h4:=t 6 x4 y4;show(x.a*y.a+2*(x.b*y.b)+3*(x.c*y.c)+6*(x.e*y.e)).natAbs<_;omega
 ·have:=four (x.a*y.b) (x.b*y.a) (3*(x.c*y.e)) (3*(x.e*y.c));have h1:=eX x1 y2;have h2:=eX x2 y1;have h3:=t 3 x3 y4;have h4:=t 3 x4 y3;show(x.a*y.b+x.b*y.a+3*(x.c*y.e)+3*(x.e*y.c)).natAbs<_;omega
 ·have:=four (x.a*y.c) (2*(x.b*y.e)) (x.c*y.a) (2*(x.e*y.b));have h1:=eX x1 y3;have h2:=t 2 x2 y4;have h3:=eX x3 y1;have h4:=t 2 x4 y2;show(x.a*y.c+2*(x.b*y.e)+x.c*y.a+2*(x.e*y.b)).natAbs<_;omega
 ·have:=four (x.a*y.e) (x.b*y.c) (x.c*y.b) (x.e*y.a);have h1:=eX x1 y4;have h2:=eX x2 y3;have h3:=eX x3 y2;have h4:=eX x4 y1;show(x.a*y.e+x.b*y.c+x.c*y.b+x.e*y.a).natAbs<_;omega
 ·have:=eX x5 y5;show(x.d*y.d).natAbs<_;omega
theorem Sz.add{n:Nat}{x y:K}(hx:Sz m x)(hy:Sz n y):Sz (m+n+1) (x+y):=by unfold Sz;rw[Vf];exact(dX.add hx hy).low (Ej (by have:=(ll x).pos;omega) (by have:=(ll y).pos;omega))
theorem Sz.mul{n:Nat}{x y:K}(hx:Sz m x)(hy:Sz n y):Sz (m+n+4) (x*y):=by unfold Sz;rw[Vg];exact(dX.mul hx hy).low (Ej (by have:=(ll x).pos;omega) (by have:=(ll y).pos;omega))
theorem Sz.neg{n:Nat}{x:K}(hx:Sz n x):Sz n (-x):=by unfold Sz at *;rw[Vh];obtain⟨h1,h2,h3,h4,h5⟩:=hx;exact⟨by simpa[AD]using h1,by simpa[AD]using h2,by simpa[AD]using h3,by simpa[AD]using h4,h5⟩
theorem Sz.sub{n:Nat}{x y:K}(hx:Sz m x)(hy:Sz n y):Sz (m+n+1) (x-y):=by rw[CR.sub_def];exact hx.add hy.neg
def uO(a b s:Int):Int:=if a=b\/b=0 then a else if a=0 then b else a*s
namespace bO
variable{F:Type}[OF F]{s:F}[hs:yw F s]
theorem aB8(x:bO F s):sg x=uO (aE x.re) (aE x.im) (aE (nm x)):=by
 unfold uO;rcases ways x with h|⟨h,h2⟩|⟨h,h2⟩
 ·subst h;have e:aE (0:F)=0:=(fU (0:F)).2 rfl;rw[I3,I1,I2,e,aA (.inl rfl)]
 ·rw[tG h,h,Int.mul_one];by_cases h3:aE x.re=aE x.im\/aE x.im=0
  ·rw[aA h3]
  ·rw[au h3];by_cases h4:aE x.re=0
   ·exfalso;rw[(fU _).1 h4,CR.zero_mul]at h2;have h5:aE (s*(x.im*x.im))=1:=by
     have h6:aE x.im≠0:=λe=>h3 (.inr e);rw[nt,nt,aLt];rcases iJ x.im with e|e|e
     ·rw[e];rfl
     ·exact absurd e h6
     ·rw[e];rfl
    have h7:(0:F)<s*(x.im*x.im):=gj.2 h5;exact OF.lt_irrefl _ (OF.lt_trans h7 h2)
   ·rw[au h4]
 ·rw[uN h,h];by_cases h3:aE x.re=aE x.im\/aE x.im=0
  ·rw[aA h3];rcases h3 with h3|h3
   ·exact h3.symm
   ·exfalso;rw[(fU _).1 h3,CR.zero_mul,CR.mul_zero]at h2;have h5:aE (x.re*x.re)≠-1:=by rw[nt];rcases iJ x.re with e|e|e<;>rw[e]<;>decide
    exact h5 (Gn.1 h2)
  ·rw[au h3];by_cases h4:aE x.re=0
   ·rw[aA h4]
   ·rw[au h4];have h5:aE x.im≠0:=λe=>h3 (.inr e);have h6:aE x.re≠aE x.im:=λe=>h3 (.inl e);rcases iJ x.re with e|e|e<;>rcases iJ x.im with k|k|k<;>first|exact absurd e h4|exact absurd k h5|exact absurd (e.trans k.symm) h6|(rw[e,k];rfl)
end bO
theorem aB9(u:Int):aE (u:Rat)=u.sign:=by show(u:Rat).num.sign=u.sign;rw[Rat.num_intCast]
theorem Vi{u d:Int}(hd:0<d):aE (Rat.divInt u d)=u.sign:=by have h1:=pK (u:=u) (d:=d) o_;have h2:=cS aE h1;rw[nt,aB9,aB9,Cz hd,Int.mul_one]at h2;exact h2
def qp(a b:Int):Int:=uO a.sign b.sign (a*a-2*(b*b)).sign
theorem Vj{a b d:Int}(hd:0<d):aE (⟨Rat.divInt a d,Rat.divInt b d⟩:K2)=qp a b:=by
 have h:=bO.aB8 (⟨Rat.divInt a d,Rat.divInt b d⟩:K2);have a1:=pK (u:=a) (d:=d) o_;have b1:=pK (u:=b) (d:=d) o_;have hn:bO.nm (⟨Rat.divInt a d,Rat.divInt b d⟩:K2)=Rat.divInt (a*a-2*(b*b)) (d*d):=by refine(Gt (x:=⟨0,0,0,0,d⟩) (y:=⟨0,0,0,0,d⟩) (by show d≠0;omega) (by show d≠0;omega) ?_).symm;show(Rat.divInt a d*Rat.divInt a d-2*(Rat.divInt b d*Rat.divInt b d))*((d:Rat)*(d:Rat))=_;simp only[aCa,Eg,<-a1,<-b1];have t2:((2:Int):Rat)=2:=rfl;rw[t2];grind
 rw[hn]at h;show bO.sg _=_;rw[h];show uO (aE (Rat.divInt a d)) (aE (Rat.divInt b d)) _=_;rw[Vi hd,Vi hd,Vi (Vk hd hd)];rfl
def PG(a b c e:Int):Int:=uO (qp a b) (qp c e) (qp ((a*a+2*(b*b))-(3*(c*c)+6*(e*e))) (2*(a*b)-6*(c*e)))
theorem aLJ{x:Fr}(hd:0<x.d):aE x.val=PG x.a x.b x.c x.e:=by
 have h:=bO.aB8 x.val;have a1:=pK (u:=x.a) (d:=x.d) o_;have b1:=pK (u:=x.b) (d:=x.d) o_;have c1:=pK (u:=x.c) (d:=x.d) o_;have e1:=pK (u:=x.e) (d:=x.d) o_;have hn:bO.nm x.val=(⟨Rat.divInt ((x.a*x.a+2*(x.b*x.b))-(3*(x.c*x.c)+6*(x.e*x.e))) (x.d*x.d),Rat.divInt (2*(x.a*x.b)-6*(x.c*x.e)) (x.d*x.d)⟩:K2):=by
  apply bO.ext
  ·refine(Gt (x:=x) (y:=x) o_ o_ ?_).symm;show((Rat.divInt x.a x.d*Rat.divInt x.a x.d+2*(Rat.divInt x.b x.d*Rat.divInt x.b x.d))-(3*(Rat.divInt x.c x.d*Rat.divInt x.c x.d+2*(Rat.divInt x.e x.d*Rat.divInt x.e x.d))+2*(0*(Rat.divInt x.c x.d*Rat.divInt x.e x.d+Rat.divInt x.e x.d*Rat.divInt x.c x.d))))*((x.d:Rat)*(x.d:Rat))=_;simp only[aCa,PF,Eg,<-a1,<-b1,<-c1,<-e1];have t2:((2:Int):Rat)=2:=rfl;have t3:((3:Int):Rat)=3:=rfl;have t6:((6:Int):Rat)=6:=rfl;rw[t2,t3,t6];grind
  ·refine(Gt (x:=x) (y:=x) o_ o_ ?_).symm;show((Rat.divInt x.a x.d*Rat.divInt x.b x.d+Rat.divInt x.b x.d*Rat.divInt x.a x.d)-(3*(Rat.divInt x.c x.d*Rat.divInt x.e x.d+Rat.divInt x.e x.d*Rat.divInt x.c x.d)+0*(Rat.divInt x.c x.d*Rat.divInt x.c x.d+2*(Rat.divInt x.e x.d*Rat.divInt x.e x.d))))*((x.d:Rat)*(x.d:Rat))=_;simp only[aCa,Eg,<-a1,<-b1,<-c1,<-e1];have t2:((2:Int):Rat)=2:=rfl;have t6:((6:Int):Rat)=6:=rfl;rw[t2,t6];grind
 rw[hn]at h;show bO.sg _=_;rw[h];have Lr:=Vk hd hd;show uO (aE (⟨Rat.divInt x.a x.d,Rat.divInt x.b x.d⟩:K2)) (aE (⟨Rat.divInt x.c x.d,Rat.divInt x.e x.d⟩:K2)) _=_;rw[Vj hd,Vj hd,Vj Lr];rfl
theorem aCb(k:K):aE k=PG (bX k).a (bX k).b (bX k).c (bX k).e:=by have:=aLJ (ll k).pos;rw[pJ]at this;exact this
end
variable{x:K}
structure RI where
 neg:Bool
 bw:List UInt8
structure RN where
 a:RI
 b:RI
 c:RI
 e:RI
 d:RI
structure RV where
 x:RN
 y:RN
 z:RN
structure RP where
 n:RV
 d:RN
def RI.cs(r:RI):al:=[.bool r.neg,.string (BA r.bw)]
def RN.cs(r:RN):al:=[.bool r.a.neg,.string (BA r.a.bw),.bool r.b.neg,.string (BA r.b.bw),.bool r.c.neg,.string (BA r.c.bw),.bool r.e.neg,.string (BA r.e.bw),.bool r.d.neg,.string (BA r.d.bw)]
def RV.cs(r:RV):al:=r.x.cs++(r.y.cs++r.z.cs)
def RP.cs(r:RP):al:=r.n.cs++r.d.cs
def RI.v(r:RI):Value:=.agg r.cs.toArray
def RN.v(r:RN):Value:=.agg r.cs.toArray
def RV.v(r:RV):Value:=.agg r.cs.toArray
def RP.v(r:RP):Value:=.agg r.cs.toArray
def RI.Sm(r:RI):Prop:=r.bw.length<=maxLen
def RN.Sm(r:RN):Prop:=r.a.Sm/\r.b.Sm/\r.c.Sm/\r.e.Sm/\r.d.Sm
def RV.Sm(r:RV):Prop:=r.x.Sm/\r.y.Sm/\r.z.Sm
def RP.Sm(r:RP):Prop:=r.n.Sm/\r.d.Sm
def RI.ls(r:RI):List Lit:=[.bool r.neg,.string r.bw]
def RN.ls(r:RN):List Lit:=r.a.ls++(r.b.ls++(r.c.ls++(r.e.ls++r.d.ls)))
def RV.ls(r:RV):List Lit:=r.x.ls++(r.y.ls++r.z.ls)
def RP.ls(r:RP):List Lit:=r.n.ls++r.d.ls
theorem RI.wZ{r s:RI}:r.ls=s.ls↔r=s:=by cases r;cases s;simp[RI.ls]
theorem RN.wZ{r s:RN}:r.ls=s.ls↔r=s:=by obtain⟨⟨_,_⟩,⟨_,_⟩,⟨_,_⟩,⟨_,_⟩,⟨_,_⟩⟩:=r;obtain⟨⟨_,_⟩,⟨_,_⟩,⟨_,_⟩,⟨_,_⟩,⟨_,_⟩⟩:=s;simp[RN.ls,RI.ls,and_assoc]
theorem RN.I8(r:RN):r.ls.length=10:=rfl
theorem RV.wZ{r s:RV}:r.ls=s.ls↔r=s:=by
 obtain⟨x,y,z⟩:=r;obtain⟨x',y',z'⟩:=s;unfold RV.ls;constructor
 ·intro h;obtain⟨h1,h2⟩:=List.append_inj h (by rw[RN.I8,RN.I8]);obtain⟨h2,h3⟩:=List.append_inj h2 (by rw[RN.I8,RN.I8]);have a1:x=x':=RN.wZ.1 h1;have a2:y=y':=RN.wZ.1 h2;have a3:z=z':=RN.wZ.1 h3;rw[a1,a2,a3]
 ·intro h;rw[h]
theorem RP.wZ{r s:RP}:r.ls=s.ls↔r=s:=by
 obtain⟨x,y⟩:=r;obtain⟨x',y'⟩:=s;unfold RP.ls;constructor
 ·intro h;obtain⟨h1,h2⟩:=List.append_inj' h (by rw[RN.I8,RN.I8]);have a1:x=x':=RV.wZ.1 h1;have a2:y=y':=RN.wZ.1 h2;rw[a1,a2]
 ·intro h;rw[h]
theorem RN.oA(r:RN):∀ u∈r.cs,flat u=true:=λu hu=>by simp[RN.cs]at hu;rcases hu with h|h|h|h|h|h|h|h|h|h<;>subst h<;>rfl
theorem RV.oA(r:RV):∀ u∈r.cs,flat u=true:=λu hu=>by
 simp only[RV.cs,fh]at hu;rcases hu with h|h|h
 ·exact r.x.oA u h
 ·exact r.y.oA u h
 ·exact r.z.oA u h
def PH(P:j_)(t:TypeId):Array Field:=match P.underlying t with|some (.struct fs)=>fs|_=>#[]
theorem Gv(r:RI)(h:r.Sm)(d:Nat):prog.keyLits (d+2) 28 r.cs=some r.ls:=by
 obtain ⟨fs, h1, h2, h3⟩ : ∃ fs, prog.underlying 28 = some (.struct fs) ∧ fs.toList.map (fun g => (g.type, g.offset)) = [(4, 0), (9, 1)] ∧ fs.all (fun g => g.name != "_") = true := ⟨PH prog 28, (by kernel_rfl), (by kernel_rfl), (by kernel_rfl)⟩;rw[Pn h1 h2 h3 k_];have e1:prog.keyLits (d+1) 4 ((r.cs.drop 0).take (prog.cellsOf 4))=some [.bool r.neg]:=by
  have e:(r.cs.drop 0).take (prog.cellsOf 4)=[.bool r.neg]:=k_;rw[e];exact aLh k_ _ d
 have e2:prog.keyLits (d+1) 9 ((r.cs.drop 1).take (prog.cellsOf 9))=some [.string r.bw]:=by have e:(r.cs.drop 1).take (prog.cellsOf 9)=[.string (BA r.bw)]:=k_;rw[e];exact aLi k_ _ (by rw[pD];exact h) d
 simp only[KC,Vl,e1,e2];simp[RI.ls]
theorem aLK(r:RN)(h:r.Sm)(d:Nat):prog.keyLits (d+3) 29 (r.a.cs++(r.b.cs++(r.c.cs++r.e.cs)))=some (r.a.ls++(r.b.ls++(r.c.ls++r.e.ls))):=by rw[aLg (n:=4) (e:=28) k_ k_];obtain⟨h0,h1,h2,h3,_⟩:=h;have c:prog.cellsOf 28=2:=k_;have e0:=Gv r.a h0 d;have e1:=Gv r.b h1 d;have e2:=Gv r.c h2 d;have e3:=Gv r.e h3 d;rw[c];simp[Lt,RI.cs]at e0 e1 e2 e3 ⊢;simp[e0,e1,e2,e3]
theorem PI(r:RN)(h:r.Sm)(d:Nat):prog.keyLits (d+4) 31 r.cs=some r.ls:=by
 obtain ⟨fs, h1, h2, h3⟩ : ∃ fs, prog.underlying 31 = some (.struct fs) ∧ fs.toList.map (fun g => (g.type, g.offset)) = [(29, 0), (28, 8)] ∧ fs.all (fun g => g.name != "_") = true := ⟨PH prog 31, (by kernel_rfl), (by kernel_rfl), (by kernel_rfl)⟩;rw[Pn h1 h2 h3 k_];have e1:prog.keyLits (d+3) 29 ((r.cs.drop 0).take (prog.cellsOf 29))=some (r.a.ls++(r.b.ls++(r.c.ls++r.e.ls))):=by
  have e:(r.cs.drop 0).take (prog.cellsOf 29)=r.a.cs++(r.b.cs++(r.c.cs++r.e.cs)):=k_;rw[e];exact aLK r h d
 have e2:prog.keyLits (d+3) 28 ((r.cs.drop 8).take (prog.cellsOf 28))=some r.d.ls:=by have e:(r.cs.drop 8).take (prog.cellsOf 28)=r.d.cs:=k_;rw[e];exact Gv r.d h.2.2.2.2 (d+1)
 simp only[KC,Vl,e1,e2];simp[RN.ls]
theorem Vm(r:RV)(h:r.Sm)(d:Nat):prog.keyLits (d+5) 33 r.cs=some r.ls:=by
 obtain ⟨fs, h1, h2, h3⟩ : ∃ fs, prog.underlying 33 = some (.struct fs) ∧ fs.toList.map (fun g => (g.type, g.offset)) = [(31, 0), (31, 10), (31, 20)] ∧ fs.all (fun g => g.name != "_") = true := ⟨PH prog 33, (by kernel_rfl), (by kernel_rfl), (by kernel_rfl)⟩;rw[Pn h1 h2 h3 k_];have e:∀(k:Nat) (s:RN),(r.cs.drop k).take (prog.cellsOf 31)=s.cs->s.Sm->prog.keyLits (d+4) 31 ((r.cs.drop k).take (prog.cellsOf 31))=some s.ls:=λk s e hs=>by rw[e];exact PI s hs d
 simp only[KC,Vl,e 0 r.x k_ h.1,e 10 r.y k_ h.2.1,e 20 r.z k_ h.2.2];simp[RV.ls]
theorem aCc(r:RP)(h:r.Sm)(d:Nat):prog.keyLits (d+6) 73 r.cs=some r.ls:=by
 obtain ⟨fs, h1, h2, h3⟩ : ∃ fs, prog.underlying 73 = some (.struct fs) ∧ fs.toList.map (fun g => (g.type, g.offset)) = [(33, 0), (31, 30)] ∧ fs.all (fun g => g.name != "_") = true := ⟨PH prog 73, (by kernel_rfl), (by kernel_rfl), (by kernel_rfl)⟩;rw[Pn h1 h2 h3 k_];have e1:prog.keyLits (d+5) 33 ((r.cs.drop 0).take (prog.cellsOf 33))=some r.n.ls:=by
  have e:(r.cs.drop 0).take (prog.cellsOf 33)=r.n.cs:=k_;rw[e];exact Vm r.n h.1 d
 have e2:prog.keyLits (d+5) 31 ((r.cs.drop 30).take (prog.cellsOf 31))=some r.d.ls:=by have e:(r.cs.drop 30).take (prog.cellsOf 31)=r.d.cs:=k_;rw[e];exact PI r.d h.2 (d+1)
 simp only[KC,Vl,e1,e2];simp[RP.ls]
section
variable{Bs:aa}{N:Nat}
theorem CE{neg:Bool}(ho:Gk o=some (neg,28))(r s:RI)(hr:r.Sm)(hs:s.Sm){b:Bool}(hb:(if neg then b else !b)=true↔r=s):cI prog Bs o [r.v,s.v] [] (.bool b) []:=
 Pm (m:=2) ho o_ k_ k_ k_ k_ (Gv r hr 0) (Gv s hs 0) rfl rfl (by rw[hb];exact RI.wZ.symm)
theorem Gw{neg:Bool}(ho:Gk o=some (neg,31))(r s:RN)(hr:r.Sm)(hs:s.Sm){b:Bool}(hb:(if neg then b else !b)=true↔r=s):cI prog Bs o [r.v,s.v] [] (.bool b) []:=
 Pm (m:=4) ho o_ k_ k_ k_ k_ (PI r hr 0) (PI s hs 0) rfl rfl (by rw[hb];exact RN.wZ.symm)
theorem Gx{neg:Bool}(ho:Gk o=some (neg,33))(r s:RV)(hr:r.Sm)(hs:s.Sm){b:Bool}(hb:(if neg then b else !b)=true↔r=s):cI prog Bs o [r.v,s.v] [] (.bool b) []:=
 Pm (m:=5) ho o_ k_ k_ k_ k_ (Vm r hr 0) (Vm s hs 0) rfl rfl (by rw[hb];exact RV.wZ.symm)
theorem Vn{neg:Bool}(ho:Gk o=some (neg,73))(r s:RP)(hr:r.Sm)(hs:s.Sm){b:Bool}(hb:(if neg then b else !b)=true↔r=s):cI prog Bs o [r.v,s.v] [] (.bool b) []:=
 Pm (m:=6) ho o_ k_ k_ k_ k_ (aCc r hr 0) (aCc s hs 0) rfl rfl (by rw[hb];exact RP.wZ.symm)
end
def bT(z:Int):RI:=⟨decide (z<0),cO z.natAbs⟩
theorem aCd(z:Int):bd z=(bT z).v:=rfl
theorem yA{x y:Int}(h:bT x=bT y):x=y:=by have h1:decide (x<0)=decide (y<0):=cS RI.neg h;have h2:x.natAbs=y.natAbs:=aKh (cS RI.bw h);rw[qh]at h1;omega
def tH(f:Fr):RN:=⟨bT f.a,bT f.b,bT f.c,bT f.e,bT f.d⟩
def iK(f:Fr):Value:=(tH f).v
theorem aLL{f g:Fr}(h:tH f=tH g):f=g:=Fr.ext' (yA (cS RN.a h)) (yA (cS RN.b h)) (yA (cS RN.c h)) (yA (cS RN.e h)) (yA (cS RN.d h))
def cG(x:K):RN:=tH (bX x)
def bH(x:K):Value:=(cG x).v
theorem Gy{y:K}(h:cG x=cG y):x=y:=aLF (aLL h)
abbrev aF:Nat:=1099511627774
theorem uP{n:Nat}(h:z.natAbs<2^n)(hn:n<=aF):(bT z).Sm:=by show(cO z.natAbs).length<=maxLen;rw[uL];have:=wW h;unfold aF at hn;simp[maxLen];omega
theorem aLM{f:Fr}{n:Nat}(h:dX n f)(hn:n<=aF):(tH f).Sm:=⟨uP h.1 hn,uP h.2.1 hn,uP h.2.2.1 hn,uP h.2.2.2.1 hn,uP h.2.2.2.2 hn⟩
theorem tJ{n:Nat}(h:Sz n x)(hn:n<=aF):(cG x).Sm:=aLM h hn
def ic(c:Nat->Int):al:=[.bool (bT (c 0)).neg,.string (BA (bT (c 0)).bw),.bool (bT (c 1)).neg,.string (BA (bT (c 1)).bw),.bool (bT (c 2)).neg,.string (BA (bT (c 2)).bw),.bool (bT (c 3)).neg,.string (BA (bT (c 3)).bw)]
def qt(c:Nat->Int):Value:=.agg (ic c).toArray
def co(f:Fr):Nat->Int
 |0=>f.a
 |1=>f.b
 |2=>f.c
 |_=>f.e
def pL(c:Nat->Int)(d:Int):Fr:=⟨c 0,c 1,c 2,c 3,d⟩
theorem Ek{g:Nat}{x:Int}{p:Nat}(h1:g<2^p)(h2:x.natAbs<2^q)(hp:p<=1099511627776)(hq:q<=1099511627776):aH prog 142 [bd g,bd x] (bd (Nat.gcd g x.natAbs:Nat)):=by have:=Gi (x:=(g:Int)) (y:=x) (by rw[AB];exact h1) h2 hp hq;rw[AB]at this;exact this
theorem aLN{g p:Nat}(h:g<2^p):Nat.gcd g m<2^p\/g=0:=by
 by_cases hg:g=0
 ·exact .inr hg
 ·exact .inl (fA (aCe m (uG hg)) h)
theorem AE{g p:Nat}(h:g<2^p)(h2:m<2^p):Nat.gcd g m<2^p:=by
 rcases aLN (m:=m) h with h3|h3
 ·exact h3
 ·rw[h3,Vo];exact h2
theorem aCf{c:Nat->Int}{d:Int}{n:Nat}(h:dX n (pL c d))(hn:n<=aF):aH prog 96 [qt c,bd d] (bd ((pL c d).g:Nat)):=by
 obtain⟨h0,h1,h2,h3,h4⟩:=h;have pq:n<=1099511627776:=by unfold aF at hn;omega
 have g1:=Gi h4 h0 pq pq;have s1:=AE h4 h0;have g2:=Ek s1 h1 pq pq;have s2:=AE s1 h1;have g3:=Ek s2 h2 pq pq;have s3:=AE s2 h2;have g4:=Ek s3 h3 pq pq;exact bI func96 (λ_=>[g1.at 15,g2.at 15,g3.at 15,g4.at 15])
theorem Gz{x y:Int}{n:Nat}(hy:y≠0)(h1:x.natAbs<2^n)(h2:y.natAbs<2^n)(hn:n<=aF):aH prog 125 [bd x,bd y] (bd (x.fdiv y)):=
 bI func125 (λ_=>[(UP hy h1 h2 hn hn).at 11])
theorem El{c:Nat->Int}{d:Int}{n:Nat}(hd:d≠0)(h:dX n (pL c d))(hn:n<=aF):aH prog 75 [qt c,bd d] (iK (pL c d).low):=by
 have hc:=aCf h hn;have pq:n<=1099511627776:=by unfold aF at hn;omega
 obtain⟨f,hf⟩:∃ f,f=pL c d:=⟨_,rfl⟩;have wH:f.d≠0:=by rw[hf];exact hd
 have rl:=Vd wH;have Vp:=PA f;have hg:f.g<2^n:=by
  have h5:f.d.natAbs<2^n:=by rw[hf];exact h.2.2.2.2
  exact fA (Nat.le_of_dvd o_ (Gq f)) h5
 have bL:f.s.natAbs<2^n:=by rw[Vp];exact hg
 have ov:∀ u:Int,f.g ∣ u.natAbs->u.natAbs<2^n->aH prog 125 [bd u,bd f.s] (bd (u/f.s)):=λu hu vU=>by have:=Gz rl vU bL hn;rw[Int.fdiv_eq_ediv_of_dvd (Ei hu)]at this;exact this
 have o0:=ov f.a (Pw f) (by rw[hf];exact h.1);have o1:=ov f.b (Px f) (by rw[hf];exact h.2.1);have o2:=ov f.c (Py f) (by rw[hf];exact h.2.2.1);have o3:=ov f.e (Pz f) (by rw[hf];exact h.2.2.2.1);have o4:=ov f.d (Gq f) (by rw[hf];exact h.2.2.2.2);have CF:=lP (z:=1) d_;have aE:=qm d;rw[<-hf]at hc ⊢;have e0:f.a=c 0:=by rw[hf];rfl
 have e1:f.b=c 1:=by rw[hf];rfl
 have e2:f.c=c 2:=by rw[hf];rfl
 have e3:f.e=c 3:=by rw[hf];rfl
 have e4:f.d=d:=by rw[hf];rfl
 have one:(bT 1).Sm:=uP (n:=1) d_ d_;have sm:(bT f.s).Sm:=uP bL hn;by_cases GA:d<0
 ·have hs:f.s=-(f.g:Int):=by unfold Fr.s;rw[e4,aA GA]
  have bB:bT f.s≠bT 1:=λe=>by have:=yA e;omega
  have ng:=oY (f.g:Int);rw[<-hs]at ng;rw[e0]at o0;rw[e1]at o1;rw[e2]at o2;rw[e3]at o3;rw[e4]at o4;have dG:f.low=⟨c 0/f.s,c 1/f.s,c 2/f.s,c 3/f.s,d/f.s⟩:=by unfold Fr.low;rw[e0,e1,e2,e3,e4]
  rw[dG];have CG:decide (d.sign<0)=true:=aJ (by rw[Ge GA];decide);generalize f.s=s at *;exact bI func75 (λ_=>[hc.at 9,aE.at 11,.rw 12 (.bool (decide (d.sign<0))) b_ (by rw[CG]),ng.at 14,CF.at 16,.step 17 (az f75 17) _ _ _ _ (CE (neg:=true) k_ (bT s) (bT 1) sm one (b:=false) (by simp;exact bB)),o0.at 29,o1.at 29,o2.at 29,o3.at 29,o4.at 35])
 ·have hs:f.s=(f.g:Int):=by unfold Fr.s;rw[e4,au GA]
  have CG:decide (d.sign<0)=false:=aY (by rw[Cz o_];decide);by_cases uQ:f.g=1
  ·have dG:f.low=f:=by unfold Fr.low;rw[hs,uQ];simp
   rw[dG,hf];rw[uQ]at hc;exact bI func75 (λ_=>[hc.at 9,aE.at 11,.rw 12 (.bool (decide (d.sign<0))) a_ (by rw[CG]),CF.at 16,.step 17 (az f75 17) _ _ _ _ (CE (neg:=true) k_ (bT 1) (bT 1) one one (b:=true) s_)])
  ·have bB:bT f.s≠bT 1:=λe=>by have:=yA e;omega
   rw[e0]at o0;rw[e1]at o1;rw[e2]at o2;rw[e3]at o3;rw[e4]at o4;have dG:f.low=⟨c 0/f.s,c 1/f.s,c 2/f.s,c 3/f.s,d/f.s⟩:=by unfold Fr.low;rw[e0,e1,e2,e3,e4]
   rw[dG];rw[<-hs]at hc;generalize f.s=s at *;exact bI func75 (λ_=>[hc.at 9,aE.at 11,.rw 12 (.bool (decide (d.sign<0))) a_ (by rw[CG]),CF.at 16,.step 17 (az f75 17) _ _ _ _ (CE (neg:=true) k_ (bT s) (bT 1) sm one (b:=false) (by simp;exact bB)),o0.at 29,o1.at 29,o2.at 29,o3.at 29,o4.at 35])
theorem Lu{f:Fr}{n:Nat}(hf:f.qo)(h:dX n f)(hn:n<=aF):aH prog 48 [iK f] b_:=by have hc:=aCf (c:=co f) (d:=f.d) h hn;have e:pL (co f) f.d=f:=rfl;rw[e,hf.one]at hc;have hp:=hf.pos;have hs:decide (f.d.sign>0)=true:=aJ (by rw[Cz hp];decide);have one:(bT 1).Sm:=uP (n:=1) d_ d_;exact bI func48 (λ_=>[(pH f.a).at 11,(pH f.b).at 11,(pH f.c).at 11,(pH f.e).at 11,(pH f.d).at 16,(qm f.d).at 20,.rw 21 (.bool (decide (f.d.sign>0))) b_ (by rw[hs]),hc.at 28,(lP (z:=1) d_).at 29,.step 30 (az Tryz.f48 30) _ _ _ _ (CE (neg:=true) k_ (bT 1) (bT 1) one one (b:=true) s_)])
theorem lp{n:Nat}(h:Sz n x)(hn:n<=aF):aH prog 48 [bH x] b_:=Lu (ll x) h hn
theorem Vq(z:Int):bX (⟨⟨z,0⟩,⟨0,0⟩⟩:K)=⟨z,0,0,0,1⟩:=by
 have hl:Fr.qo ⟨z,0,0,0,1⟩:=⟨Int.zero_lt_one,by simp[Fr.g]⟩;have hv:Fr.val ⟨z,0,0,0,1⟩=⟨⟨z,0⟩,⟨0,0⟩⟩:=by
  unfold Fr.val;dsimp only;have e:∀ u:Int,Rat.divInt u 1=(u:Rat):=λu=>by rw[CD,Gu];grind
  rw[e,e];rfl
 rw[<-hv];exact Gr hl
def kI(z:Int):K:=⟨⟨z,0⟩,⟨0,0⟩⟩
theorem aCg(z:Int):bH (kI z)=iK ⟨z,0,0,0,1⟩:=by unfold bH cG kI;rw[Vq];rfl
theorem mh{n:Nat}(h:z.natAbs<2^n)(hn:0<n):Sz n (kI z):=by unfold Sz kI;rw[Vq];have:2^1<=2^n:=dj d_ hn;exact⟨h,by simp;omega,by simp;omega,by simp;omega,by simp;omega⟩
theorem Em:bT 0=⟨false,[]⟩:=by unfold bT;simp[D0]
theorem r7(h:z.natAbs<9223372036854775808):aH prog 67 [.int .i64 z] (bH (kI z)):=by
 rw[aCg];have e:iK ⟨z,0,0,0,1⟩=(RN.mk (bT z) ⟨false,[]⟩ ⟨false,[]⟩ ⟨false,[]⟩ (bT 1)).v:=by unfold iK tH;rw[Em]
 rw[e];exact bI func67 (λ_=>[(lP h).at 4,(lP (z:=1) d_).at 6])
theorem aLO{c:Nat->Int}{d:Int}{n:Nat}(hd:d≠0)(h:dX n (pL c d))(hn:n<=aF):aH prog 126 [qt c,bd d] (.tuple #[iK (pL c d).low,.int .i64 0]):=by
 have hl:=El hd h hn;have hs:(d.sign==0)=false:=by simp;exact hd
 exact bI func126 (λ_=>[(pH (c 0)).at 13,(pH (c 1)).at 13,(pH (c 2)).at 13,(pH (c 3)).at 13,(pH d).at 19,(qm d).at 24,.rw 25 (.bool (d.sign==0)) a_ (by rw[hs]),hl.at 29])
theorem aCh{p q:Int}{n:Nat}(hq:q≠0)(h1:p.natAbs<2^n)(h2:q.natAbs<2^n)(hn:n<=63):aH prog 76 [.int .i64 p,.int .i64 q] (.tuple #[iK (Fr.mk p 0 0 0 q).low,.int .i64 0]):=by
 have h63:2^n<=9223372036854775808:=dq (dj d_ hn) d_;have hp:0<2^n:=cT d_;have hm:=aLO (c:=λi=>match i with|0=>p|_=>0) (d:=q) (n:=n) hq ⟨h1,hp,hp,hp,h2⟩ (by unfold aF;omega);have e:qt (λi=>match i with|0=>p|_=>0)=.agg #[.bool (bT p).neg,.string (BA (bT p).bw),.bool false,.string ⟨#[]⟩,.bool false,.string ⟨#[]⟩,.bool false,.string ⟨#[]⟩]:=by show Value.agg #[.bool (bT p).neg,.string (BA (bT p).bw),.bool (bT 0).neg,.string (BA (bT 0).bw),.bool (bT 0).neg,.string (BA (bT 0).bw),.bool (bT 0).neg,.string (BA (bT 0).bw)]=_;rw[Em];rfl
 rw[e]at hm;exact bI func76 (λ_=>[(lP (z:=p) o_).at 7,(lP (z:=q) o_).at 10,hm.at 11])
theorem w6{n:Nat}(h:Sz n x)(hn:n<=aF):aH prog 132 [bH x] (bH (-x)):=by
 have hv:=lp h hn;have e:bH (-x)=iK (AD (bX x)):=by unfold bH cG;rw[Vh];rfl
 rw[e];exact bI func132 (λ_=>[hv.at 5,(oY (bX x).a).at 16,(oY (bX x).b).at 16,(oY (bX x).c).at 16,(oY (bX x).e).at 16])
theorem uR{y:K}{n:Nat}(hx:Sz m x)(hy:Sz n y)(cQ:m+n<aF):aH prog 70 [bH x,bH y] (bH (x+y)):=by
 have v1:=lp hx o_;have v2:=lp hy o_;have pM:aF<=1099511627776:=by decide
 have yz:=(ll x).pos;have wY:=(ll y).pos;have hl:=El (c:=co (rk (bX x) (bX y))) (d:=(rk (bX x) (bX y)).d) (n:=m+n+1) (Ej o_ o_) (dX.add hx hy) o_;have e:bH (x+y)=iK (rk (bX x) (bX y)).low:=by unfold bH cG;rw[Vf];rfl
 rw[e];obtain⟨x1,x2,x3,x4,x5⟩:=hx;obtain⟨y1,y2,y3,y4,y5⟩:=hy;have mu:∀{u v:Int} {p q:Nat},u.natAbs<2^p->v.natAbs<2^q->p+q<=aF->aH prog 122 [bd u,bd v] (bd (u*v)):=λh1 h2 h3=>nR h1 h2 o_ o_;have ad:∀{u v:Int},u.natAbs<2^m->v.natAbs<2^n->aH prog 121 [bd (u*(bX y).d),bd (v*(bX x).d)] (bd (u*(bX y).d+v*(bX x).d)):=λh1 h2=>
  Aw (eX h1 y5) (eX h2 x5) o_ o_
 exact bI func70 (λ_=>[v1.at 8,v2.at 12,(mu x1 y5 o_).at 26,(mu y1 x5 o_).at 33,(ad x1 y1).at 34,(mu x2 y5 o_).at 26,(mu y2 x5 o_).at 33,(ad x2 y2).at 34,(mu x3 y5 o_).at 26,(mu y3 x5 o_).at 33,(ad x3 y3).at 34,(mu x4 y5 o_).at 26,(mu y4 x5 o_).at 33,(ad x4 y4).at 34,(mu x5 y5 o_).at 42,hl.at 43])
theorem CH{y:K}{n:Nat}(hx:Sz m x)(hy:Sz n y)(cQ:m+n<aF):aH prog 80 [bH x,bH y] (bH (x-y)):=by rw[CR.sub_def];exact bI func80 (λ_=>[(w6 hy o_).at 7,(uR hx hy.neg cQ).at 8])
section
open CR OF
def nT(x:K):K:=⟨x.re,-x.im⟩
def mR(x:K):K:=⟨⟨x.re.re,-x.re.im⟩,⟨x.im.re,-x.im.im⟩⟩
def yB(f:Fr):Fr:=⟨f.a,f.b,-f.c,-f.e,f.d⟩
def yC(f:Fr):Fr:=⟨f.a,-f.b,f.c,-f.e,f.d⟩
theorem PJ(u d:Int):Rat.divInt (-u) d=-Rat.divInt u d:=(Rat.neg_divInt u d).symm
theorem aCi(f:Fr):(yB f).val=nT f.val:=bO.ext rfl (bO.ext (PJ _ _) (PJ _ _))
theorem Vr(f:Fr):(yC f).val=mR f.val:=bO.ext (bO.ext rfl (PJ _ _)) (bO.ext rfl (PJ _ _))
theorem aLP{f:Fr}(h:f.qo):(yB f).qo:=⟨h.pos,by have:=h.one;unfold Fr.g at this ⊢;simpa[yB]using this⟩
theorem aLQ{f:Fr}(h:f.qo):(yC f).qo:=⟨h.pos,by have:=h.one;unfold Fr.g at this ⊢;simpa[yC]using this⟩
theorem aCj(x:K):bX (nT x)=yB (bX x):=by have:=Gr (aLP (ll x));rw[aCi,pJ]at this;exact this
theorem aCk(x:K):bX (mR x)=yC (bX x):=by have:=Gr (aLQ (ll x));rw[Vr,pJ]at this;exact this
theorem Sz.nT{n:Nat}{x:K}(h:Sz n x):Sz n (nT x):=by unfold Sz at *;rw[aCj];obtain⟨h1,h2,h3,h4,h5⟩:=h;exact⟨h1,h2,by simpa[yB]using h3,by simpa[yB]using h4,h5⟩
theorem Sz.mR{n:Nat}{x:K}(h:Sz n x):Sz n (mR x):=by unfold Sz at *;rw[aCk];obtain⟨h1,h2,h3,h4,h5⟩:=h;exact⟨h1,by simpa[yC]using h2,h3,by simpa[yC]using h4,h5⟩
def two(y:K):K:=y*nT y
def r8(y:K):K:=two y*mR (two y)
theorem aLR(y:K):two y=⟨bO.nm y,0⟩:=by
 unfold two nT;apply bO.ext
 ·show y.re*y.re+yy*(y.im*-y.im)=y.re*y.re-yy*(y.im*y.im);exact j0 y.re y.im yy (λa b s=>a*a+s*(b*-b)) (λa b s=>a*a-s*(b*b)) d_
 ·show y.re*-y.im+y.im*y.re=0;exact iR y.re y.im (λa b=>a*-b+b*a) (λ_ _=>0) d_
theorem PK(y:K):r8 y=⟨⟨bO.nm (bO.nm y),0⟩,⟨0,0⟩⟩:=by
 unfold r8;rw[aLR];obtain⟨p,q⟩:=bO.nm y;have e:mR (⟨⟨p,q⟩,0⟩:K)=⟨⟨p,-q⟩,0⟩:=by unfold mR;show(⟨⟨p,-q⟩,⟨0,-0⟩⟩:K)=_;rw[CR.neg_zero];rfl
 rw[e];apply bO.ext
 ·show(⟨p,q⟩:K2)*⟨p,-q⟩+yy*(0*0)=_;rw[CR.zero_mul,CR.mul_zero,CR.add_zero];apply bO.ext
  ·show p*p+2*(q*-q)=p*p-2*(q*q)
   grind
  ·show p*-q+q*p=0
   grind
 ·show(⟨p,q⟩:K2)*0+0*⟨p,-q⟩=0;rw[CR.mul_zero,CR.zero_mul,CR.add_zero]
theorem Vt{y:K}(h:y≠0):bO.nm (bO.nm y)≠0:=λe=>h (bO.Pu (bO.Pu e))
theorem aCl(q:Rat):bX (⟨⟨q,0⟩,⟨0,0⟩⟩:K)=⟨q.num,0,0,0,q.den⟩:=by
 have hl:Fr.qo ⟨q.num,0,0,0,q.den⟩:=⟨by show(0:Int)<(q.den:Int);have:=q.den_pos;omega,by have:=q.reduced;unfold Nat.Coprime at this;simp[Fr.g];rw[IM];exact this⟩
 have hv:Fr.val ⟨q.num,0,0,0,q.den⟩=⟨⟨q,0⟩,⟨0,0⟩⟩:=by
  unfold Fr.val;have e:∀ d:Int,Rat.divInt 0 d=0:=λd=>by simp
  dsimp only;rw[e,aB6]
 rw[<-hv];exact Gr hl
def oZ(y:K):Fr:=⟨(bX (r8 y)).d,0,0,0,(bX (r8 y)).a⟩
theorem PL{y:K}(h:y≠0):(oZ y).d≠0:=by unfold oZ;dsimp only;rw[PK,aCl];exact λe=>Vt h (Rat.num_eq_zero.1 e)
theorem aLS{y:K}(h:y≠0):r8 y*(oZ y).val=1:=by
 have hq:=Vt h;have e1:(oZ y).val=⟨⟨(bO.nm (bO.nm y))⁻¹,0⟩,⟨0,0⟩⟩:=by
  unfold oZ Fr.val;rw[PK,aCl];have e:∀ d:Int,Rat.divInt 0 d=0:=λd=>by simp
  dsimp only;rw[e,CD];generalize bO.nm (bO.nm y)=q at *;have h2:((q.den:Int):Rat)/(q.num:Rat)=q⁻¹:=by
   have h3:(q.num:Rat)≠0:=by simpa using hq
   have h4:((q.den:Int):Rat)*q=q.num:=by
    have h5:(q.num:Rat)/((q.den:Int):Rat)=q:=by rw[<-CD];exact aB6 q
    have h6:((q.den:Int):Rat)≠0:=by have:=q.den_nz;simpa using this
    have h7:=aBZ (a:=(q.num:Rat)) h6;rw[h5,Rat.mul_comm]at h7;exact h7
   have h8:=I6 q hq;have h9:=I6 (q.num:Rat) h3;rw[Gu]
   grind
  rw[h2]
 rw[e1,PK];generalize bO.nm (bO.nm y)=q at *;have h8:=I6 q hq;apply bO.ext
 ·apply bO.ext
  ·show(q*q⁻¹+2*(0*0))+(3*(0*0+2*(0*0))+2*(0*(0*0+0*0)))=1
   grind
  ·show(q*0+0*q⁻¹)+(3*(0*0+0*0)+0*(0*0+2*(0*0)))=0
   grind
 ·apply bO.ext
  ·show(q*0+2*(0*0))+(0*q⁻¹+2*(0*0))=0
   grind
  ·show(q*0+0*0)+(0*0+0*q⁻¹)=0
   grind
theorem aCm{y:K}(h:y≠0):(x*nT y)*(mR (two y)*(oZ y).val)=x*y⁻¹:=by
 have h1:=aLS h;have h2:=OF.jA y h;have e1:y*(nT y*(mR (two y)*(oZ y).val))=1:=by rw[<-h1];unfold r8 two;exact yv y (nT y) (mR (y*nT y)) (oZ y).val (λy c b i=>y*(c*(b*i))) (λy c b i=>y*c*b*i) d_
 have e2:nT y*(mR (two y)*(oZ y).val)=y⁻¹:=by have h3:=cS (λt=>y⁻¹*t) e1;rw[CR.mul_one,<-CR.mul_assoc,CR.mul_comm y⁻¹ y,h2,CR.one_mul]at h3;exact h3
 rw[<-e2,CR.mul_assoc]
theorem Sz.inv{n:Nat}{y:K}(h:y≠0)(hy:Sz n y):Sz (4*n+12) (oZ y).val:=by have h1:Sz (n+n+4) (two y):=hy.mul hy.nT;have h2:Sz (n+n+4+(n+n+4)+4) (r8 y):=h1.mul h1.mR;have h3:Sz (4*n+12) (r8 y):=h2.mono o_;unfold Sz;rw[Gs (PL h)];obtain⟨a1,a2,a3,a4,a5⟩:=h3;have hp:0<2^(4*n+12):=cT d_;exact dX.low ⟨a5,hp,hp,hp,a1⟩ (PL h)
theorem Sz.div{n:Nat}{y:K}(h:y≠0)(hx:Sz m x)(hy:Sz n y):Sz (m+7*n+28) (x*y⁻¹):=by rw[<-aCm h];have h1:Sz (n+n+4) (two y):=hy.mul hy.nT;exact((hx.mul hy.nT).mul (h1.mR.mul (Sz.inv h hy))).mono o_
end
def sq(n:Nat):Int:=match n with|0=>1|1=>2|2=>3|_=>6
def yD(n:Nat)(a b c:Nat->Int):Nat->Int:=λk=>if Nat.beq k ((n/4) ^^^ (n%4))then c k+sq ((n/4)&&& (n%4))*(a (n/4)*b (n%4))else c k
def kx(a b:Nat->Int):Nat->Nat->Int
 |0=>λ_=>0
 |n+1=>yD n a b (kx a b n)
def m7(n:Nat):Nat:=4+9*(n/4)
def nx(n:Nat):Nat:=m7 n+1+2*(n%4)
def ptr(k:Nat):Value:=.pointer (some ⟨k,0,some 7⟩)
section
variable{Bs:aa}{a b:Nat->Int}
def Vu(n:Nat)(b:Nat->Int):aU:=[(18,qt b),(19,vI (n%4)),(6,vI (n/4)),(7,ptr (m7 n)),(5,ptr 3)]
def I9(n:Nat)(a c:Nat->Int):aL:=[(3,.aI (ic c) 29),(m7 n,.aI (bT (a (n/4))).cs 28)]
theorem PM{n:Nat}{c:Nat->Int}(h:a (n/4)=0\/b (n%4)=0):yD n a b c=c:=by
 funext k
 unfold yD;split
 ·rcases h with h|h<;>rw[h]<;>simp
 ·rfl
theorem Lv:((BA (cO z.natAbs)).toList==(ByteArray.mk #[]).toList)=decide (z=0):=by rw[qZ,qh];omega
theorem aLT(n:Nat)(hn:n<16){c:Nat->Int}{p:Nat}(ha:∀ i,(a i).natAbs<2^p)(hb:∀ i,(b i).natAbs<2^q)(hc:∀ i,(c i).natAbs<2^r)(GB:p+q+3<=aF)(hr:r<=aF):
  ah prog Bs 62 (.block 3 (ai f74 3)) (Vu n b) (I9 n a c) (nx n) ⟨.normal,[],I9 n a (yD n a b c),nx n+2⟩:=by
 have pM:aF<=1099511627776:=by decide
 have sj:∀ m,(sq m).natAbs<2^3:=λm=>by unfold sq;split<;>decide
 have m1:=nR (ha (n/4)) (hb (n%4)) o_ o_;have m2:=nR (sj ((n/4)&&& (n%4))) (eX (ha (n/4)) (hb (n%4))) o_ o_;have ad:=Aw (hc ((n/4) ^^^ (n%4))) (eX (sj ((n/4)&&& (n%4))) (eX (ha (n/4)) (hb (n%4)))) o_ o_;have so:=lP (z:=sq ((n/4)&&& (n%4))) (nq (sj _) d_);by_cases h1:a (n/4)=0
 ·rw[PM (.inl h1)];have e:((BA (cO (a (n/4)).natAbs)).toList==(ByteArray.mk #[]).toList)=true:=by rw[Lv];exact aJ h1
  rcases n with _|_|_|_|_|_|_|_|_|_|_|_|_|_|_|_|n
  all_goals first|omega|exact aG [.rw 25 _ b_ (cS Value.bool e)]
 ·by_cases h2:b (n%4)=0
  ·rw[PM (.inr h2)];have e:((BA (cO (a (n/4)).natAbs)).toList==(ByteArray.mk #[]).toList)=false:=by rw[Lv];exact aY h1
   have e':((BA (cO (b (n%4)).natAbs)).toList==(ByteArray.mk #[]).toList)=true:=by rw[Lv];exact aJ h2
   rcases n with _|_|_|_|_|_|_|_|_|_|_|_|_|_|_|_|n
   all_goals first|omega|exact aG [.rw 25 _ a_ (cS Value.bool e),.rw 29 _ b_ (cS Value.bool e')]
  ·have e:((BA (cO (a (n/4)).natAbs)).toList==(ByteArray.mk #[]).toList)=false:=by rw[Lv];exact aY h1
   have e':((BA (cO (b (n%4)).natAbs)).toList==(ByteArray.mk #[]).toList)=false:=by rw[Lv];exact aY h2
   rcases n with _|_|_|_|_|_|_|_|_|_|_|_|_|_|_|_|n
   all_goals first|omega|exact aG [.rw 25 _ a_ (cS Value.bool e),.rw 29 _ a_ (cS Value.bool e'),so.at 37,m1.at 49,m2.at 50,ad.at 51]
theorem Vv{p q:Nat}(ha:∀ i,(a i).natAbs<2^p)(hb:∀ i,(b i).natAbs<2^q):∀ n,n<=16->∀ k,(kx a b n k).natAbs<=n*2^(p+q+3)
 |0,_,k=>by show(0:Int).natAbs<=_;simp
 |n+1,hn,k=>by
  have ih:=Vv ha hb n o_ k;show(yD n a b (kx a b n) k).natAbs<=_;unfold yD;rw[fZ,qT];split
  ·have sj:∀ m,(sq m).natAbs<2^3:=λm=>by unfold sq;split<;>decide
   have h1:=eX (sj ((n/4)&&& (n%4))) (eX (ha (n/4)) (hb (n%4)));rw[show 3+(p+q)=p+q+3 by omega]at h1;have:=aB7 (kx a b n k) (sq ((n/4)&&& (n%4))*(a (n/4)*b (n%4)));exact dq this (Lw ih (kv h1))
  ·exact dq ih (KT _ _)
end
theorem Lx(f g:Fr):pL (kx (co f) (co g) 16) (f.d*g.d)=ev f g:=by
 apply Fr.ext'
 ·show kx (co f) (co g) 16 0=_;simp[kx,yD,sq,co,ev]
 ·show kx (co f) (co g) 16 1=_;simp[kx,yD,sq,co,ev]
 ·show kx (co f) (co g) 16 2=_;simp[kx,yD,sq,co,ev]
 ·show kx (co f) (co g) 16 3=_;simp[kx,yD,sq,co,ev]
 ·rfl
theorem Ja{f:Fr}{n:Nat}(h:dX n f):∀ i,(co f i).natAbs<2^n
 |0=>h.1
 |1=>h.2.1
 |2=>h.2.2.1
 |_+3=>h.2.2.2.1
theorem aCn:ic (λ_=>0)=[.bool false,.string ⟨#[]⟩,.bool false,.string ⟨#[]⟩,.bool false,.string ⟨#[]⟩,.bool false,.string ⟨#[]⟩]:=by unfold ic;rw[Em];rfl
theorem aLU{f g:Fr}{n:Nat}(hf:dX m f)(hg:dX n g)(wH:f.d≠0)(oS:g.d≠0)(cQ:m+n+8<=aF):aH prog 74 [iK f,iK g] (iK (ev f g).low):=by
 have pM:aF<=1099511627776:=by decide
 have ca:=Ja hf;have cb:=Ja hg;have hl:=El (c:=kx (co f) (co g) 16) (d:=f.d*g.d) (n:=m+n+4) (Ej wH oS) (by rw[Lx];exact hf.mul hg) o_;rw[Lx]at hl;have md:=nR hf.2.2.2.2 hg.2.2.2.2 o_ o_;have hs:∀ i,i<=16->∀ k,(kx (co f) (co g) i k).natAbs<2^(m+n+8):=λi hi k=>by
  have h1:=Vv ca cb i hi k;have h2:i*2^(m+n+3)<=16*2^(m+n+3):=fe _ hi;have h3:2^(m+n+8)=32*2^(m+n+3):=by rw[show m+n+8=5+(m+n+3)by omega,eW]
  have h4:0<2^(m+n+3):=cT d_;omega
 have go:∀(w:h_) (i:Nat),i<16->ah prog (aa.at w) 62 (.block 3 (ai f74 3)) (Vu i (co g)) (I9 i (co f) (kx (co f) (co g) i)) (nx i) ⟨.normal,[],I9 i (co f) (kx (co f) (co g) (i+1)),nx i+2⟩:=λw i hi=>
  aLT i hi ca cb (hs i o_) o_ o_
 have Vw:∀(w:h_),ah prog (aa.at w) 62 (.block 3 (ai f74 3)) (Vu 0 (co g)) [(3,.aI [.bool false,.string ⟨#[]⟩,.bool false,.string ⟨#[]⟩,.bool false,.string ⟨#[]⟩,.bool false,.string ⟨#[]⟩] 29),(m7 0,.aI (bT (co f 0)).cs 28)] (nx 0)
   ⟨.normal,[],I9 0 (co f) (kx (co f) (co g) 1),nx 0+2⟩:=λw=>by
  have h:=go w 0 o_;have e:I9 0 (co f) (kx (co f) (co g) 0)=[(3,.aI [.bool false,.string ⟨#[]⟩,.bool false,.string ⟨#[]⟩,.bool false,.string ⟨#[]⟩,.bool false,.string ⟨#[]⟩] 29),(m7 0,.aI (bT (co f 0)).cs 28)]:=by show[(3,Obj.aI (ic (λ_=>0)) 29),(m7 0,.aI (bT (co f 0)).cs 28)]=_;rw[aCn]
  rw[e]at h;exact h
 generalize kx (co f) (co g)=c at *;exact fk mixed func74 200 (λw=>[.code 3 _ _ _ _ _ (Vw w),.code 3 _ _ _ _ _ (go w 1 o_),.code 3 _ _ _ _ _ (go w 2 o_),.code 3 _ _ _ _ _ (go w 3 o_),.code 3 _ _ _ _ _ (go w 4 o_),.code 3 _ _ _ _ _ (go w 5 o_),.code 3 _ _ _ _ _ (go w 6 o_),.code 3 _ _ _ _ _ (go w 7 o_),.code 3 _ _ _ _ _ (go w 8 o_),.code 3 _ _ _ _ _ (go w 9 o_),.code 3 _ _ _ _ _ (go w 10 o_),.code 3 _ _ _ _ _ (go w 11 o_),.code 3 _ _ _ _ _ (go w 12 o_),.code 3 _ _ _ _ _ (go w 13 o_),.code 3 _ _ _ _ _ (go w 14 o_),.code 3 _ _ _ _ _ (go w 15 o_),md.at 60,hl.at 61]) (λ_=>k_) k_ k_
theorem Jb{y:K}{n:Nat}(hx:Sz m x)(hy:Sz n y)(cQ:m+n+8<=aF):aH prog 74 [bH x,bH y] (bH (x*y)):=by
 have e:bH (x*y)=iK (ev (bX x) (bX y)).low:=by unfold bH cG;rw[Vg];rfl
 rw[e];exact aLU hx hy (by have:=(ll x).pos;omega) (by have:=(ll y).pos;omega) cQ
theorem nU{y:K}{n:Nat}(hx:Sz m x)(hy:Sz n y)(cQ:m+n+8<=aF):aH prog 47 [bH x,bH y] (bH (x*y)):=
 bI func47 (λ_=>[(lp hx o_).at 6,(lp hy o_).at 10,(Jb hx hy cQ).at 16])
theorem aLV:aH prog 73 [bH x,vI 2] (bH (nT x)):=by
 have e:bH (nT x)=iK (yB (bX x)):=by unfold bH cG;rw[aCj];rfl
 rw[e];exact bI func73 (λ_=>[(oY (bX x).c).at 18,(oY (bX x).e).at 18])
theorem aLW:aH prog 73 [bH x,vI 1] (bH (mR x)):=by
 have e:bH (mR x)=iK (yC (bX x)):=by unfold bH cG;rw[aCk];rfl
 rw[e];exact bI func73 (λ_=>[(oY (bX x).b).at 18,(oY (bX x).e).at 18])
theorem aLX:kI 0=0:=rfl
theorem GC{y:K}{n:Nat}(h:y≠0)(hx:Sz m x)(hy:Sz n y)(cQ:m+7*n+40<=aF):aH prog 33 [bH x,bH y] (.tuple #[bH (x*y⁻¹),.int .i64 0]):=by
 have h1:Sz (n+n+4) (two y):=hy.mul hy.nT;have h2:Sz (n+n+4+(n+n+4)+4) (r8 y):=h1.mul h1.mR;have h3:=Sz.inv h hy;have d1:=Jb hy hy.nT o_;have d2:=Jb h1 h1.mR o_;have d3:=Jb hx hy.nT o_;have d4:=Jb h1.mR h3 o_;have d5:=Jb (hx.mul hy.nT) (h1.mR.mul h3) o_;rw[aCm h]at d5;have hi:=El (c:=co (oZ y)) (d:=(oZ y).d) (n:=n+n+4+(n+n+4)+4) (PL h) (by obtain⟨a1,a2,a3,a4,a5⟩:=h2;have hp:0<2^(n+n+4+(n+n+4)+4):=cT d_;exact⟨a5,hp,hp,hp,a1⟩) o_
 have e:pL (co (oZ y)) (oZ y).d=oZ y:=rfl;have e2:iK (oZ y).low=bH (oZ y).val:=by unfold bH cG;rw[Gs (PL h)];rfl
 rw[e,e2]at hi;have e3:qt (co (oZ y))=.agg #[.bool (bT (bX (r8 y)).d).neg,.string (BA (bT (bX (r8 y)).d).bw),.bool false,.string ⟨#[]⟩,.bool false,.string ⟨#[]⟩,.bool false,.string ⟨#[]⟩]:=by show Value.agg #[.bool (bT (bX (r8 y)).d).neg,.string (BA (bT (bX (r8 y)).d).bw),.bool (bT 0).neg,.string (BA (bT 0).bw),.bool (bT 0).neg,.string (BA (bT 0).bw),.bool (bT 0).neg,.string (BA (bT 0).bw)]=_;rw[Em];rfl
 rw[e3]at hi;have e4:(oZ y).d=(bX (r8 y)).a:=rfl;rw[e4]at hi;have z:=r7 (z:=0) d_;have zs:Sz 1 (kI 0):=mh d_ o_;have ne:cG y≠cG (kI 0):=λe=>h (by rw[Gy e];rfl);generalize (oZ y).val=v at *;exact bI func33 (λ_=>[(lp hx o_).at 13,(lp hy o_).at 17,z.at 23,.step 24 (az f33 24) _ _ _ _ (Gw (neg:=true) k_ (cG y) (cG (kI 0)) (tJ hy o_) (tJ zs d_) (b:=false) (by simp;exact ne)),(aLV (x:=y)).at 27,d1.at 30,(aLW (x:=two y)).at 32,d2.at 35,hi.at 42,d3.at 45,d4.at 48,d5.at 49])
theorem aLY(hx:Sz m x)(hm:m<=aF):aH prog 33 [bH x,bH 0] (.tuple #[.agg #[.bool false,.string ⟨#[]⟩,.bool false,.string ⟨#[]⟩,.bool false,.string ⟨#[]⟩,.bool false,.string ⟨#[]⟩,.bool false,.string ⟨#[]⟩],.int .i64 10]):=by have zs:Sz 1 (kI 0):=mh d_ o_;exact bI func33 (λ_=>[(lp hx hm).at 13,(lp (x:=0) zs d_).at 17,(r7 (z:=0) d_).at 23,.step 24 (az f33 24) _ _ _ _ (Gw (neg:=true) k_ (cG 0) (cG (kI 0)) (tJ zs d_) (tJ zs d_) (b:=true) (by simp;rfl))])
theorem Vx{a b s:Int}(ha:a.natAbs<=1)(hs:s.natAbs<=1):aH prog 129 [.int .i64 a,.int .i64 b,.int .i64 s] (.int .i64 (uO a b s)):=by
 have hw:IntKind.i64.wrap (a*s)=a*s:=by
  have h1:a=-1\/a=0\/a=1:=by omega
  rcases h1 with h1|h1|h1<;>rw[h1,eD]<;>omega
 unfold uO;by_cases h1:a=b
 ·rw[aA (.inl h1)];exact bI func129 (λ_=>[.rw 10 (.bool (a==b)) b_ (by rw[h1];simp)])
 ·by_cases h2:b=0
  ·rw[aA (.inr h2)];exact bI func129 (λ_=>[.rw 10 (.bool (a==b)) a_ (by congr 1;simpa using h1),.rw 13 (.bool (b==0)) b_ (by rw[h2];rfl)])
  ·rw[au (λh=>h.elim h1 h2)];by_cases h3:a=0
   ·rw[aA h3];exact bI func129 (λ_=>[.rw 10 (.bool (a==b)) a_ (by congr 1;simpa using h1),.rw 13 (.bool (b==0)) a_ (by congr 1;simpa using h2),.rw 18 (.bool (a==0)) b_ (by rw[h3];rfl)])
   ·rw[au h3];exact bI func129 (λ_=>[.rw 10 (.bool (a==b)) a_ (by congr 1;simpa using h1),.rw 13 (.bool (b==0)) a_ (by congr 1;simpa using h2),.rw 18 (.bool (a==0)) a_ (by congr 1;simpa using h3),.wr 22 .i64 (a*s) (a*s) hw])
theorem GD{k:Int}{x y:Int}{p:Nat}(hk:k.natAbs<2^3)(h1:x.natAbs<2^p)(h2:y.natAbs<2^q)(GB:p+q+3<=aF):aH prog 131 [.int .i64 k,bd x,bd y] (bd (k*(x*y))):=by
 have pM:aF<=1099511627776:=by decide
 exact bI func131 (λ_=>[(lP (z:=k) (nq hk d_)).at 8,(nR h1 h2 o_ o_).at 11,(nR hk (eX h1 h2) o_ o_).at 12])
theorem Jc{k x y:Int}{p:Nat}(hk:k.natAbs<2^3)(h1:x.natAbs<2^p)(h2:y.natAbs<2^q):(k*(x*y)).natAbs<2^(p+q+3):=by have:=eX hk (eX h1 h2);rwa[show 3+(p+q)=p+q+3 by omega]at this
theorem Jd{x y:Int}{p:Nat}(h1:x.natAbs<2^p)(h2:y.natAbs<2^p):(x+y).natAbs<2^(p+1):=by have:=aB7 x y;rw[dH];omega
theorem PN{x y:Int}{p:Nat}(h1:x.natAbs<2^p)(h2:y.natAbs<2^p):(x-y).natAbs<2^(p+1):=by have:=Int.natAbs_sub_le x y;rw[dH];omega
theorem GF(z:Int):z.sign.natAbs<=1:=by
 rcases Pv z 0 with h|h|h
 ·rw[Ge h];decide
 ·rw[h];decide
 ·rw[Cz h];decide
theorem Vy{x y:Int}{p:Nat}(h1:x.natAbs<2^p)(h2:y.natAbs<2^q)(hp:p+p+3<=aF)(hq:q+q+3<=aF):aH prog 128 [bd x,bd y] (.int .i64 (qp x y)):=by
 have pM:aF<=1099511627776:=by decide
 exact bI func128 (λ_=>[(qm x).at 6,(qm y).at 8,(nR h1 h1 o_ o_).at 11,(GD (k:=2) d_ h2 h2 o_).at 14,(UH (eX h1 h1) (Jc (k:=2) d_ h2 h2) o_ o_).at 15,(Vx (b:=y.sign) (s:=(x*x-2*(y*y)).sign) (GF x) (GF _)).at 16])
theorem PO(x y:Int):(qp x y).natAbs<=1:=by
 unfold qp uO;have h1:=GF x;have h2:=GF y;have h3:=GF (x*x-2*(y*y));split
 ·exact h1
 ·split
  ·exact h2
  ·rw[yx];exact dq (yf h1 h3) d_
theorem oB{n:Nat}(hx:Sz n x)(hn:4*n+20<=aF):aH prog 79 [bH x] (.int .i64 (OF.aE x)):=by
 have pM:aF<=1099511627776:=by decide
 have hv:=lp hx o_;rw[aCb];obtain⟨x1,x2,x3,x4,x5⟩:=hx;unfold bH cG at *;generalize bX x=f at *;have s1:=Vy x1 x2 o_ o_;have s2:=Vy x3 x4 o_ o_;have t1:=GD (k:=1) d_ x1 x1 o_;rw[Pl]at t1;have t2:=GD (k:=2) d_ x2 x2 o_;have t3:=GD (k:=3) d_ x3 x3 o_;have t6:=GD (k:=6) d_ x4 x4 o_;have z1:(f.a*f.a).natAbs<2^(n+n+3):=cH (eX x1 x1) (dj d_ o_);have z2:=Jc (k:=2) d_ x2 x2;have z3:=Jc (k:=3) d_ x3 x3;have z6:=Jc (k:=6) d_ x4 x4;have a1:=Aw z1 z2 o_ o_;have a2:=Aw z3 z6 o_ o_;have b1:=Gh (Jd z1 z2) (Jd z3 z6) o_ o_;have u2:=GD (k:=2) d_ x1 x2 o_;have u6:=GD (k:=6) d_ x3 x4 o_;have y2:=Jc (k:=2) d_ x1 x2;have y6:=Jc (k:=6) d_ x3 x4;have b2:=Gh y2 y6 o_ o_;have s3:=Vy (PN (Jd z1 z2) (Jd z3 z6)) (PN y2 y6) o_ o_;have yE:=PO f.a f.b;have Vz:=PO ((f.a*f.a+2*(f.b*f.b))-(3*(f.c*f.c)+6*(f.e*f.e))) (2*(f.a*f.b)-6*(f.c*f.e));have mx:=Vx (b:=qp f.c f.e) yE Vz;have m0:=Vx (a:=qp f.a f.b) (b:=qp f.c f.e) (s:=0) yE d_;unfold PG;generalize qp f.a f.b=p at *;generalize qp f.c f.e=q at *;by_cases h:p=q\/q=0\/p=0
 ·have e:uO p q (qp ((f.a*f.a+2*(f.b*f.b))-(3*(f.c*f.c)+6*(f.e*f.e))) (2*(f.a*f.b)-6*(f.c*f.e)))=uO p q 0:=by
   unfold uO;by_cases h1:p=q\/q=0
   ·rw[aA h1,aA h1]
   ·rw[au h1,au h1];have h2:p=0:=by
     rcases h with h|h|h
     ·exact absurd (.inl h) h1
     ·exact absurd (.inr h) h1
     ·exact h
    rw[aA h2,aA h2]
  rw[e];by_cases h1:p=q
  ·exact bI func79 (λ_=>[hv.at 12,s1.at 28,s2.at 31,.rw 34 (.bool (p==q)) b_ (by rw[h1];simp),m0.at 45])
  ·by_cases h2:q=0
   ·exact bI func79 (λ_=>[hv.at 12,s1.at 28,s2.at 31,.rw 34 (.bool (p==q)) a_ (by congr 1;simpa using h1),.rw 37 (.bool (q==0)) b_ (by rw[h2];rfl),m0.at 45])
   ·have h3:p=0:=by
     rcases h with h|h|h
     ·exact absurd h h1
     ·exact absurd h h2
     ·exact h
    exact bI func79 (λ_=>[hv.at 12,s1.at 28,s2.at 31,.rw 34 (.bool (p==q)) a_ (by congr 1;simpa using h1),.rw 37 (.bool (q==0)) a_ (by congr 1;simpa using h2),.rw 41 (.bool (p==0)) b_ (by rw[h3];rfl),m0.at 45])
 ·have h1:p≠q:=λe=>h (.inl e);have h2:q≠0:=λe=>h (.inr (.inl e));have h3:p≠0:=λe=>h (.inr (.inr e));exact bI func79 (λ_=>[hv.at 12,s1.at 28,s2.at 31,.rw 34 (.bool (p==q)) a_ (by congr 1;simpa using h1),.rw 37 (.bool (q==0)) a_ (by congr 1;simpa using h2),.rw 41 (.bool (p==0)) a_ (by congr 1;simpa using h3),t1.at 48,t2.at 51,a1.at 52,t3.at 55,t6.at 58,a2.at 59,b1.at 60,u2.at 63,u6.at 66,b2.at 67,s3.at 72,mx.at 73])
theorem kM{y:K}{n:Nat}(hx:Sz m x)(hy:Sz n y)(cQ:4*(m+n)+24<=aF):aH prog 39 [bH x,bH y] (.int .i64 (OF.aE (x-y))):=
 bI func39 (λ_=>[(CH hx hy o_).at 7,(oB (hx.sub hy) o_).at 8])
def jo(x:K):K:=if OF.aE x<0 then -x else x
theorem VA{n:Nat}(hx:Sz n x)(hn:4*n+20<=aF):aH prog 213 [bH x] (bH (jo x)):=by
 unfold jo;have n1:=w6 hx o_;have n2:=w6 hx.neg o_;rw[CR.neg_neg]at n2;by_cases h:OF.aE x<0
 ·rw[aA h];exact bI func213 (λ_=>[(oB hx hn).at 4,.rw 5 (.bool (decide (OF.aE x<0))) b_ (by rw[aJ h]),n1.at 7])
 ·rw[au h];exact bI func213 (λ_=>[(oB hx hn).at 4,.rw 5 (.bool (decide (OF.aE x<0))) a_ (by rw[aY h]),n1.at 9,n2.at 10])
theorem aCo{o:Nat}{x:Obj}(h:ke ι w (.at b o cap) x)(hx:x.owns=true):∃ cs ty,w.heap[b]?=some (.cells cs ty (0,0)):=by
 cases x with
 |aI cells ty=>
  obtain⟨b',ct,e,_,h2⟩:=h;injection e with e _ _;subst e;exact⟨_,_,h2⟩
 |row cells ty size=>
  rcases h with ⟨h,_⟩|⟨b',aT,cur,e,h2,_⟩
  ·cases h
  ·injection e with e _ _;subst e;exact⟨_,_,h2⟩
 |_=>cases hx
def Obj.soft:Obj->Bool
 |.view _=>true
 |.fact F=>!F.rc
 |_=>false
theorem PQ{x:Obj}(h:x.soft=true)(k:x.owns=true):False:=by cases x<;>simp[Obj.soft,Obj.owns]at h k
theorem PR{F:Fact}(h:(Obj.fact F).soft=true):F.rc=false:=by simpa[Obj.soft]using h
def Else(w:h_)(l:Nat):Prop:=∀ cs ty f,w.heap[l]?≠some (.cells cs ty f)
theorem PS{l:Nat}{r:Loop}(h:w.heap[l]?=some (.loop r)):Else w l:=λcs ty f e=>by rw[h]at e;cases e
theorem aLZ{l:Nat}{r:Option (List Deferred)}(h:w.heap[l]?=some (.deferred r)):Else w l:=λcs ty f e=>by rw[h]at e;cases e
theorem PT{loc:qc}{x:Obj}{l:Nat}(hl:Else w l)(h:ke ι w loc x)(hx:∀ F,x=.fact F->F.rc=false)(hz:w.heap.size<=w'.heap.size)
  (hs:∀ b o cap,x.owns=true\/x.kF=true->loc=.at b o cap->b=l\/w'.heap[b]?=w.heap[b]?) (hf:∀ F v b,x=.fact F->loc=.val v->F.cY v w b->b=l\/w'.heap[b]?=w.heap[b]?):ke ι w' loc x:=by
 cases x with
 |aI cells ty=>
  obtain⟨b,ct,e,h1,h2⟩:=h;rcases hs b 0 0 (.inl rfl) e with rfl|hb
  ·exact absurd h2 (hl _ _ _)
  ·exact⟨b,ct,e,h1,by rw[hb];exact h2⟩
 |row cells ty size=>
  rcases h with h|⟨b,cap,cur,e,h1,h2⟩
  ·exact .inl h
  ·rcases hs b 0 cap (.inl rfl) e with rfl|hb
   ·exact absurd h1 (hl _ _ _)
   ·exact .inr ⟨b,cap,cur,e,by rw[hb];exact h1,h2⟩
 |view cells=>
  rcases h with h|⟨b,o,cap,ct,e,h1,h2⟩
  ·exact .inl h
  ·rcases hs b o cap (.inr rfl) e with rfl|hb
   ·have:ct=[]:=by
     cases ct with
     |nil=>rfl
     |cons u t=>
      have:=h2 0 u rfl;unfold World.cell? at this;dsimp only at this;split at this
      ·rename_i h3;exact absurd h3 (hl _ _ _)
      ·cases this
    subst this;exact .inr ⟨b,o,cap,[],e,h1,λj u hj=>by cases hj⟩
   ·exact .inr ⟨b,o,cap,ct,e,h1,λj u hj=>by rw[World.cell?_of_block (w:=w) (w':=w') (a:=⟨b,o+j,none⟩) hb];exact h2 j u hj⟩
 |fact F=>
  obtain⟨v,e,h1⟩:=h;refine⟨v,e,(F.soft (hx F rfl) v w w' h1 hz λk hk cs ty f hc=>?_).1⟩;rcases hf F v k rfl e hk with rfl|hb
  ·exact absurd hc (hl _ _ _)
  ·rw[hb];exact hc
 |dead=>trivial
theorem PU{B1 B2:aa}{c2:g_}{w1 w2:h_}{L:aL}(h:aO B1 ι c w1)(hL:cZ c L)(tf:∀ k x,ak L k=some x->κ k=ι k)
  (aL0:∀ k x l,ak L k=some x->ι k=some l->ke ι w1 l x->ke κ w2 l x) (aL1:B2.G w2) (Kf:∀ k x b o cap,ak L k=some x->x.owns=true->ι k=some (.at b o cap)->¬B2.cY b)
  (zR:w1.heap.size<=w2.heap.size) (T7:∀ k,c2 k=none->κ k=none) (du:∀ k x,c2 k=some x->ak L k=some x\/(x=.dead/\∃ l,κ k=some l)) (VB:∀ k F,ak L k=some (.fact F)->F.rc=true->B2.Fa F) (GG:∀ k F v b,ak L k=some (.fact F)->ι k=some (.val v)->F.cY v w2 b->F.cY v w1 b)
  (hle:Map.le B2.mp κ):aO B2 κ c2 w2:=by
 have src:∀{k x},c2 k=some x->x≠.dead->c k=some x/\κ k=ι k/\ak L k=some x:=λ{k x} hk hx=>by
  rcases du k x hk with h1|⟨h1,_⟩
  ·exact⟨hL k x h1,tf k x h1,h1⟩
  ·exact absurd h1 hx
 have nd:∀{x:Obj},x.owns=true->x≠.dead:=λh e=>by subst e;cases h
 have nv:∀{x:Obj},x.kF=true->x≠.dead:=λh e=>by subst e;cases h
 refine⟨aL1,T7,?_,?_,?_,?_,?_,?_,?_,hle⟩
 ·intro k x hk;rcases du k x hk with h1|⟨rfl,l,hl⟩
  ·obtain⟨l,e1,e2⟩:=h.born k x (hL k x h1);exact⟨l,(tf k x h1).trans e1,aL0 k x l h1 e1 e2⟩
  ·exact⟨l,hl,trivial⟩
 ·intro k x b o cap hk hx hl;obtain⟨q1,q2,q3⟩:=src hk (nd hx);rw[q2]at hl;exact⟨cH (h.own k x b o cap q1 hx hl).1 zR,Kf k x b o cap q3 hx hl⟩
 ·intro k j x y b o cap o' aT hk hx hj hy hl cD;obtain⟨q1,q2,_⟩:=src hk (nd hx);obtain⟨p1,p2,_⟩:=src hj (nd hy);exact h.inj k j x y b o cap o' aT q1 hx p1 hy (q2▸hl) (p2▸cD)
 ·intro k j x F b o cap v hk hx hl hj hv;obtain⟨q1,q2,_⟩:=src hk (nd hx);obtain⟨p1,p2,p3⟩:=src hj n_;intro hF;exact h.apart k j x F b o cap v q1 hx (q2▸hl) p1 (p2▸hv) (GG j F v b p3 (p2▸hv) hF)
 ·intro k x b o cap hk hx hl;obtain⟨q1,q2,_⟩:=src hk (nv hx);obtain⟨s1,s2⟩:=h.seen k x b o cap q1 hx (q2▸hl);refine⟨cH s1 zR,λj y o' aT hj hy hm=>?_⟩;obtain⟨p1,p2,_⟩:=src hj (nd hy);exact s2 j y o' aT p1 hy (p2▸hm)
 ·intro j F hj;exact VB j F (src hj n_).2.2
 ·intro j k F F' hj hk;exact h.one j k F F' (src hj n_).1 (src hk n_).1
def fV(l:Nat)(r:Loop):Fact where
 G _ W:=W.heap[l]?=some (.loop r)
 cY _ _ k:=k=l
 lt _ w k h hk:=by subst hk;exact(Ac.1 h).1
 dep _ w w' h _ hk:=⟨(hk l rfl).trans h,λk h=>h⟩
 rc:=true
 soft h:=by cases h
def lq(W1:h_)(l:Nat)(S:Nat->Prop)(m:Map):aa where
 G W:=uk W1 W/\W.tape=W1.tape/\W.output=W1.output/\W1.heap.size<=W.heap.size/\∀ k,k<W1.heap.size->¬S k->k≠l->W.heap[k]?=W1.heap[k]?
 cY k:=k<W1.heap.size/\¬S k/\k≠l
 Fa F:=∃ r,F=fV l r
 mp:=m
 lt w k h hk:=cH hk.1 h.2.2.2.1
 dep w w' h h1 h2 h3 h4 h5:=⟨h1.trans h.1,h2.trans h.2.1,h3.trans h.2.2.1,dq h.2.2.2.1 h4,λk hk hS hl=>(h5 k ⟨hk,hS,hl⟩).trans (h.2.2.2.2 k hk hS hl)⟩
section
variable{W1 W:h_}{l g:Nat}{S:Nat->Prop}{m ι:Map}{c:g_}{r r':Loop}
theorem CI(h:aO B ι c W)(hg:c g=some (.fact (fV l r))):W.heap[l]?=some (.loop r):=by obtain⟨lc,hl,v,_,hr⟩:=h.born g _ hg;exact hr
theorem aCp(h:aO (lq W1 l S m) ι c W)(hg:c g=some (.fact (fV l r))):aO (lq W1 l S m) ι (bA c g (.fact (fV l r'))) (W.putObj l (.loop r')):=by
 have hr:=CI h hg;have ao:=(Ac.1 hr).1;have tK:=PS hr;have ne:∀ b,b≠l->(W.putObj l (.loop r')).heap[b]?=W.heap[b]?:=λb hb=>aCq hb;have de:∀ j y,j≠g->bA c g (.fact (fV l r')) j=some y->c j=some y:=λj y hj e=>by unfold bA at e;rw[au hj]at e;exact e
 have new:∀ y,bA c g (.fact (fV l r')) g=some y->y=.fact (fV l r'):=λy e=>by unfold bA at e;rw[aA rfl]at e;injection e with e;exact e.symm
 have nf:∀ j y,j≠g->c j=some y->∀ F,y=.fact F->F.rc=false:=λj y hj e F e2=>by
  subst e2;cases hr:F.rc with
  |false=>rfl
  |true=>exact absurd (h.one j g F _ e hg hr rfl) hj
 have og:∀ j y,bA c g (.fact (fV l r')) j=some y->y.owns=true\/y.kF=true->c j=some y:=λj y e hy=>by
  by_cases hj:j=g
  ·subst hj;rw[new y e]at hy;rcases hy with hy|hy<;>cases hy
  ·exact de j y hj e
 refine⟨⟨h.base.1,h.base.2.1,h.base.2.2.1,by rw[vV];exact h.base.2.2.2.1,λk hk hS hl=>(ne k hl).trans (h.base.2.2.2.2 k hk hS hl)⟩,?_,?_,?_,?_,?_,?_,?_,?_,h.pk⟩
 ·intro j hj;unfold bA at hj;by_cases mn:j=g
  ·rw[aA mn]at hj;cases hj
  ·rw[au mn]at hj;exact h.dD j hj
 ·intro j y hj;by_cases mn:j=g
  ·subst mn;rw[new y hj];obtain⟨lc,hl,v,e,_⟩:=h.born j _ hg;exact⟨lc,hl,v,e,World.putObj_heap_same ao⟩
  ·have hc:=de j y mn hj;obtain⟨lc,hl,ho⟩:=h.born j y hc;exact⟨lc,hl,PT tK ho (nf j y mn hc) (by rw[vV];exact bF _) (λb o cap _ _=>(Nat.decEq b l).casesOn (λhb=>.inr (ne b hb)) λhb=>.inl hb) λF v b _ _ _=>(Nat.decEq b l).casesOn (λhb=>.inr (ne b hb)) λhb=>.inl hb⟩
 ·intro k x b o cap hk hx hl;rw[vV];exact h.own k x b o cap (og k x hk (.inl hx)) hx hl
 ·intro k j x y b o cap o' aT hk hx hj hy;exact h.inj k j x y b o cap o' aT (og k x hk (.inl hx)) hx (og j y hj (.inl hy)) hy
 ·intro k j x F b o cap v hk hx hl hj hv hF;have gV:=og k x hk (.inl hx);by_cases mn:j=g
  ·subst mn;have e:=new _ hj;injection e with e;subst e;exact h.apart k j x _ b o cap v gV hx hl hg hv hF
  ·have gU:=de j _ mn hj;obtain⟨lc,q1,v',q2,q3⟩:=h.born j _ gU;rw[hv]at q1;injection q1 with q1;subst q1;injection q2 with q2;subst q2;refine h.apart k j x F b o cap v gV hx hl gU hv ((F.soft (nf j _ mn gU F rfl) v W _ q3 (by rw[vV];exact bF _) λk2 fX cs ty f hc=>?_).2 b hF);rw[ne k2 (λe=>by subst e;exact tK _ _ _ hc)];exact hc
 ·intro k x b o cap hk hx hl;rw[vV];obtain⟨q1,q2⟩:=h.seen k x b o cap (og k x hk (.inr hx)) hx hl;exact⟨q1,λj y o' aT hj hy=>q2 j y o' aT (og j y hj (.inl hy)) hy⟩
 ·intro j F hj;by_cases mn:j=g
  ·subst mn;have e:=new _ hj;injection e with e;exact λ_=>⟨r',e⟩
  ·exact h.fa j F (de j _ mn hj)
 ·intro j k F F' hj hk hr sW;by_cases mn:j=g
  ·by_cases mS:k=g
   ·rw[mn,mS]
   ·have:=nf k _ mS (de k _ mS hk) F' rfl;rw[sW]at this;cases this
  ·have:=nf j _ mn (de j _ mn hj) F rfl;rw[hr]at this;cases this
end
section
variable{P:j_}{W1 W W4:h_}{l g next:Nat}{S:Nat->Prop}{m ι:Map}{c:g_}{r r2:Loop}
def w7(ι:Map)(next:Nat):Map:=λk=>if k<next then ι k else none
def pN(c:g_)(next:Nat)(L:aL):g_:=λk=>if k<next then(match ak L k with|some x=>some x|none=>(c k).map λ_=>.dead)else none
theorem yF(h:k<next):w7 ι next k=ι k:=by unfold w7;rw[aA h]
theorem aL2(h:aO (lq W1 l S m) ι c W)(hg:c g=some (.fact (fV l r)))(VC:g<next){L:aL}(hL:cZ c L)(GH:ak L g=none)(dG:∀ k x,ak L k=some x->k<next/\fR next x)
  (qI:∀ k F,ak L k=some (.fact F)->F.rc=false) (hS:∀ k x b o cap,ak L k=some x->x.owns=true->ι k=some (.at b o cap)->S b) :
  aO (lq W l S (w7 ι next)) (w7 ι next) (pN c next ((g,.fact (fV l r))::L)) W/\cZ (pN c next ((g,.fact (fV l r))::L)) L/\pN c next ((g,.fact (fV l r))::L) g=some (.fact (fV l r))/\eG (pN c next ((g,.fact (fV l r))::L)) next:=by
 have hr:=CI h hg;have VD:∀ k,ak ((g,.fact (fV l r))::L) k=if g=k then some (.fact (fV l r))else ak L k:=λk=>by
  show(if Nat.beq g k then _ else _)=_;by_cases e:g=k
  ·subst e;simp
  ·rw[au e,om e];rfl
 have jG:∀ k x,ak ((g,.fact (fV l r))::L) k=some x->k<next/\c k=some x/\(x=.fact (fV l r)/\k=g\/ak L k=some x):=λk x e=>by
  rw[VD]at e;by_cases hk:g=k
  ·subst hk;rw[aA rfl]at e;injection e with e;subst e;exact⟨VC,hg,.inl ⟨rfl,rfl⟩⟩
  ·rw[au hk]at e;exact⟨(dG k x e).1,hL k x e,.inr e⟩
 refine⟨PU (L:=(g,.fact (fV l r))::L) h (λk x e=>(jG k x e).2.1) (λk x e=>yF (jG k x e).1) (λk x lc e _ ho=>?_) ⟨.refl _,rfl,rfl,bF _,λ_ _ _ _=>rfl⟩ (λk x b o cap e hx hb hF=>?_) (bF _) (λk e=>?_) (λk x e=>?_) (λk F e=>?_) (λ_ _ _ _ _ _ h=>h) (Map.le.refl _),λk x e=>?_,?_,λk hk=>?_⟩
 ·rcases(jG k x e).2.2 with ⟨rfl,_⟩|e
  ·exact ho
  ·exact ho.below (λk hk l e=>by rw[yF hk];exact e) (dG k x e).2
 ·rcases(jG k x e).2.2 with ⟨rfl,_⟩|e
  ·cases hx
  ·exact hF.2.1 (hS k x b o cap e hx hb)
 ·unfold pN at e;unfold w7;split at e
  ·rename_i hk;rw[aA hk];split at e
   ·cases e
   ·cases hc:c k with
    |none=>exact h.dD k hc
    |some x=>rw[hc]at e;cases e
  ·rename_i hk;rw[au hk]
 ·unfold pN at e;split at e
  ·rename_i hk;split at e
   ·rename_i y hy;injection e with e;subst e;exact .inl hy
   ·cases hc:c k with
    |none=>rw[hc]at e;cases e
    |some y=>
     rw[hc]at e;injection e with e;obtain⟨lc,q,_⟩:=h.born k y hc;exact .inr ⟨e.symm,lc,by rw[yF hk];exact q⟩
  ·cases e
 ·rcases(jG k _ e).2.2 with ⟨e,_⟩|e
  ·injection e with e;exact λ_=>⟨r,e⟩
  ·exact λhr=>by rw[qI k F e]at hr;cases hr
 ·unfold pN;rw[aA (dG k x e).1,VD,au (λh=>by subst h;rw[GH]at e;cases e),e]
 ·unfold pN;rw[aA VC,VD,aA rfl]
 ·unfold pN;rw[au o_]
theorem aL3(h:aO (lq W1 l S m) ι c W)(hg:c g=some (.fact (fV l r)))(hO:cZ c Os)(VE:ak Os g=none)(ee:∀ k x,ak Os k=some x->x.owns=true)(tL:∀ k x,ak cA k=some x->x.owns=true)
  (kJ:∀ k,ak cA k=none↔ak Os k=none) (hS:∀ b,S b->∃ k x o cap,ak Os k=some x/\ι k=some (.at b o cap)) (ki:∀ k x,ak cA k=some x->fR next x)
  {aB:Map} {c':g_} {aL4:Map} (hm:aO (lq W l S aL4) aB c' W4) (PV:c' g=some (.fact (fV l r2))) (tO:cZ c' cA) (dG:∀ k,k<next->∀ lc,aB k=some lc->ι k=some lc)
  (VC:g<next) (oU:∀ k x,ak cA k=some x->k<next):aO (lq W1 l S m) ι (mH c ((g,.fact (fV l r2))::cA)) W4:=by
 have hr:=CI h hg;have hr4:=CI hm PV;have tK:=PS hr;have aL5:=PS hr4;have bL:W.heap.size<=W4.heap.size:=hm.base.2.2.2.1;have aI:∀ b,b<W.heap.size->¬S b->b≠l->W4.heap[b]?=W.heap[b]?:=hm.base.2.2.2.2
 -- yy kinds of marks
 have kinds:∀ k x,mH c ((g,.fact (fV l r2))::cA) k=some x->(k=g/\x=.fact (fV l r2))\/(k≠g/\ak cA k=some x/\c' k=some x/\x.owns=true)\/(k≠g/\ak Os k=none/\c k=some x/\∀ F,x=.fact F->F.rc=false):=λk x e=>by
  rw[wL]at e;by_cases hk:k=g
  ·subst hk;have:ak ((k,Obj.fact (fV l r2))::cA) k=some (.fact (fV l r2)):=by show(if Nat.beq k k then _ else _)=_;simp
   rw[this]at e;injection e with e;exact .inl ⟨rfl,e.symm⟩
  ·have:ak ((g,Obj.fact (fV l r2))::cA) k=ak cA k:=by show(if Nat.beq g k then _ else _)=_;rw[om (kV hk)];rfl
   rw[this]at e;cases ho:ak cA k with
   |some y=>rw[ho]at e;injection e with e;subst e;exact .inr (.inl ⟨hk,rfl,tO k y ho,tL k y ho⟩)
   |none=>
    rw[ho]at e;refine .inr (.inr ⟨hk,(kJ k).1 ho,e,λF ef=>?_⟩);subst ef;cases hr:F.rc with
    |false=>rfl
    |true=>exact absurd (h.one k g F _ e hg hr rfl) hk
 -- the map is the same at the marks of the list
 have same:∀ k x,ak cA k=some x->aB k=ι k:=λk x e=>by obtain⟨lc,q,_⟩:=hm.born k x (tO k x e);rw[q,dG k (oU k x e) lc q]
 have En:∀ k x b o cap,ak Os k=none->c k=some x->x.owns=true->ι k=some (.at b o cap)->¬S b:=λk x b o cap hn hc hx hl hs=>by obtain⟨k',x',o',aT,e1,e2⟩:=hS b hs;have:=h.inj k k' x x' b o cap o' aT hc hx (hO k' x' e1) (ee k' x' e1) hl e2;subst this;rw[hn]at e1;cases e1
 have Eo:∀ k x b o cap,c k=some x->x.kF=true->ι k=some (.at b o cap)->¬S b:=λk x b o cap hc hx hl hs=>by obtain⟨k',x',o',aT,e1,e2⟩:=hS b hs;exact(h.seen k x b o cap hc hx hl).2 k' x' o' aT (hO k' x' e1) (ee k' x' e1) e2
 have yG:∀ k F v b,c k=some (.fact F)->ι k=some (.val v)->F.cY v W b->¬S b:=λk F v b hc hl hF hs=>by obtain⟨k',x',o',aT,e1,e2⟩:=hS b hs;exact h.apart k' k x' F b o' aT v (hO k' x' e1) (ee k' x' e1) e2 hc hl hF
 have aCr:∀ k x b o cap,c k=some x->x.owns=true->ι k=some (.at b o cap)->b≠l:=λk x b o cap hc hx hl e=>by obtain⟨lc,q1,q2⟩:=h.born k x hc;rw[hl]at q1;injection q1 with q1;subst q1;obtain⟨cs,ty,q⟩:=aCo q2 hx;subst e;exact tK _ _ _ q
 have VF:∀ k x b o cap,c' k=some x->x.owns=true->aB k=some (.at b o cap)->b≠l:=λk x b o cap hc hx hl e=>by obtain⟨lc,q1,q2⟩:=hm.born k x hc;rw[hl]at q1;injection q1 with q1;subst q1;obtain⟨cs,ty,q⟩:=aCo q2 hx;subst e;exact aL5 _ _ _ q
 -- a block of the aWS is none of the aWT
 have part:∀ k x b o cap j y o' aT,ak cA k=some x->ι k=some (.at b o cap)->ak Os j=none->c j=some y->y.owns=true->ι j=some (.at b o' aT)->False:=λk x b o cap j y o' aT hk hl hj hc hy cD=>by
  rcases fo b W.heap.size with ao|gw
  ·have hx:=tL k x hk;have q:=(hm.own k x b o cap (tO k x hk) hx (by rw[same k x hk];exact hl)).2;have h1:=En j y b o' aT hj hc hy cD;have h2:=aCr j y b o' aT hc hy cD;exact q ⟨ao,h1,h2⟩
  ·have:=(h.own j y b o' aT hc hy cD).1;omega
 refine⟨?_,?_,?_,?_,?_,?_,?_,?_,?_,h.pk⟩
 ·refine⟨hm.base.1.trans h.base.1,hm.base.2.1.trans h.base.2.1,hm.base.2.2.1.trans h.base.2.2.1,dq h.base.2.2.2.1 bL,λk hk hs hl=>?_⟩;exact(aI k (cH hk h.base.2.2.2.1) hs hl).trans (h.base.2.2.2.2 k hk hs hl)
 ·intro k hk;rw[wL]at hk;cases ho:ak ((g,Obj.fact (fV l r2))::cA) k with
  |some y=>rw[ho]at hk;cases hk
  |none=>rw[ho]at hk;exact h.dD k hk
 ·intro k x hk;rcases kinds k x hk with ⟨rfl,rfl⟩|⟨mS,h1,h2,h3⟩|⟨mS,h1,h2,h3⟩
  ·obtain⟨lc,q1,v,q2,_⟩:=h.born k _ hg;exact⟨lc,q1,v,q2,hr4⟩
  ·obtain⟨lc,q1,q2⟩:=hm.born k x h2;exact⟨lc,by rw[<-same k x h1];exact q1,q2.below dG (ki k x h1)⟩
  ·obtain⟨lc,q1,q2⟩:=h.born k x h2;refine⟨lc,q1,PT tK q2 h3 bL (λb o cap hx e=>?_) λF v b e1 e2 hF=>?_⟩;rotate_left
   ·by_cases gD:b=l
    ·exact .inl gD
    ·subst e1;subst e2;exact .inr (aI b (q2.xL rfl hF) (yG k F v b h2 q1 hF) gD)
   by_cases gD:b=l
   ·exact .inl gD
   ·right;subst e;rcases hx with hx|hx
    ·exact aI b (h.own k x b o cap h2 hx q1).1 (En k x b o cap h1 h2 hx q1) gD
    ·exact aI b (h.seen k x b o cap h2 hx q1).1 (Eo k x b o cap h2 hx q1) gD
 ·intro k x b o cap hk hx hl;rcases kinds k x hk with ⟨rfl,rfl⟩|⟨mS,h1,h2,h3⟩|⟨mS,h1,h2,h3⟩
  ·cases hx
  ·obtain⟨q1,q2⟩:=hm.own k x b o cap h2 hx (by rw[same k x h1];exact hl);exact⟨q1,λhF=>q2 ⟨cH hF.1 h.base.2.2.2.1,hF.2⟩⟩
  ·obtain⟨q1,q2⟩:=h.own k x b o cap h2 hx hl;exact⟨cH q1 bL,q2⟩
 ·intro k j x y b o cap o' aT hk hx hj hy hl cD;rcases kinds k x hk with ⟨rfl,rfl⟩|⟨mS,h1,h2,h3⟩|⟨mS,h1,h2,h3⟩
  ·cases hx
  ·rcases kinds j y hj with ⟨rfl,rfl⟩|⟨mn,p1,p2,p3⟩|⟨mn,p1,p2,p3⟩
   ·cases hy
   ·exact hm.inj k j x y b o cap o' aT h2 hx p2 hy (by rw[same k x h1];exact hl) (by rw[same j y p1];exact cD)
   ·exact(part k x b o cap j y o' aT h1 hl p1 p2 hy cD).elim
  ·rcases kinds j y hj with ⟨rfl,rfl⟩|⟨mn,p1,p2,p3⟩|⟨mn,p1,p2,p3⟩
   ·cases hy
   ·exact(part j y b o' aT k x o cap p1 cD h1 h2 hx hl).elim
   ·exact h.inj k j x y b o cap o' aT h2 hx p2 hy hl cD
 ·intro k j x F b o cap v hk hx hl hj hv hF;rcases kinds j _ hj with ⟨rfl,e⟩|⟨mn,p1,p2,p3⟩|⟨mn,p1,p2,p3⟩
  ·injection e with e;subst e;have w9:b=l:=hF;rcases kinds k x hk with ⟨rfl,rfl⟩|⟨mS,h1,h2,h3⟩|⟨mS,h1,h2,h3⟩
   ·cases hx
   ·exact VF k x b o cap h2 hx (by rw[same k x h1];exact hl) w9
   ·exact aCr k x b o cap h2 hx hl w9
  ·cases p3
  ·have hF:F.cY v W b:=by obtain⟨lc,q1,v',q2,q3⟩:=h.born j _ p2;rw[hv]at q1;injection q1 with q1;subst q1;injection q2 with q2;subst q2;refine(F.soft (p3 F rfl) v W W4 q3 bL λk2 fX cs ty f hc=>?_).2 b hF;rw[aI k2 (F.lt v W k2 q3 fX) (yG j F v k2 p2 hv fX) (λe=>by subst e;exact tK _ _ _ hc)];exact hc
   rcases kinds k x hk with ⟨rfl,rfl⟩|⟨mS,h1,h2,h3⟩|⟨mS,h1,h2,h3⟩
   ·cases hx
   ·have cD:aB k=some (.at b o cap):=by rw[same k x h1];exact hl
    have hb:b<W.heap.size:=by obtain⟨lc,q1,q2⟩:=h.born j _ p2;rw[hv]at q1;injection q1 with q1;subst q1;exact q2.xL rfl hF
    exact(hm.own k x b o cap h2 hx cD).2 ⟨hb,yG j F v b p2 hv hF,VF k x b o cap h2 hx cD⟩
   ·exact h.apart k j x F b o cap v h2 hx hl p2 hv hF
 ·intro k x b o cap hk hx hl;rcases kinds k x hk with ⟨rfl,rfl⟩|⟨mS,h1,h2,h3⟩|⟨mS,h1,h2,h3⟩
  ·cases hx
  ·cases x<;>simp[Obj.owns,Obj.kF]at h3 hx
  ·obtain⟨q1,q2⟩:=h.seen k x b o cap h2 hx hl;refine⟨cH q1 bL,λj y o' aT hj hy cD=>?_⟩;rcases kinds j y hj with ⟨rfl,rfl⟩|⟨mn,p1,p2,p3⟩|⟨mn,p1,p2,p3⟩
   ·cases hy
   ·have jG:aB j=some (.at b o' aT):=by rw[same j y p1];exact cD
    exact(hm.own j y b o' aT p2 hy jG).2 ⟨q1,Eo k x b o cap h2 hx hl,VF j y b o' aT p2 hy jG⟩
   ·exact q2 j y o' aT p2 hy cD
 ·intro j F hj;rcases kinds j _ hj with ⟨_,e⟩|⟨_,_,_,h3⟩|⟨_,_,_,h3⟩
  ·injection e with e;exact λ_=>⟨r2,e⟩
  ·cases h3
  ·exact λhr=>by rw[h3 F rfl]at hr;cases hr
 ·intro j k F F' hj hk hr sW;rcases kinds j _ hj with ⟨e1,_⟩|⟨_,_,_,h3⟩|⟨_,_,_,h3⟩
  ·rcases kinds k _ hk with ⟨e2,_⟩|⟨_,_,_,h3⟩|⟨_,_,_,h3⟩
   ·rw[e1,e2]
   ·cases h3
   ·rw[h3 F' rfl]at sW;cases sW
  ·cases h3
  ·rw[h3 F rfl]at hr;cases hr
end
def PW:aU->aU->aU
 |[],fr=>fr
 |p::l,fr=>PW l (p::fr)
theorem aCs{m:Map}{N:Nat}:∀(l:aU) {fr:aU} {T:p_},T.size=N->(∀ t,oe m (bM fr t) (T.getD t undef))->(∀ p∈l,p.1<N/\flat p.2=true)->
  (l.foldl (λt p=>t.setIfInBounds p.1 p.2) T).size=N/\∀ t,oe m (bM (PW l fr) t) ((l.foldl (λt p=>t.setIfInBounds p.1 p.2) T).getD t undef)
 |[],fr,T,hT,h,_=>⟨hT,h⟩
 |(p,v)::l,fr,T,hT,h,hl=>by
  obtain⟨h1,h2⟩:=hl (p,v) (aR ..);dsimp only at h1 h2;refine aCs l (fr:=(p,v)::fr) (T:=T.setIfInBounds p v) (by simpa using hT) (λt=>?_) λq hq=>hl q (bK _ hq);by_cases e:p=t
  ·subst e;have e1:bM ((p,v)::fr) p=v:=by simp[bM]
   have e2:(T.setIfInBounds p v).getD p undef=v:=by rw[qO,Array.getElem?_setIfInBounds_self_of_lt o_];rfl
   rw[e1,e2];exact .inr (.same h2)
  ·have e1:bM ((p,v)::fr) t=bM fr t:=by show(if Nat.beq p t then _ else _)=_;rw[om e];rfl
   have e2:(T.setIfInBounds p v).getD t undef=T.getD t undef:=by rw[qO,qO,Te e]
   rw[e1,e2];exact h t
def exJ:Ex->Option Code
 |.normal=>none
 |.ret=>some .ret
 |.exit id=>some (.exit id)
def ky(cP:FuncId)(T:p_)(ps:Array Tmp)(hJ fC:Code)(D:Nat):Loop:={ state:=.ready,pending:=none,fn:=cP,tmps:=T,params:=ps,assign:=hJ,body:=fC,defers:=D }
def Ep(r:Loop)(j:Option Code):Loop:={ r with state:=if j.isNone then .ready else .done,pending:=j }
section
variable{P:j_}{W1:h_}{l g next N D:Nat}{S:Nat->Prop}{m:Map}
theorem PX{L:aL}(h:∀ p∈L.map (λp=>(p.1,some p.2)),c p.1=p.2):cZ c L:=λk x e=>h (k,some x) (df.2 ⟨(k,x),kW e,rfl⟩)
structure GI(P:j_)(next N:Nat)(ps:Array Tmp)(hJ fC:Code)(fr:aU)(Os Vs cA:aL)(e6:al)(j:Option Code):Prop where
 flat:∀ v∈e6,flat v=true
 len:e6.length=ps.size
 jb:∀ p∈ps,p<N
 low:∀ k x,ak (Os++Vs) k=some x->k<next/\fR (next+1) x
 aCt:∀ k x,ak cA k=some x->fR (next+1) x
 own:∀ k x,ak Os k=some x->x.owns=true
 aCu:∀ k x,ak cA k=some x->x.owns=true
 view:∀ k x,ak Vs k=some x->x.soft=true
 keys:∀ k,ak cA k=none↔ak Os k=none
 run:∃ rA rB:nh,(∀ B,ah P B N hJ (PW (ps.toList.zip e6) fr) (Os++Vs) (next+1) rA)/\rA.ex=.normal/\next+1<=rA.next/\ak rA.M next=none/\
  (∀ B,ah P B N fC rA.fr rA.M rA.next rB)/\(∀ k x,ak cA k=some x->ak rB.M k=some x)/\exJ rB.ex=j
theorem Ly{ps:Array Tmp}{hJ fC:Code}{j:Option Code}(aC:GI P next N ps hJ fC fr Os Vs cA e6 j)
  {o:Oper} {x:m_} (ho:dC o.op=some x) {T:p_} {cP:FuncId} (hT:T.size=N) (hTs:∀ t,oe m (bM fr t) (T.getD t undef)) (cQ:∀ k lc,m k=some lc->k<next)
  (hS:∀ b,S b↔∃ k x o cap,ak Os k=some x/\m k=some (.at b o cap)) (hSm:∀ k x,ak Os k=some x->m k≠none) :
  cI P (lq W1 l S m) o (.func (.yield l) #[] #[]::e6) ((next,some (.fact (fV l (ky cP T ps hJ fC D))))::(Os++Vs).map (λp=>(p.1,some p.2))) (.bool j.isNone)
   ((next,.fact (fV l (Ep (ky cP T ps hJ fC D) j)))::cA):=by
 intro R ι c a w hv hm hn K Q hK;obtain⟨rA,rB,hA,VG,hAn,PY,hB,VH,VI⟩:=aC.run;have hg:c next=some (.fact (fV l (ky cP T ps hJ fC D))):=hn (next,_) (aR ..);have hL:cZ c (Os++Vs):=PX λp hp=>hn p (bK _ hp);have hO:cZ c Os:=λk x e=>hL k x (by rw[iO,e]);have GH:ak (Os++Vs) next=none:=by
  cases e:ak (Os++Vs) next with
  |none=>rfl
  |some x=>have:=(aC.low _ _ e).1;omega
 have VE:ak Os next=none:=by
  rw[iO]at GH;cases e:ak Os next with
  |none=>rfl
  |some x=>rw[e]at GH;cases GH
 have aL6:ak cA next=none:=(aC.keys next).2 VE;have PZ:∀ k x,ak (Os++Vs) k=some x->x.owns=true->ak Os k=some x:=λk x e hx=>by
  rw[iO]at e;cases e1:ak Os k with
  |some y=>rw[e1]at e;exact e
  |none=>
   rw[e1]at e;exact(PQ (aC.view k x e) hx).elim
 have hr:=CI hm hg;obtain⟨dst,op,ty,pos,after,guard⟩:=o;dsimp only at ho hv;unfold dC at ho;split at ho
 ·rename_i x' lZ xP;injection ho with ho;subst ho;have zU:(Op.operands (.call ⟨.value x',lZ,xP⟩)).toList=x'::lZ.toList:=by simp[Op.operands,Call.operands]
  rw[zU]at hv;cases hv with
  |cons hx sZ=>
  obtain⟨kE,dM,he,h1,h2⟩:=hx.BL;have ef:kE=#[]:=by
   cases jO:kE.toList with
   |nil=>exact Je.1 jO
   |cons _ _=>rw[jO]at h1;cases h1
  have ec:dM=#[]:=by
   cases jO:dM.toList with
   |nil=>exact Je.1 jO
   |cons _ _=>rw[jO]at h2;cases h2
  subst ef;subst ec;have aW:lZ.toList.map a.eval=e6:=oj sZ aC.flat;have e3:execOp a.eval ⟨dst,.call ⟨.value x',lZ,xP⟩,ty,pos,after,guard⟩=Instr.yield l e6.toArray:=by
   have:execOp a.eval ⟨dst,.call ⟨.value x',lZ,xP⟩,ty,pos,after,guard⟩=(do let d <-Deferred.ofValue (a.eval x') (lZ.map a.eval);invoke d.target d.args):=rfl;rw[this,he,<-aW];have:lZ.map a.eval=(lZ.toList.map a.eval).toArray:=by apply Fx;simp
   rw[this];simp[Deferred.ofValue,invoke,go_sem]
  have hy:=run_yield (P:=P) (args:=e6.toArray) hr (by simpa[ky]using aC.len);have aL7:((ky cP T ps hJ fC D).params.zip e6.toArray).foldl (λtmps (t,a)=>tmps.setIfInBounds t a) (ky cP T ps hJ fC D).tmps=(ps.toList.zip e6).foldl (λt p=>t.setIfInBounds p.1 p.2) T:=by rw[<-aCv];simp[ky]
  rw[aL7]at hy;obtain⟨f1,f2⟩:=aCs (ps.toList.zip e6) hT hTs λp hp=>by have:=List.of_mem_zip hp;exact⟨aC.jb _ (by simpa using this.1),aC.flat _ this.2⟩
  refine⟨λ_ _=>trivial,?_⟩;rw[NP _ _ _ n_,e3,hy,Oper.uponIn_round];refine⟨λe=>(by cases e),roundIn_of_wpIn trivial ?_⟩
  -- the aWU own memory
  obtain⟨Lz,LA,P0,vU⟩:=aL2 (next:=next+1) hm hg (Cp _) hL GH (λk x e=>⟨aCw (aC.low k x e).1,(aC.low k x e).2⟩)
   (λk F e=>by
    rw[iO]at e;cases e1:ak Os k with
    |some y=>rw[e1]at e;injection e with e;subst e;have:=aC.own k _ e1;cases this
    |none=>rw[e1]at e;exact PR (aC.view k _ e))
   (λk x b o cap e hx hb=>by
    have e1:=PZ k x e hx;refine(hS b).2 ⟨k,x,o,cap,e1,?_⟩;cases e2:m k with
    |none=>exact absurd e2 (hSm k x e1)
    |some lc=>rw[hm.pk k lc e2]at hb;exact hb)
  refine hA _ (some l) _ _ _ _ _ ⟨rfl,f1,λt=>(f2 t).mono λk lc e=>by rw[yF (aCw (cQ k lc e))];exact hm.pk k lc e⟩ Lz LA vU λb9 gF a1 w1 jy iq c8 eC dO iu _=>?_;rw[VG];have uQ:gF next=some (.fact (fV l (ky cP T ps hJ fC D))):=(iu next (Cp _) GH).trans P0;refine⟨_,run_beginRound (CI c8 uQ) rfl,?_⟩;have dE:=aCp (r':={ ky cP T ps hJ fC D with state:=.busy }) c8 uQ;refine hB _ (some l) _ _ _ _ _ iq dE (λk x e=>?_) (λk hk=>?_) λdQ qP a2 w2 lg _ um yH LB P1 _=>?_
  ·unfold bA;by_cases mS:k=next
   ·subst mS;rw[PY]at e;cases e
   ·rw[au mS];exact eC k x e
  ·unfold bA;rw[au o_];exact dO k hk
  ·have hg3:qP next=some (.fact (fV l { ky cP T ps hJ fC D with state:=.busy })):=(P1 next o_ PY).trans (by unfold bA;rw[aA rfl]);have LC:=aCp (r':=Ep (ky cP T ps hJ fC D) j) um hg3;have vW:=run_endRound (P:=P) j (CI um hg3);have GJ:∀ k,k<next+1->∀ lc,dQ k=some lc->ι k=some lc:=λk hk lc e=>by
    cases rN:ι k with
    |some AF=>
     have:=lg k AF (jy k AF (by rw[yF hk];exact rN));rw[e]at this;exact this.symm
    |none=>
     exfalso;have hc:c k=none:=by
      cases hc:c k with
      |none=>rfl
      |some y=>obtain⟨AF,q,_⟩:=hm.born k y hc;rw[rN]at q;cases q
     have mS:k≠next:=λe=>by subst e;rw[hg]at hc;cases hc
     have wO:ak (Os++Vs) k=none:=by
      cases e1:ak (Os++Vs) k with
      |none=>rfl
      |some y=>rw[hL k y e1]at hc;cases hc
     have q1:gF k=none:=by
      rw[iu k hk wO];unfold pN;rw[aA hk];have:ak ((next,Obj.fact (fV l (ky cP T ps hJ fC D)))::(Os++Vs)) k=none:=by show(if Nat.beq next k then _ else _)=_;rw[om (kV mS)];exact wO
      rw[this,hc];rfl
     have hAk:ak rA.M k=none:=by
      cases e1:ak rA.M k with
      |none=>rfl
      |some y=>rw[eC k y e1]at q1;cases q1
     have q2:qP k=none:=by rw[P1 k o_ hAk];unfold bA;rw[au mS];exact q1
     rw[um.dD k q2]at e;cases e
   have hmm:=aL3 (next:=next+1) (Os:=Os) (cA:=cA) hm hg hO VE aC.own aC.aCu aC.keys (λb hb=>by
     obtain⟨k,x,o,cap,e1,e2⟩:=(hS b).1 hb;exact⟨k,x,o,cap,e1,hm.pk k _ e2⟩) aC.aCt LC (by unfold bA;rw[aA rfl])
    (λk x e=>by
     unfold bA;by_cases mS:k=next
     ·subst mS;rw[aL6]at e;cases e
     ·rw[au mS];exact yH k x (VH k x e)) GJ (Cp _) (λk x e=>by
     cases e1:ak Os k with
     |none=>rw[(aC.keys k).2 e1]at e;cases e
     |some y=>exact aCw (aC.low k y (by rw[iO,e1])).1)
   have fin:=hK ι (.bool j.isNone) _ (Map.le.refl _) (.same rfl) hmm;subst VI;cases hx:rB.ex with
   |normal=>rw[hx]at vW fin;exact⟨_,_,vW,fin⟩
   |ret=>rw[hx]at vW fin;exact⟨_,_,vW,fin⟩
   |exit id=>rw[hx]at vW fin;exact⟨_,_,vW,fin⟩
 ·cases ho
end
def GK(D:Nat):Deferred:={ target:=.collected D,args:=#[]}
def aa.held(B:aa)(D:Nat):aa where
 G w:=B.G w/\w.heap[D]?=some (.deferred (some []))
 cY k:=B.cY k\/k=D
 ds:=GK D::B.ds
 Fa:=B.Fa
 mp:=B.mp
 lt w k h hk:=by
  rcases hk with hk|rfl
  ·exact B.lt w k h.1 hk
  ·exact(Ac.1 h.2).1
 dep w w' h h1 h2 h3 h4 h5:=⟨B.dep w w' h.1 h1 h2 h3 h4 λk hk=>h5 k (.inl hk),(h5 D (.inr rfl)).trans h.2⟩
section
variable{P:j_}{B:aa}{N next:Nat}
structure yI(P:j_)(next N:Nat)(fr:aU)(Os:aL)(m:Map)(S:Nat->Prop)(T:p_):Prop where
 size:T.size=N
 jb:∀ t,oe m (bM fr t) (T.getD t undef)
 low:∀ k lc,m k=some lc->k<next
 set:∀ b,S b↔∃ k x o cap,ak Os k=some x/\m k=some (.at b o cap)
 born:∀ k x,ak Os k=some x->m k≠none
def aL8(P:j_)(Q:Exit->Act->World->Prop)(j:Option Code)(a:Act)(w:h_):Prop:=
 match j with
 |none=>Q .normal a w
 |some c=>c.wpIn (FW none) 0 P Q a w
theorem P2{cc:g_}{a:Act}{g:m_}{gf:FuncId}{ps:Array Tmp}{hJ fC:Code}{j:Option Code}{Q:Exit->Act->World->Prop}
  (hf:fp B ι (bM fr) N a) (hm:aO B ι cc w) (hL:cZ cc (Os++Vs)) (hu:eG cc next) (ee:∀ k x,ak Os k=some x->x.owns=true) (qJ:∀ k x,ak Vs k=some x->x.soft=true)
  (hg:gN (bM fr) g=.func (.func gf) #[] ca.toArray) (aL9:NZ g=true) (fq:gW P gf=true)
  (kJ:∀ k,ak cA k=none↔ak Os k=none) (tL:∀ k x,ak cA k=some x->x.owns=true) (dG:∀ k x,ak (cA++Vs) k=some x->fR next x)
  (Ab:∀(cP l D:Nat) (W1:h_) (S:Nat->Prop),yI P next N fr Os ι S a.tmps->∀(κ:Map) (c:g_) (W:h_) (dM:al),aO (lq W1 l S ι) κ c W->cZ c ((next,.fact (fV l (ky cP a.tmps ps hJ fC D)))::(Os++Vs))->eG c (next+1)->bY (aM κ) ca dM->Calls P gf (.func (.yield l) #[] #[]::dM).toArray W λe W'=>∃ v rm c',e=.returned v/\Map.le κ rm/\aO (lq W1 l S ι) rm c' W'/\cZ c' ((next,.fact (fV l (Ep (ky cP a.tmps ps hJ fC D) j)))::(cA++Vs))/\∀ k,k<next->c k=none->c' k=none)
  (hQ:∀ D cr w',(∀ k,B.cY k->k≠D)->w.heap.size<=D->fp (B.held D) ι (bM fr) N { a with defers:=GK D::a.defers }->aO (B.held D) ι cr w'->cZ cr (cA++Vs)->eG cr next->aL8 P Q j { a with defers:=GK D::a.defers } w'):(Code.rangeFunc g ps hJ fC).wpIn (FW none) 0 P Q a w:=by
 have hO:cZ cc Os:=λk x e=>hL k x (by rw[iO,e]);have PZ:∀ k x,ak (Os++Vs) k=some x->x.owns=true->ak Os k=some x:=λk x e hx=>by
  rw[iO]at e;cases e1:ak Os k with
  |some y=>rw[e1]at e;exact e
  |none=>
   rw[e1]at e;exact(PQ (qJ k x e) hx).elim
 have aCx:∀ k F,ak (Os++Vs) k=some (.fact F)->F.rc=false:=λk F e=>by
  rw[iO]at e;cases e1:ak Os k with
  |some y=>rw[e1]at e;injection e with e;subst e;have:=ee k _ e1;cases this
  |none=>rw[e1]at e;exact PR (qJ k _ e)
 have aMa:∀ k lc,ι k=some lc->k<next:=λk lc e=>by
  rcases fo k next with h|h
  ·exact h
  ·rw[hm.dD k (hu k h)]at e;cases e
 have FJ:=ZI hf aL9 (by rw[hg];rfl);rw[hg]at FJ;obtain⟨kE,dM,he,h1,h2⟩:=FJ.BL;have ef:kE=#[]:=by
  cases jO:kE.toList with
  |nil=>exact Je.1 jO
  |cons _ _=>rw[jO]at h1;cases h1
 subst ef;refine wpIn_rangeFunc ?_;intro cP _;obtain⟨W1,LD⟩:∃ W1,(w.alloc (.deferred (some []))).alloc (.loop (ky cP a.tmps ps hJ fC w.heap.size))=W1:=⟨_,rfl⟩;have DT:=run_enterLoop_outer (P:=P) (w:=w) cP a.tmps ps hJ fC;rw[show({ state:=.ready,pending:=none,fn:=cP,tmps:=a.tmps,params:=ps,assign:=hJ,body:=fC,defers:=w.heap.size }:Loop)=ky cP a.tmps ps hJ fC w.heap.size from rfl,LD]at DT;have mK:Below w.heap.size w W1:=by rw[<-LD];exact((Below.refl _ w).alloc (bF _) _).alloc s_ _
 have aCy:W1.heap.size=w.heap.size+2:=by rw[<-LD];simp
 have hL1:W1.heap[w.heap.size+1]?=some (.loop (ky cP a.tmps ps hJ fC w.heap.size)):=by rw[<-LD];have:=World.alloc_heap_new (w.alloc (.deferred (some []))) (.loop (ky cP a.tmps ps hJ fC w.heap.size));rwa[World.size_alloc]at this
 have hK1:W1.heap[w.heap.size]?=some (.deferred (some [])):=by rw[<-LD];exact(S0 _ _ _ s_).trans (World.alloc_heap_new w _)
 obtain⟨S,hS⟩:∃ S:Nat->Prop,∀ b,S b↔∃ k x o cap,ak Os k=some x/\ι k=some (.at b o cap):=⟨_,λb=>Iff.rfl⟩;have VJ:∀ b,S b->b<w.heap.size/\¬B.cY b:=λb hb=>by obtain⟨k,x,o,cap,e1,e2⟩:=(hS b).1 hb;exact hm.own k x b o cap (hO k x e1) (ee k x e1) e2
 have aCz:∀ k x,ak (Os++Vs) k=some x->∃ lc,ι k=some lc:=λk x e=>by obtain⟨lc,q,_⟩:=hm.born k x (hL k x e);exact⟨lc,q⟩
 refine⟨w.heap.size+1,[{ target:=.collected w.heap.size,args:=#[]}],W1,{ target:=.fn (.func gf) dM,args:=#[.func (.yield (w.heap.size+1)) #[] #[]]},W1,gf,#[.func (.yield (w.heap.size+1)) #[] #[]]++dM,W1,DT,?_,λ_ _=>trivial,?_,λe=>(by cases e),?_⟩
 ·simp only[resolve,he];simp[go_sem]
 ·have:=N3 (P:=P) fq (#[.func (.yield (w.heap.size+1)) #[] #[]]++dM) W1;simpa[invoke,go_sem]using this
 ·have hmW:=hm.call mK
  -- the aWV memory
  have c8:aO (lq W1 (w.heap.size+1) S ι) ι (λk=>match ak (Os++Vs) k with|some x=>some x|none=>(cc k).map λ_=>.dead) W1:=by
   refine PU (L:=Os++Vs) hmW hL (λ_ _ _=>rfl) (λk x lc _ _ h=>h) ⟨.refl _,rfl,rfl,bF _,λ_ _ _ _=>rfl⟩ (λk x b o cap e hx hl hF=>?_) (bF _) (λk e=>?_) (λk x e=>?_) (λk F e hr=>by rw[aCx k F e]at hr;cases hr) (λ_ _ _ _ _ _ h=>h) (Map.le.refl _)
   ·exact hF.2.1 ((hS b).2 ⟨k,x,o,cap,PZ k x e hx,hl⟩)
   ·split at e
    ·cases e
    ·cases hc:cc k with
     |none=>exact hm.dD k hc
     |some y=>rw[hc]at e;cases e
   ·split at e
    ·rename_i y hy;injection e with e;subst e;exact .inl hy
    ·cases hc:cc k with
     |none=>rw[hc]at e;cases e
     |some y=>
      rw[hc]at e;injection e with e;obtain⟨lc,q,_⟩:=hm.born k y hc;exact .inr ⟨e.symm,lc,q⟩
  generalize gY:(λk=>match ak (Os++Vs) k with|some x=>some x|none=>(cc k).map λ_=>Obj.dead:g_)=c1 at c8;have LF:ak (Os++Vs) next=none:=by
   cases e:ak (Os++Vs) next with
   |none=>rfl
   |some x=>have:=hL _ _ e;rw[hu next (bF _)]at this;cases this
  have aCA:∀ k,next<=k->c1 k=none:=λk hk=>by
   rw[<-gY];have:ak (Os++Vs) k=none:=by
    cases e:ak (Os++Vs) k with
    |none=>rfl
    |some x=>have:=hL _ _ e;rw[hu k hk]at this;cases this
   simp only[this,hu k hk,aCB]
  have aMb:∀ k x,ak (Os++Vs) k=some x->c1 k=some x:=λk x e=>by rw[<-gY];simp only[e]
  have aMc:∀ k F,c1 k=some (.fact F)->F.rc=false:=λk F e=>by
   rw[<-gY]at e;dsimp only at e;split at e
   ·rename_i y hy;injection e with e;subst e;exact aCx k F hy
   ·cases hc:cc k with
    |none=>rw[hc]at e;cases e
    |some y=>rw[hc]at e;cases e
  have dE:=c8.add (k:=next) (x:=.fact (fV (w.heap.size+1) (ky cP a.tmps ps hJ fC w.heap.size))) (l:=.val undef) (aCA next (bF _)) ⟨undef,rfl,hL1⟩ n_
   (λF v b e _ hF jj y o' aT hj hy hl=>by
    injection e with e;subst e;have hF:b=w.heap.size+1:=hF;obtain⟨q1,q2⟩:=c8.own jj y b o' aT hj hy hl;have:∃ lc,ι jj=some lc:=⟨_,hl⟩;have gD:b<w.heap.size:=by
     refine(VJ b ?_).1;have oC:=hj;rw[<-gY]at oC;dsimp only at oC;split at oC
     ·rename_i z hz;injection oC with oC;subst oC;exact(hS b).2 ⟨jj,z,o',aT,PZ jj z hz hy,hl⟩
     ·cases hc:cc jj with
      |none=>rw[hc]at oC;cases oC
      |some z=>rw[hc]at oC;injection oC with oC;subst oC;cases hy
    omega)
   n_ (λF e _=>⟨by injection e with e;exact⟨_,e.symm⟩,λjj F' hj=>aMc jj F' hj⟩)
  have lg:Map.le ι (dT ι next (.val undef)):=hZ (hm.dD next (hu next (bF _)));have fD:yI P next N fr Os ι S a.tmps:=⟨hf.size,hf.slot,aMa,hS,λk x e h=>by obtain⟨lc,q⟩:=aCz k x (by rw[iO,e]);rw[h]at q;cases q⟩
  have iN:=Ab cP (w.heap.size+1) w.heap.size W1 S fD (dT ι next (.val undef)) (bA c1 next (.fact (fV (w.heap.size+1) (ky cP a.tmps ps hJ fC w.heap.size)))) W1 dM.toList dE
   (λk x e=>by
    unfold bA;by_cases hk:k=next
    ·subst hk;rw[aA rfl];have:ak ((k,Obj.fact (fV (w.heap.size+1) (ky cP a.tmps ps hJ fC w.heap.size)))::(Os++Vs)) k=some (.fact (fV (w.heap.size+1) (ky cP a.tmps ps hJ fC w.heap.size))):=by show(if Nat.beq k k then _ else _)=_;simp
     rw[this]at e;exact e
    ·rw[au hk];have:ak ((next,Obj.fact (fV (w.heap.size+1) (ky cP a.tmps ps hJ fC w.heap.size)))::(Os++Vs)) k=ak (Os++Vs) k:=by show(if Nat.beq next k then _ else _)=_;rw[om (kV hk)];rfl
     rw[this]at e;exact aMb k x e)
   (λk hk=>by unfold bA;rw[au o_];exact aCA k o_) (by
    have:bY (aM ι) ca dM.toList:=by simpa using h2
    exact oN lg this)
  have aMd:(.func (.yield (w.heap.size+1)) #[] #[]::dM.toList:al).toArray=#[.func (.yield (w.heap.size+1)) #[] #[]]++dM:=by apply Fx;simp
  rw[aMd]at iN;refine Ko.2 (iN.mono ?_)
  rintro e W2 ⟨v,rm,c',rfl,vy,bJ,jx,gV⟩
  have PV:c' next=some (.fact (fV (w.heap.size+1) (Ep (ky cP a.tmps ps hJ fC w.heap.size) j))):=jx next _ (by show(if Nat.beq next next then _ else _)=_;simp);have hO2:ak Os next=none:=by
   rw[iO]at LF;cases e:ak Os next with
   |none=>rfl
   |some x=>rw[e]at LF;cases LF
  have hV2:ak Vs next=none:=by rw[iO,hO2]at LF;exact LF
  have aMe:ak (cA++Vs) next=none:=by rw[iO,(kJ next).2 hO2];exact hV2
  have gO:cZ c' (cA++Vs):=λk x e=>jx k x (by
   by_cases hk:k=next
   ·subst hk;rw[aMe]at e;cases e
   ·show(if Nat.beq next k then _ else _)=_;rw[om (kV hk)];exact e)
  have vW:=run_endLoop (P:=P) (CI bJ PV) (by cases j<;>simp[Ep]);refine⟨j,_,vW,?_⟩
  -- the marks of the list
  have VK:∀ k x,ak (cA++Vs) k=some x->∃ y,ak (Os++Vs) k=some y/\(x.owns=true->y.owns=true/\ak Os k=some y):=λk x e=>by
   rw[iO]at e;cases e1:ak cA k with
   |some z=>
    cases e2:ak Os k with
    |none=>rw[(kJ k).2 e2]at e1;cases e1
    |some y=>exact⟨y,by rw[iO,e2],λ_=>⟨ee k y e2,rfl⟩⟩
   |none=>
    rw[e1]at e;have e2:=(kJ k).1 e1;refine⟨x,by rw[iO,e2];exact e,λhx=>?_⟩;exact(PQ (qJ k x e) hx).elim
  have aCC:∀ k x,ak (cA++Vs) k=some x->ι k=rm k:=λk x e=>by obtain⟨y,e1,_⟩:=VK k x e;obtain⟨lc,q⟩:=aCz k y e1;rw[q,vy k lc (lg k lc q)]
  have aMf:∀ k,k<next->∀ lc,rm k=some lc->ι k=some lc:=λk hk lc e=>by
   cases q:ι k with
   |some AF=>have:=vy k AF (lg k AF q);rw[e]at this;exact this.symm
   |none=>
    exfalso;have AG:cc k=none:=by
     cases hc:cc k with
     |none=>rfl
     |some y=>obtain⟨AF,q',_⟩:=hm.born k y hc;rw[q]at q';cases q'
    have wO:ak (Os++Vs) k=none:=by
     cases e1:ak (Os++Vs) k with
     |none=>rfl
     |some y=>rw[hL k y e1]at AG;cases AG
    have:c' k=none:=gV k hk (by unfold bA;rw[au o_,<-gY];simp only[wO,AG,aCB])
    rw[bJ.dD k this]at e;cases e
  have tK:=PS (CI bJ PV);have hDS:¬S w.heap.size:=λh=>by have:=(VJ _ h).1;omega
  have aCD:∀ b,b<w.heap.size+2->¬S b->b≠w.heap.size+1->W2.heap[b]?=W1.heap[b]?:=λb hb hs hl=>bJ.base.2.2.2.2 b (by rw[aCy];exact hb) hs hl;have aWW:w.heap.size+2<=W2.heap.size:=by rw[<-aCy];exact bJ.base.2.2.2.1
  have LG:∀(o:Go.Obj) b,b≠w.heap.size+1->(W2.putObj (w.heap.size+1) o).heap[b]?=W2.heap[b]?:=λo b hb=>aCq hb;have AH:∀ k,B.cY k->k≠w.heap.size:=λk hk=>by have:=B.lt w k hm.base hk;omega
  have VL:∀ k F,ak (cA++Vs) k=some (.fact F)->F.rc=false:=λk F e=>by
   rw[iO]at e;cases e1:ak cA k with
   |some y=>rw[e1]at e;injection e with e;subst e;have:=tL k _ e1;cases this
   |none=>rw[e1]at e;exact PR (qJ k _ e)
  have um:∀ o:Go.Obj,aO (B.held w.heap.size) ι (λk=>match ak (cA++Vs) k with|some x=>some x|none=>(cc k).map λ_=>.dead) (W2.putObj (w.heap.size+1) o):=λo=>by
   refine PU (L:=cA++Vs) bJ gO aCC (λk x lc e q ho=>?_) ⟨?_,?_⟩ (λk x b oo cap e hx hl hF=>?_) (by rw[vV];exact bF _) (λk e=>?_) (λk x e=>?_) (λk F e hr=>by rw[VL k F e]at hr;cases hr) (λk F v b e q hF=>?_) hm.pk
   ·exact PT tK (ho.below aMf (dG k x e)) (λF ef=>VL k F (ef▸e)) (by rw[vV];exact bF _) (λb _ _ _ _=>(Nat.decEq b (w.heap.size+1)).casesOn (λhb=>.inr (LG o b hb)) λhb=>.inl hb) λF v b _ _ _=>(Nat.decEq b (w.heap.size+1)).casesOn (λhb=>.inr (LG o b hb)) λhb=>.inl hb
   ·refine B.dep w _ hm.base ?_ ?_ ?_ ?_ λk hk=>?_
    ·exact bJ.base.1.trans mK.os
    ·exact bJ.base.2.1.trans mK.tape
    ·exact bJ.base.2.2.1.trans mK.output
    ·rw[vV];omega
    ·have hkl:=B.lt w k hm.base hk;rw[LG o k o_,aCD k o_ (λhs=>(VJ k hs).2 hk) o_];exact mK.block k hkl
   ·rw[LG o _ o_,aCD _ o_ hDS o_];exact hK1
   ·obtain⟨y,e1,e2⟩:=VK k x e;obtain⟨hy,e3⟩:=e2 hx;have cD:ι k=some (.at b oo cap):=(aCC k x e).trans hl;have q:=hm.own k y b oo cap (hO k y e3) hy cD;rcases hF with hF|rfl
    ·exact q.2 hF
    ·omega
   ·split at e
    ·cases e
    ·cases hc:cc k with
     |none=>exact hm.dD k hc
     |some y=>rw[hc]at e;cases e
   ·split at e
    ·rename_i y hy;injection e with e;subst e;exact .inl hy
    ·cases hc:cc k with
     |none=>rw[hc]at e;cases e
     |some y=>
      rw[hc]at e;injection e with e;obtain⟨lc,q,_⟩:=hm.born k y hc;exact .inr ⟨e.symm,lc,q⟩
   ·obtain⟨lc,q1,v',q2,q3⟩:=bJ.born k _ (gO k _ e);rw[q]at q1;injection q1 with q1;subst q1;injection q2 with q2;subst q2;refine(F.soft (VL k F e) v W2 _ q3 (by rw[vV];exact bF _) λk2 fX cs ty f hc=>?_).2 b hF;rw[LG o k2 (λe=>by subst e;exact tK _ _ _ hc)];exact hc
  have fin:=hQ w.heap.size _ _ AH (bF _) ⟨by show GK _::a.defers=GK _::B.ds;rw[hf.defers],hf.size,hf.slot⟩ (um (.loop { Ep (ky cP a.tmps ps hJ fC w.heap.size) j with state:=.exhausted })) (λk x e=>by simp only[e]) (λk hk=>by
   have:ak (cA++Vs) k=none:=by
    cases e:ak (cA++Vs) k with
    |none=>rfl
    |some x=>obtain⟨y,e1,_⟩:=VK k x e;have:=hL _ _ e1;rw[hu k hk]at this;cases this
   simp only[this,hu k hk,aCB])
  cases j with
  |none=>exact fin
  |some cj=>exact fin
theorem aCE{W:h_}(h:aO (B.held D) ι c W)(qI:∀ F,¬B.Fa F)(hD:∀ k,B.cY k->k≠D):aO B ι c (W.putObj D (.deferred none)):=by
 have tK:=aLZ h.base.2;have ne:∀ b,b≠D->(W.putObj D (.deferred none)).heap[b]?=W.heap[b]?:=λb hb=>aCq hb;refine⟨B.dep W _ h.base.1 ⟨rfl,bF _⟩ rfl rfl (by rw[vV];exact bF _) λk hk=>ne k (hD k hk),h.dD,?_,?_,h.inj,?_,?_,h.fa,h.one,h.pk⟩
 ·intro k x hk;obtain⟨l,q1,q2⟩:=h.born k x hk;refine⟨l,q1,PT tK q2 (λF e=>?_) (by rw[vV];exact bF _) (λb _ _ _ _=>(Nat.decEq b D).casesOn (λhb=>.inr (ne b hb)) λhb=>.inl hb) λF v b _ _ _=>(Nat.decEq b D).casesOn (λhb=>.inr (ne b hb)) λhb=>.inl hb⟩;subst e;cases hr:F.rc with
  |false=>rfl
  |true=>exact absurd (h.fa k F hk hr) (qI F)
 ·intro k x b o cap hk hx hl;rw[vV];exact⟨(h.own k x b o cap hk hx hl).1,λhF=>(h.own k x b o cap hk hx hl).2 (.inl hF)⟩
 ·intro k j x F b o cap v hk hx hl hj hv hF;obtain⟨lc,q1,v',q2,q3⟩:=h.born j _ hj;rw[hv]at q1;injection q1 with q1;subst q1;injection q2 with q2;subst q2;have hr:F.rc=false:=by
   cases hr:F.rc with
   |false=>rfl
   |true=>exact absurd (h.fa j F hj hr) (qI F)
  refine h.apart k j x F b o cap v hk hx hl hj hv ((F.soft hr v W _ q3 (by rw[vV];exact bF _) λk2 fX cs ty f hc=>?_).2 b hF);rw[ne k2 (λe=>by subst e;exact tK _ _ _ hc)];exact hc
 ·intro k x b o cap hk hx hl;rw[vV];exact h.seen k x b o cap hk hx hl
theorem VM{c:Code}{r:nh}{v:i_}{R:Ending->World->Prop}(IF:∀ B,ah P B N c fr M next r)(hex:(match r.ex with|.exit _=>false|_=>true)=true)(hv:B6 P fn r.fr r.M=some v)
  {ι:Map} {cc:g_} {a:Act} {w:h_} (hf:fp (B.held D) ι (bM fr) N a) (hm:aO (B.held D) ι cc w) (ha:cZ cc M) (hu:eG cc next) (nM:B.ds=[]) (qI:∀ F,¬B.Fa F) (hD:∀ k,B.cY k->k≠D)
  (hR:∀ aB v' w',aM aB v v'->B.G w'->R (.returned v') w'):c.wpIn (FW none) 0 P (bodyPostM (FW none) 0 P fn R) a w:=by
 refine IF _ none ι cc a w _ hf hm ha hu λaB cr a' w' hle xV bJ jx _ _ _=>?_;have dE:=aCE bJ qI hD;obtain⟨v',hc,qL⟩:=Oj (fn:=fn) (B:=B) (N:=N) (a:={ a' with defers:=[]}) ⟨nM.symm,xV.size,xV.slot⟩ dE jx hv;have hl:LeavesInM (FW none) 0 P fn a'.tmps R a'.defers .returning w':=by rw[xV.defers];show LeavesInM (FW none) 0 P fn a'.tmps R (GK D::B.ds) .returning w';rw[nM];exact⟨λe=>(by cases e),.inl ⟨D,_,rfl,run_takeDeferred bJ.base.2,v',qL,hR aB v' _ hc dE.base⟩⟩
 cases hx:r.ex with
 |normal=>exact hl
 |ret=>exact hl
 |exit id=>rw[hx]at hex;cases hex
end
def AJ:Code->Nat->Option Code
 |.region i ops d,k=>if Nat.beq i k then some (.region i ops d)else none
 |.seq x y,k=>match AJ x k with|some o=>some o|none=>AJ y k
 |.cond _ x y,k=>match AJ x k with|some o=>some o|none=>AJ y k
 |.block _ b,k=>AJ b k
 |.loop b,k=>AJ b k
 |.scope b,k=>AJ b k
 |.rangeFunc _ _ x y,k=>match AJ x k with|some o=>some o|none=>AJ y k
 |_,_=>none
def vX(fn:Func)(k:Nat):Code:=match fn.body with|some c=>(match AJ c k with|some o=>o|none=>.skip)|none=>.skip
def Er:Code->Option Code
 |.seq x y=>match Er x with|some o=>some o|none=>Er y
 |.cond _ x y=>match Er x with|some o=>some o|none=>Er y
 |.block _ b=>Er b
 |.loop b=>Er b
 |.scope b=>Er b
 |.rangeFunc g p x y=>some (.rangeFunc g p x y)
 |_=>none
def o7(fn:Func):Code:=match fn.body with|some c=>(match Er c with|some o=>o|none=>.skip)|none=>.skip
def AK:Code->Code|.rangeFunc _ _ x _=>x|c=>c
def AL:Code->Code|.rangeFunc _ _ _ y=>y|c=>c
def aV(k:Nat):Value:=.pointer (some ⟨k,0,some 7⟩)
section
variable{P:j_}{B:aa}{N next:Nat}
theorem kN{L:aL}{p:Nat×Obj->Bool}(h:L.all p=true){x:Obj}(hk:ak L k=some x):p (k,x)=true:=bC.1 h _ (kW hk)
theorem VN:∀{L:aL} {k:Nat},ak L k=none↔k∉L.map (·.1)
 |[],k=>by simp[ak]
 |(j,x)::L,k=>by
  by_cases h:j=k
  ·subst h;simp[ak]
  ·have e:ak ((j,x)::L) k=ak L k:=by show(if Nat.beq j k then _ else _)=_;rw[om h];rfl
   rw[e,VN];simp[kV h]
theorem xa{L L':aL}(h:L'.map (·.1)=L.map (·.1))(k:Nat):ak L' k=none↔ak L k=none:=by rw[VN,VN,h]
def mT(next:Nat)(p:Nat×Obj):Bool:=p.2.cells.all (l5 next)
theorem xb{next:Nat}{p:Nat×Obj}(h:mT next p=true):fR next p.2:=λv hv=>bC.1 h v hv
theorem Jf{ps:Array Tmp}{hJ fC:Code}{j:Option Code}(cV:e6.all flat=true)(hlen:e6.length=ps.size)(Aa:(ps.toList.all λp=>Nat.blt p N)=true)
  (dG:((Os++Vs).all λp=>Nat.blt p.1 next&&mT (next+1) p)=true) (LH:(cA.all (mT (next+1)))=true) (ee:(Os.all λp=>p.2.owns)=true) (tL:(cA.all λp=>p.2.owns)=true) (qJ:(Vs.all λp=>p.2.soft)=true) (kJ:cA.map (·.1)=Os.map (·.1))
  {rA rB:nh} (hA:∀ B,ah P B N hJ (PW (ps.toList.zip e6) fr) (Os++Vs) (next+1) rA) (VG:rA.ex=.normal) (hAn:Nat.ble (next+1) rA.next=true) (PY:ak rA.M next=none)
  (hB:∀ B,ah P B N fC rA.fr rA.M rA.next rB) (VH:∀ k x,ak cA k=some x->ak rB.M k=some x) (VI:exJ rB.ex=j):GI P next N ps hJ fC fr Os Vs cA e6 j where
 flat:=bC.1 cV
 len:=hlen
 jb p hp:=by have:=bC.1 Aa p (by simpa using hp);simpa[BX]using this
 low k x h:=by have:=kN dG h;simp only[dc,BX]at this;exact⟨this.1,xb this.2⟩
 aCt k x h:=xb (kN LH h)
 own k x h:=kN ee h
 aCu k x h:=kN tL h
 view k x h:=kN qJ h
 keys:=xa kJ
 run:=⟨rA,rB,hA,VG,sY hAn,PY,hB,VH,VI⟩
theorem aCF(dP:bY (aM ι) args args')(hN:N=args.length+(fn.ntmps-args.length))(nM:B.ds=[]):
  fp B ι (bM (jb 0 args)) N { tmps:=args'.toArray++Array.replicate (fn.ntmps-args'.toArray.size) undef,defers:=[]}:=by
 refine⟨nM.symm,by simp[hN,dP.length],λt=>?_⟩;rcases Ol dP 0 t (List.replicate (fn.ntmps-args'.length) undef)with h|h
 ·simp only[lY,rO,H7]at h;have e:(args'.toArray++Array.replicate (fn.ntmps-args'.toArray.size) undef).getD t undef=(args'++List.replicate (fn.ntmps-args'.length) undef).getD t undef:=by simp[qO,FC,<-Array.getElem?_toList]
  dsimp only;rw[e];exact h
 ·exact .inl h
theorem aCG{v:i_}{R:Ending->World->Prop}(hv:B6 P fn fr M=some v)
  {ι:Map} {cc:g_} {a:Act} {w:h_} (hf:fp (B.held D) ι (bM fr) N a) (hm:aO (B.held D) ι cc w) (ha:cZ cc M) (nM:B.ds=[]) (qI:∀ F,¬B.Fa F) (hD:∀ k,B.cY k->k≠D)
  (hR:∀ aB v' w',aM aB v v'->B.G w'->R (.returned v') w'):LeavesInM (FW none) 0 P fn a.tmps R a.defers .returning w:=by
 have dE:=aCE hm qI hD;obtain⟨v',hc,qL⟩:=Oj (fn:=fn) (B:=B) (N:=N) (a:={ a with defers:=[]}) ⟨nM.symm,hf.size,hf.slot⟩ dE ha hv;rw[hf.defers];show LeavesInM (FW none) 0 P fn a.tmps R (GK D::B.ds) .returning w;rw[nM];exact⟨λe=>(by cases e),.inl ⟨D,_,rfl,run_takeDeferred hm.base.2,v',qL,hR ι v' _ hc dE.base⟩⟩
theorem aCH{c:Code}{v:i_}(hf:P.funcs[f]?=some fn)(hb:fn.body=some c)(hN:N=args.length+(fn.ntmps-args.length))(dP:args.all flat=true)
  (h:∀ w a,fp (aa.at w) (λ_=>none) (bM (jb 0 args)) N a->aO (aa.at w) (λ_=>none) (λ_=>none) w->c.wpIn (FW none) 0 P (bodyPostM (FW none) 0 P fn λe w'=>e=.returned v/\Below w.heap.size w w') a w):aH P f args v:=by
 intro w;rw[bC]at dP;exact Ko.1 (callsIn_of_wp_marks (F:=FW none) (n:=0) hf hb trivial (h w _ (aCF (lE dP) hN rfl) (uE w)))
theorem aCI{gf:FuncId}{cells:al}{x:m_}(ja:P.follows .mixedOrders=true)(hf:P.funcs[f]?=some fn)(ho:dC o.op=some x)(fq:gW P f=true)(n:Nat)
  (rs:∀ w,bN P (aa.at w) (args.length+(fn.ntmps-args.length)))
  (h:∀ w,pv (iv (P:=P) fn n args [] 0 (rs w)) [(0,.aI cells ty)]=pw (iv fn n args [] 0 (rs w)) (.func (.func gf) #[] #[.pointer (some ⟨0,0,some 7⟩)]) [(0,.aI cells ty)]) (dP:args.all flat=true) (cV:cells.all flat=true) :
  cI P B o (.func (.func f) #[] #[]::args) [(k,none)] (.func (.func gf) #[] #[.pointer (some ⟨k,0,some 7⟩)]) [(k,.aI cells ty)]:=by
 have:=kj (P:=P) (B:=B) (o:=o) (x:=x) (f:=f) (fi:=[]) (args:=args) (ca:=[]) (need:=[(k,none)]) (val:=.func (.func gf) #[] #[.pointer (some ⟨k,0,some 7⟩)]) (c9:=[(k,.aI cells ty)]) ho fq ?_
 ·simpa using this
 ·intro ι c w hm hn args' ha;have hk:c k=none:=hn (k,none) (aR ..);rw[bC]at dP cV;have e:args'=args:=oj (by simpa using ha) dP;subst e;refine vH ja hf rfl n (h w) (lE dP) (uE w) n_ (λ_ _=>rfl) λaB cr v' w' _ hc bJ dW=>?_;obtain⟨kE,dM,rfl,h1,h2⟩:=hc.BL;have h0:cr 0=some (.aI cells ty):=dW (0,_) (aR ..);obtain⟨l,q1,b,ct,rfl,q2,q3⟩:=bJ.born 0 _ h0;obtain⟨q4,q5⟩:=bJ.own 0 _ b 0 0 h0 rfl q1;have hbn:w.heap.size<=b:=P3 q5;have ec:ct=cells:=oj q2 cV;subst ec;have ef:kE=#[]:=by
   cases jO:kE.toList with
   |nil=>exact Je.1 jO
   |cons _ _=>rw[jO]at h1;cases h1
  subst ef;have fm:dM.toList=[.pointer (some ⟨b,0,none⟩)]:=by
   have h2:bY (aM aB) [.pointer (some ⟨0,0,some 7⟩)] dM.toList:=h2;generalize dM.toList=l at h2;cases h2 with
   |cons p q=>
    cases q;obtain⟨b',o',aT,e1,e2⟩:=p.xK rfl;rw[q1]at e1;injection e1 with e1;injection e1 with e1 e3 _;subst e1;subst e3;rw[e2];simp
  have dE:=hm.new (k:=k) (x:=.aI ct ty) (l:=.at b 0 0) bJ.base hk ⟨b,ct,rfl,lE cV,q3⟩ (λb' o' aT _ e=>by injection e with e _ _;subst e;exact⟨hbn,q4⟩) n_ rfl;refine⟨dT ι k (.at b 0 0),_,rfl,hZ (hm.dD k hk),?_,dE⟩;refine .fn .nil ?_;rw[fm];exact .cons (.ptr (gu _ _ _)) .nil
theorem Es{gf:FuncId}{P4:Func}{W1 W:h_}{l:Nat}{S:Nat->Prop}{m:Map}{dM:al}{M':aL}{v:i_}(ja:P.follows .mixedOrders=true)(hf:P.funcs[gf]?=some P4)
  (hN:N=(ca.length+1)+(P4.ntmps-(ca.length+1))) (n:Nat) {rs:bN P (lq W1 l S m) N} (hm:aO (lq W1 l S m) κ c W) (ha:cZ c M) (hu:eG c (next+1)) (fm:bY (aM κ) ca dM)
  (h:pv (iv (P:=P) P4 n (.func (.yield l) #[] #[]::ca) M (next+1) rs) M'=pw (iv P4 n (.func (.yield l) #[] #[]::ca) M (next+1) rs) v M') :
  Calls P gf (.func (.yield l) #[] #[]::dM).toArray W λe W'=>∃ v rm c',e=.returned v/\Map.le κ rm/\aO (lq W1 l S m) rm c' W'/\cZ c' M'/\∀ k,k<next->c k=none->c' k=none:=by
 refine TE ja hf (by simpa using hN) n h (.cons (.same rfl) fm) hm ha hu λaB cr v' w' hle hc bJ dW hk=>⟨v',aB,cr,rfl,hle,bJ,λk x e=>dW (k,x) (kW e),λk gV AG=>?_⟩;rw[hk k o_ (by
  cases e:ak M k with
  |none=>rfl
  |some x=>rw[ha k x e]at AG;cases AG)]
 exact AG
end
end Go.Proofs.YtgpahigmalfpdaaGreatDoor
