/- Points of a cut set: the proof of CutPointsCardSaid (the law's function answers true at every set it can be given; theorem cutPoints_card, last part), part 3 of 7; no condition. -/
import Derived.Test.YtjjefbkbljlgdaaGreatDoorC2
namespace Go.Proofs.YtjjefbkbljlgdaaGreatDoor
open Go Go.RowKit Tryz
theorem aKs{B:aa}{o:Oper}{x:Operand}{k:Nat}(r:RV)(ho:dw o.op=some x):cB prog B o (.func (.func 105) #[] #[]::[r.v]) [(k,none)] (.func (.func 145) #[] #[.pointer (some ⟨k,0,some 7⟩)]) [(k,.aI r.cs 33)]:=
 aBj mixed func105 ho k_ 50 (λ_=>[]) (λ_=>k_) k_ k_
def tB(r:RV):aH:=[(0,.aI r.cs 33),(1,.aI [.bool false] 4),(2,.aI r.cs 33)]
def Fo:aW:=[(1,bX 0),(2,bX 1),(6,.func (.func 145) #[] #[bX 2])]
theorem aKt{B:aa}(r:RV):ag prog B 12 (Kr f67 0) (jA 0 [r.v]) [] 0 ⟨.normal,[(1,bX 0),(2,bX 1)],[(0,.aI r.cs 33),(1,.aI [.bool false] 4)],2⟩:=
 fj mixed 10 [] k_
theorem aKu{B:aa}(r:RV):ag prog B 12 (Kr f67 1) [(1,bX 0),(2,bX 1)] [(0,.aI r.cs 33),(1,.aI [.bool false] 4)] 2 ⟨.normal,Fo,tB r,3⟩:=
 fj mixed 10 [.step 6 (av f67 6) _ _ _ _ (aKs (k:=2) (x:=.func 105) r k_)] k_
theorem aKv(r:RV)(x:RN)(i:Int)(b:Bool)(hx:aE prog 69 [x.v] (.bool b)):
  Oi prog 3 12 #[7,8] (HK (vM f67)) (HL (vM f67)) Fo (tB r) [] (tB r) [.int .i64 i,x.v] (if b then none else some .ret):=by
 cases b
 ·exact Oq (rA:=⟨.normal,(4,bX 4)::Fo,(4,.aI x.cs 31)::tB r,5⟩) (rB:=⟨.ret,[],tB r,5⟩) k_ k_ k_ k_ k_ k_ k_ k_ rfl (λB=>fj mixed 10 [] k_) rfl k_ rfl
   (λB=>fj mixed 10 [hx.at 10] k_) (λk x h=>h) rfl
 ·exact Oq (rA:=⟨.normal,(4,bX 4)::Fo,(4,.aI x.cs 31)::tB r,5⟩) (rB:=⟨.normal,[],tB r,5⟩) k_ k_ k_ k_ k_ k_ k_ k_ rfl (λB=>fj mixed 10 [] k_) rfl k_ rfl
   (λB=>fj mixed 10 [hx.at 10] k_) (λk x h=>h) rfl
theorem aKw{B:aa}(r:RV):ag prog B 12 (.seq (Kr f67 5) .ret) Fo (tB r) 3 ⟨.ret,[(2,bX 1)],[(1,.aI [.bool true] 4)],3⟩:=fj mixed 10 [] k_
theorem aKx{r:RV}{bx Bw bz:Bool}(hx:aE prog 69 [r.x.v] (.bool bx))(hy:aE prog 69 [r.y.v] (.bool Bw))(hz:aE prog 69 [r.z.v] (.bool bz)){T:Array Value}{m:Map}{S:Nat->Prop}(kp:Oo prog 3 12 Fo (tB r) m S T)
  {fo:FuncId} {l D:Nat} {W1 W:World} {κ:Map} {c:Nat->Option Obj} {eZ:aj} (hm:aQ (pk W1 l S m) κ c W) (ha:cT c ((3,.fact (fm l (jS fo T #[7,8] (HK (vM f67)) (HL (vM f67)) D)))::(tB r++[]))) (hu:eG c (3+1)) (gS:bK (aG κ) [bX 2] eZ) :
  Calls prog 145 (.func (.yield l) #[] #[]::eZ).toArray W λe W'=>∃ v tA c',e=.returned v/\Map.le κ tA/\aQ (pk W1 l S m) tA c' W'/\
   cT c' ((3,.fact (fm l (C8 (jS fo T #[7,8] (HK (vM f67)) (HL (vM f67)) D) (if bx&&Bw&&bz then none else some .ret))))::(tB r++[]))/\∀ k,k<3->c k=none->c' k=none:=by
 have st:=λ(x:RN) (i:Int) (b:Bool) (h:aE prog 69 [x.v] (.bool b))=>Oj (W1:=W1) (l:=l) (D:=D) (fo:=fo) (x:=.tmp 16) (o:=av f145 19) (aKv r x i b h) k_ kp.size kp.jA kp.low kp.set kp.born
 cases bx
 ·exact Fm mixed func145 rfl 100 (v:=.tuple #[]) (rs:=[.step 19 _ _ _ _ _ (st r.x 0 _ hx)]) hm ha hu gS k_
 ·cases Bw
  ·exact Fm mixed func145 rfl 100 (v:=.tuple #[]) (rs:=[.step 19 _ _ _ _ _ (st r.x 0 _ hx),.step 19 _ _ _ _ _ (st r.y 1 _ hy)]) hm ha hu gS k_
  ·cases bz
   ·exact Fm mixed func145 rfl 100 (v:=.tuple #[]) (rs:=[.step 19 _ _ _ _ _ (st r.x 0 _ hx),.step 19 _ _ _ _ _ (st r.y 1 _ hy),.step 19 _ _ _ _ _ (st r.z 2 _ hz)]) hm ha hu gS k_
   ·exact Fm mixed func145 rfl 100 (v:=.tuple #[]) (rs:=[.step 19 _ _ _ _ _ (st r.x 0 _ hx),.step 19 _ _ _ _ _ (st r.y 1 _ hy),.step 19 _ _ _ _ _ (st r.z 2 _ hz)]) hm ha hu gS k_
theorem Ov{r:RV}{bx Bw bz:Bool}(hx:aE prog 69 [r.x.v] (.bool bx))(hy:aE prog 69 [r.y.v] (.bool Bw))(hz:aE prog 69 [r.z.v] (.bool bz)):
  aE prog 67 [r.v] (.bool (bx&&Bw&&bz)):=by
 refine aBi (N:=12) func67 rfl rfl k_ λw a hf hm=>?_;refine lB (aKt r none _ _ a w _ hf hm n_ (λ_ _=>rfl) λuD cc0 a0 w0 aKy Er kz oC CI Db _=>?_);refine lB (lB (aKu r none _ _ a0 w0 _ Er kz oC CI λbO gk a1 w1 jq iH cX eC dP hY _=>Jm ?_))
 refine aA7 (next:=3) (Os:=tB r) (Vs:=[]) (cq:=tB r) (gf:=145) (ca:=[bX 2]) (j:=if bx&&Bw&&bz then none else some .ret) iH cX eC dP (λk x h=>nK (p:=λp=>p.2.owns) k_ h) n_ k_ k_ k_ (λk=>Iff.rfl) (λk x h=>nK (p:=λp=>p.2.owns) k_ h) (λk x h=>Da (nK (p:=om 3) k_ h))
  (λfo l D W1 S kp κ c W eZ hm ha hu gS=>aKx hx hy hz kp hm ha hu gS) λD bY w' HJ hDw jl dB gZ fv=>?_
 by_cases hb:(bx&&Bw&&bz)=true
 ·rw[aw hb,hb];exact aKq (B:=aa.at w) (v:=.bool true) (λB=>aKw r) rfl k_ jl dB gZ fv rfl (λF h=>h) HJ λau v' w' hc hG=>⟨by rw[hc.eU rfl],hG⟩
 ·rw[ao hb];refine Jn (aBh (B:=aa.at w) (fr:=Fo) (M:=tB r++[]) (v:=.bool false) k_ jl dB gZ rfl (λF h=>h) HJ λau v' w' hc hG=>⟨?_,hG⟩);rw[hc.eU rfl];cases hc:bx&&Bw&&bz
  ·rfl
  ·exact absurd hc hb
inductive aR where
 |p (v:Value)
 |r (n:Nat) (xs:aj)
 |q (xs:aj)
 |f (g:FuncId) (xs:aj)
 |b (n:Nat) (xs:aj)
 |o (F:Fact)
 |s (n1:Nat) (iB:aj) (n2:Nat) (jf:aj) (F:Fact)
 |a (n1:Nat) (iB:aj) (n2:Nat) (jf:aj) (n3:Nat) (Fp:aj)
def Ow(w:World)(v:Value)(xs:aj):Prop:=∃ b o,v=.pointer (some ⟨b,o,none⟩)/\b<w.heap.size/\∀(j:Nat) u,xs[j]?=some u->w.cell? ⟨b,o+j,none⟩=some u
def Dc(w:World)(v:Value)(F:Fact):Prop:=F.G v w/\v.cells=#[v]/\v.oneCell'=true
def aR.In(w:World):aR->Value->Prop
 |.p u,v=>v=u
 |.r n xs,v=>cK w v n xs
 |.q xs,v=>Ow w v xs
 |.f g xs,v=>∃ u,v=.func (.func g) #[] #[u]/\Ow w u xs
 |.b n xs,v=>∃ b o u,v=.pointer (some ⟨b,o,none⟩)/\b<w.heap.size/\w.cell? ⟨b,o,none⟩=some u/\cK w u n xs
 |.o F,v=>Dc w v F
 |.s n1 iB n2 jf F,v=>∃ u1 u2 u3,v=.agg #[u1,u2,u3]/\cK w u1 n1 iB/\cK w u2 n2 jf/\Dc w u3 F
 |.a n1 iB n2 jf n3 Fp,v=>∃ u1 u2 u3,v=.agg #[u1,u2,u3]/\cK w u1 n1 iB/\cK w u2 n2 jf/\cK w u3 n3 Fp
def aR.ok:aR->Bool
 |.p v=>flat v
 |.r _ xs=>xs.all flat
 |.q xs=>xs.all flat
 |.f _ xs=>xs.all flat
 |.b _ xs=>xs.all flat
 |.o F=>!F.rc
 |.s _ iB _ jf F=>iB.all flat&&(jf.all flat&&!F.rc)
 |.a _ iB _ jf _ Fp=>iB.all flat&&(jf.all flat&&Fp.all flat)
inductive rZ(w:World):List aR->aj->Prop
 |nil:rZ w [] []
 |cons {a:aR} {v:Value} {l:List aR} {vs:aj}:a.In w v->rZ w l vs->rZ w (a::l) (v::vs)
def eP:Nat->List aR->aj
 |_,[]=>[]
 |k,.p v::l=>v::eP k l
 |k,.r n _::l=>.slice (some ⟨k,0,some 7⟩) n 0::eP (k+1) l
 |k,.q _::l=>.pointer (some ⟨k,0,some 7⟩)::eP (k+1) l
 |k,.f g _::l=>.func (.func g) #[] #[.pointer (some ⟨k,0,some 7⟩)]::eP (k+1) l
 |k,.b _ _::l=>.pointer (some ⟨k+1,0,some 7⟩)::eP (k+2) l
 |k,.o _::l=>.pointer (some ⟨k,0,some 9⟩)::eP (k+1) l
 |k,.s n1 _ n2 _ _::l=>.agg #[.slice (some ⟨k,0,some 7⟩) n1 0,.slice (some ⟨k+1,0,some 7⟩) n2 0,.pointer (some ⟨k+2,0,some 9⟩)]::eP (k+3) l
 |k,.a n1 _ n2 _ n3 _::l=>.agg #[.slice (some ⟨k,0,some 7⟩) n1 0,.slice (some ⟨k+1,0,some 7⟩) n2 0,.slice (some ⟨k+2,0,some 7⟩) n3 0]::eP (k+3) l
def js:Nat->List aR->aH
 |_,[]=>[]
 |k,.p _::l=>js k l
 |k,.r _ xs::l=>(k,.view xs)::js (k+1) l
 |k,.q xs::l=>(k,.view xs)::js (k+1) l
 |k,.f _ xs::l=>(k,.view xs)::js (k+1) l
 |k,.b n xs::l=>(k,.view xs)::(k+1,.view [.slice (some ⟨k,0,some 7⟩) n 0])::js (k+2) l
 |k,.o F::l=>(k,.fact F)::js (k+1) l
 |k,.s _ iB _ jf F::l=>(k,.view iB)::(k+1,.view jf)::(k+2,.fact F)::js (k+3) l
 |k,.a _ iB _ jf _ Fp::l=>(k,.view iB)::(k+1,.view jf)::(k+2,.view Fp)::js (k+3) l
def jG:Nat->List aR->Nat
 |k,[]=>k
 |k,.p _::l=>jG k l
 |k,.r _ _::l=>jG (k+1) l
 |k,.q _::l=>jG (k+1) l
 |k,.f _ _::l=>jG (k+1) l
 |k,.b _ _::l=>jG (k+2) l
 |k,.o _::l=>jG (k+1) l
 |k,.s _ _ _ _ _::l=>jG (k+3) l
 |k,.a _ _ _ _ _ _::l=>jG (k+3) l
theorem aBk{B:aa}{ι:Map}{c:Nat->Option Obj}{w:World}(hm:aQ B ι c w){k:Nat}{v:Value}{xs:aj}(hk:c k=none)(h:Ow w v xs)(cN:∀ u∈xs,flat u=true)(gE:∀ j x,c j=some x->x.owns=false):
  ∃ au,Map.le ι au/\aQ B au (ba c k (.view xs)) w/\aG au (.pointer (some ⟨k,0,some 7⟩)) v:=by
 obtain⟨b,o,rfl,h2,h3⟩:=h;refine⟨dF ι k (.at b o 0),gC (hm.dr k hk),hm.add hk (.inr ⟨b,o,0,xs,rfl,ke cN,h3⟩) n_ n_ (λb1 o1 lV _ e=>?_),?_⟩
 ·injection e with e1 e2 e3;subst e1;exact⟨h2,λj y o' aT hj hy=>by rw[gE j y hj]at hy;cases hy⟩
 ·have:=aG.ptr (off:=0) (fD ι k (.at b o 0));rwa[jn]at this
def zk(B:aa)(w:World)(k:Nat)(ι:Map)(c:Nat->Option Obj)(L:aH)(n:Nat)(au:Map)(c':Nat->Option Obj):Prop:=
 Map.le ι au/\aQ B au c' w/\(∀ j x,c' j=some x->x.owns=false)/\eG c' n/\cT c' L/\(∀ j,j<k->c' j=c j)/\k<=n/\(∀ j x,ah L j=some x->k<=j/\j<n)
theorem aKz{B:aa}{w:World}{k:Nat}{ι:Map}{c:Nat->Option Obj}(hm:aQ B ι c w)(ho:∀ j x,c j=some x->x.owns=false)(hu:eG c k):zk B w k ι c [] k ι c:=
 ⟨Map.le.refl _,hm,ho,hu,λj x h=>(by cases h),λ_ _=>rfl,bj _,λj x h=>(by cases h)⟩
theorem Ks{B:aa}{w:World}{k:Nat}{ι bO:Map}{c:Nat->Option Obj}{x:Obj}(ho:∀ j x,c j=some x->x.owns=false)(hu:eG c k)(hle:Map.le ι bO)(hm:aQ B bO (ba c k x) w)(hx:x.owns=false):zk B w k ι c [(k,x)] (k+1) bO (ba c k x):=by
 refine⟨hle,hm,λj y hj=>?_,λj hj=>?_,λj y hj=>?_,λj hj=>?_,yw _,λj y hj=>?_⟩
 ·unfold ba at hj;by_cases bN:j=k
  ·rw[aw bN]at hj;injection hj with hj;subst hj;exact hx
  ·rw[ao bN]at hj;exact ho j y hj
 ·unfold ba;rw[ao o_];exact hu j o_
 ·unfold ah at hj;split at hj
  ·rename_i hb;injection hj with hj;subst hj;unfold ba;rw[aw (jZ hb).symm]
  ·cases hj
 ·unfold ba;rw[ao o_]
 ·unfold ah at hj;split at hj
  ·rename_i hb;have:=jZ hb;omega
  ·cases hj
theorem zk.trans{B:aa}{w:World}{k n m:Nat}{ι bO dG:Map}{c c1 c2:Nat->Option Obj}{L L2:aH}(h:zk B w k ι c L n bO c1)(h2:zk B w n bO c1 L2 m dG c2):zk B w k ι c (L++L2) m dG c2:=by
 obtain⟨a1,a2,a3,a4,a5,a6,a7,a8⟩:=h;obtain⟨b1,b2,b3,b4,b5,b6,b7,b8⟩:=h2;refine⟨a1.trans b1,b2,b3,b4,λj x hj=>?_,λj hj=>by rw[b6 j o_,a6 j hj],by omega,λj x hj=>?_⟩
 ·rw[gK]at hj;cases e:ah L j with
  |some y=>
   rw[e]at hj;injection hj with hj;subst hj;rw[b6 j (a8 j _ e).2];exact a5 j _ e
  |none=>rw[e]at hj;exact b5 j x hj
 ·rw[gK]at hj;cases e:ah L j with
  |some y=>rw[e]at hj;injection hj with hj;subst hj;have:=a8 j _ e;omega
  |none=>rw[e]at hj;have:=b8 j x hj;omega
theorem Fq{B:aa}{w:World}{k n:Nat}{ι:Map}{c:Nat->Option Obj}{u:Value}{xs:aj}(hm:aQ B ι c w)(ho:∀ j x,c j=some x->x.owns=false)(hu:eG c k)(h:cK w u n xs)(cN:xs.all flat=true):
  ∃ au c',zk B w k ι c [(k,.view xs)] (k+1) au c'/\aG au (.slice (some ⟨k,0,some 7⟩) n 0) u:=by
 obtain⟨bO,q1,q2,q3⟩:=yD hm (hu k (bj _)) h (bh.1 cN) λb o c' _ j y o' aT hj hy=>by rw[ho j y hj]at hy;cases hy
 exact⟨bO,_,Ks ho hu q1 q2 rfl,q3⟩
theorem aBl{B:aa}{w:World}{k:Nat}{ι:Map}{c:Nat->Option Obj}{u:Value}{F:Fact}(hm:aQ B ι c w)(ho:∀ j x,c j=some x->x.owns=false)(hu:eG c k)(h:Dc w u F)(wE:F.rc=false):
  ∃ au c',zk B w k ι c [(k,.fact F)] (k+1) au c'/\aG au (.pointer (some ⟨k,0,some 9⟩)) u:=by
 refine⟨dF ι k (.val u),ba c k (.fact F),Ks ho hu (gC (hm.dr k (hu k (bj _)))) (hm.add (hu k (bj _)) ⟨u,rfl,h.1⟩ n_ (λF' v b e1 e2 hF j y o' aT hj hy=>by rw[ho j y hj]at hy;cases hy) n_ λF' e hr=>?_) rfl,.opq (fD _ _ _) h.2.1 h.2.2⟩;injection e with e;subst e;rw[wE]at hr;cases hr
theorem vN{B:aa}{w:World}:∀{l:List aR} {vs:aj},rZ w l vs->(∀ a∈l,aR.ok a=true)->∀(k:Nat) (ι:Map) (c:Nat->Option Obj),aQ B ι c w->(∀ j x,c j=some x->x.owns=false)->eG c k->
  ∃ au c',Map.le ι au/\aQ B au c' w/\eG c' (jG k l)/\cT c' (js k l)/\(∀ j,j<k->c' j=c j)/\bK (aG au) (eP k l) vs/\k<=jG k l
 |_,_,.nil,_,k,ι,c,hm,ho,hu=>⟨ι,c,Map.le.refl _,hm,hu,λk x h=>(by cases h),λ_ _=>rfl,.nil,bj _⟩
 |_,_,.cons (a:=a) (v:=v) (l:=l) (vs:=vs) h hs,ay,k,ι,c,hm,ho,hu=>by
  have Bx:∀ a∈l,aR.ok a=true:=λa ha=>ay a (bF _ ha);have tC:=ay a (aV ..);have go:∀(L:aH) (n:Nat) (u:Value) (bO:Map) (c1:Nat->Option Obj),zk B w k ι c L n bO c1->aG bO u v->
    ∃ au c',Map.le ι au/\aQ B au c' w/\eG c' (jG n l)/\cT c' (L++js n l)/\(∀ j,j<k->c' j=c j)/\bK (aG au) (u::eP n l) (v::vs)/\k<=jG n l:=by
   intro L n u bO c1 ⟨q1,q2,q3,q4,q5,q6,q7,q8⟩ q9;obtain⟨au,c',h1,h2,h3,h4,h5,h6,h7⟩:=vN hs Bx n bO c1 q2 q3 q4;refine⟨au,c',q1.trans h1,h2,h3,λj x hj=>?_,λj hj=>by rw[h5 j o_,q6 j hj],.cons (q9.mono h1) h6,by omega⟩;rw[gK]at hj;cases e:ah L j with
   |some y=>
    rw[e]at hj;injection hj with hj;subst hj;rw[h5 j (q8 j _ e).2];exact q5 j _ e
   |none=>rw[e]at hj;exact h4 j x hj
  cases a with
  |p u=>
   cases h;exact go [] k _ ι c (aKz hm ho hu) (.same tC)
  |r n xs=>
   obtain⟨bO,c1,q1,q2⟩:=Fq hm ho hu h tC;exact go _ _ _ bO c1 q1 q2
  |q xs=>
   obtain⟨bO,q1,q2,q3⟩:=aBk hm (hu k (bj _)) h (bh.1 tC) ho;exact go _ _ _ bO _ (Ks ho hu q1 q2 rfl) q3
  |f g xs=>
   obtain⟨u,rfl,jK⟩:=h;obtain⟨bO,q1,q2,q3⟩:=aBk hm (hu k (bj _)) jK (bh.1 tC) ho;exact go _ _ _ bO _ (Ks ho hu q1 q2 rfl) (.fn .nil (.cons q3 .nil))
  |b n xs=>
   obtain⟨b,o,u,rfl,hb,lX,jm⟩:=h;obtain⟨bO,c1,q1,q2⟩:=Fq hm ho hu jm tC;obtain⟨a1,a2,a3,a4,a5,a6,a7,a8⟩:=q1;have dB:aQ B (dF bO (k+1) (.at b o 0)) (ba c1 (k+1) (.view [.slice (some ⟨k,0,some 7⟩) n 0])) w:=by
    refine a2.add (a4 _ (bj _)) (.inr ⟨b,o,0,[u],rfl,.cons (q2.mono (gC (a2.dr _ (a4 _ (bj _))))) .nil,λj x hj=>?_⟩) n_ n_ (λb1 o1 lV _ e1=>?_)
    ·cases j with
     |zero=>simp at hj;subst hj;exact lX
     |succ j=>simp at hj
    ·injection e1 with e1 e2 e3;subst e1;exact⟨hb,λj y o' aT hj hy=>by rw[a3 j y hj]at hy;cases hy⟩
   have h2:=Ks a3 a4 (gC (a2.dr _ (a4 _ (bj _)))) dB rfl;have:=aG.ptr (off:=0) (fD bO (k+1) (.at b o 0));rw[jn]at this;exact go _ _ _ _ _ (zk.trans ⟨a1,a2,a3,a4,a5,a6,a7,a8⟩ h2) this
  |o F=>
   obtain⟨bO,c1,q1,q2⟩:=aBl hm ho hu h (by simpa[aR.ok]using tC);exact go _ _ _ bO c1 q1 q2
  |s n1 iB n2 jf F=>
   simp only[aR.ok,da,AH]at tC;obtain⟨u1,u2,u3,rfl,r1,r2,r3⟩:=h;obtain⟨bO,c1,q1,p1⟩:=Fq hm ho hu r1 tC.1;obtain⟨dG,c2,q2,p2⟩:=Fq q1.2.1 q1.2.2.1 q1.2.2.2.1 r2 tC.2.1;obtain⟨T9,c3,q3,p3⟩:=aBl q2.2.1 q2.2.2.1 q2.2.2.2.1 r3 tC.2.2;exact go _ _ _ T9 c3 (q1.trans (q2.trans q3)) (.agg (.cons (p1.mono (q2.1.trans q3.1)) (.cons (p2.mono q3.1) (.cons p3 .nil))))
  |a n1 iB n2 jf n3 Fp=>
   simp only[aR.ok,da]at tC;obtain⟨u1,u2,u3,rfl,r1,r2,r3⟩:=h;obtain⟨bO,c1,q1,p1⟩:=Fq hm ho hu r1 tC.1;obtain⟨dG,c2,q2,p2⟩:=Fq q1.2.1 q1.2.2.1 q1.2.2.2.1 r2 tC.2.1;obtain⟨T9,c3,q3,p3⟩:=Fq q2.2.1 q2.2.2.1 q2.2.2.2.1 r3 tC.2.2;exact go _ _ _ T9 c3 (q1.trans (q2.trans q3)) (.agg (.cons (p1.mono (q2.1.trans q3.1)) (.cons (p2.mono q3.1) (.cons p3 .nil))))
def cy(P:Program)(f:FuncId)(l:List aR)(res:Value):Prop:=
 ∀ w vs,rZ w l vs->Calls P f vs.toArray w λe w'=>e=.returned res/\Below w.heap.size w w'
def lM(P:Program)(f:FuncId)(l:List aR)(ty:TypeId)(size n:Nat)(xs:aj):Prop:=
 ∀ w vs,rZ w l vs->Calls P f vs.toArray w λe w'=>∃ v,e=.returned v/\w'.ownsRow w.heap.size ty size v n xs/\Below w.heap.size w w'
section
variable{P:Program}{B:aa}{N:Nat}
theorem gz{f:FuncId}{fn:Func}{l:List aR}{v:Value}(gn:P.follows .mixedOrders=true)(hf:P.funcs[f]?=some fn)(hl:(l.all aR.ok)=true)(n:Nat){N:Nat}(hN:N=(eP 0 l).length+(fn.ntmps-(eP 0 l).length))
  (rs:∀ w,bA P (aa.at w) N) (h:∀ w,nA (fO (P:=P) fn n (eP 0 l) (js 0 l) (jG 0 l) (rs w)) []=nB (fO fn n (eP 0 l) (js 0 l) (jG 0 l) (rs w)) v []) (hv:flat v=true):cy P f l v:=by
 intro w vs ct;obtain⟨ι,c,h1,h2,h3,h4,h5,h6,h7⟩:=vN ct (bh.1 hl) 0 _ _ (qx w) n_ (λ_ _=>rfl);exact rG gn hf hN n (h w) h6 h2 h4 h3 λau bY v' w' hle hc hm _=>⟨by rw[hc.eU hv],hm.base⟩
theorem zn{f:FuncId}{fn:Func}{l:List aR}{ty:TypeId}{size m:Nat}{xs:aj}{k:Nat}(gn:P.follows .mixedOrders=true)(hf:P.funcs[f]?=some fn)(hl:(l.all aR.ok)=true)(n:Nat){N:Nat}(hN:N=(eP 0 l).length+(fn.ntmps-(eP 0 l).length))
  (rs:∀ w,bA P (aa.at w) N) (h:∀ w,nA (fO (P:=P) fn n (eP 0 l) (js 0 l) (jG 0 l) (rs w)) [(k,.row xs ty size)]=nB (fO fn n (eP 0 l) (js 0 l) (jG 0 l) (rs w)) (.slice (some ⟨k,0,some 7⟩) m 0) [(k,.row xs ty size)])
  (hx:(xs.all flat)=true) (hlen:xs.length=m*size):lM P f l ty size m xs:=by
 intro w vs ct;obtain⟨ι,c,h1,h2,h3,h4,h5,h6,h7⟩:=vN ct (bh.1 hl) 0 _ _ (qx w) n_ (λ_ _=>rfl);refine rG gn hf hN n (h w) h6 h2 h4 h3 λau bY v' w' hle hc hm dy=>⟨v',rfl,?_,hm.base⟩;have:=vx hm (dy (k,_) (aV ..)) hc o_ (bh.1 hx);rwa[<-hlen,mQ]at this
inductive fH(B:aa):List aR->aj->List (Nat×Option Obj)->Prop
 |nil:fH B [] [] []
 |p {v:Value} {l:List aR} {vs:aj} {nd:List (Nat×Option Obj)}:flat v=true->fH B l vs nd->fH B (.p v::l) (v::vs) nd
 |w {k n cc:Nat} {x:Obj} {l:List aR} {vs:aj} {nd:List (Nat×Option Obj)}:x.reads=true->(x.cells.all flat)=true->(n=0->x.cells=[])->fH B l vs nd->fH B (.r n x.cells::l) (.slice (some ⟨k,0,some 7⟩) n cc::vs) ((k,some x)::nd)
 |r {k off n cc len:Nat} {x:Obj} {l:List aR} {vs:aj} {nd:List (Nat×Option Obj)}:x.reads=true->(x.cells.all flat)=true->(n=0->len=0)->fH B l vs nd->fH B (.r n ((x.cells.drop off).take len)::l) (.slice (some ⟨k,off,some 7⟩) n cc::vs) ((k,some x)::nd)
 |q {k:Nat} {x:Obj} {l:List aR} {vs:aj} {nd:List (Nat×Option Obj)}:x.reads=true->(x.cells.all flat)=true->fH B l vs nd->fH B (.q x.cells::l) (.pointer (some ⟨k,0,some 7⟩)::vs) ((k,some x)::nd)
 |f {g:FuncId} {k:Nat} {x:Obj} {l:List aR} {vs:aj} {nd:List (Nat×Option Obj)}:x.reads=true->(x.cells.all flat)=true->fH B l vs nd->fH B (.f g x.cells::l) (.func (.func g) #[] #[.pointer (some ⟨k,0,some 7⟩)]::vs) ((k,some x)::nd)
 |b {k m n cc:Nat} {x y:Obj} {l:List aR} {vs:aj} {nd:List (Nat×Option Obj)}:y.reads=true->y.cells=[.slice (some ⟨k,0,some 7⟩) n cc]->x.reads=true->(x.cells.all flat)=true->(n=0->x.cells=[])->fH B l vs nd->fH B (.b n x.cells::l) (.pointer (some ⟨m,0,some 7⟩)::vs) ((m,some y)::(k,some x)::nd)
 |o {k:Nat} {F:Fact} {l:List aR} {vs:aj} {nd:List (Nat×Option Obj)}:fH B l vs nd->fH B (.o F::l) (.pointer (some ⟨k,0,some 9⟩)::vs) ((k,some (.fact F))::nd)
 |e {v:Value} {n:Nat} {xs:aj} {l:List aR} {vs:aj} {nd:List (Nat×Option Obj)}:flat v=true->(∀ w,B.G w->cK w v n xs)->fH B l vs nd->fH B (.r n xs::l) (v::vs) nd
 |s {k1 n1 c1 k2 n2 c2 k3:Nat} {x1 x2:Obj} {F:Fact} {l:List aR} {vs:aj} {nd:List (Nat×Option Obj)}:x1.reads=true->(x1.cells.all flat)=true->(n1=0->x1.cells=[])->x2.reads=true->(x2.cells.all flat)=true->(n2=0->x2.cells=[])->fH B l vs nd->
   fH B (.s n1 x1.cells n2 x2.cells F::l) (.agg #[.slice (some ⟨k1,0,some 7⟩) n1 c1,.slice (some ⟨k2,0,some 7⟩) n2 c2,.pointer (some ⟨k3,0,some 9⟩)]::vs) ((k1,some x1)::(k2,some x2)::(k3,some (.fact F))::nd)
 |oi {k:Nat} {F F':Fact} {l:List aR} {vs:aj} {nd:List (Nat×Option Obj)}:(∀ v w,F'.G v w->F.G v w)->fH B l vs nd->fH B (.o F::l) (.pointer (some ⟨k,0,some 9⟩)::vs) ((k,some (.fact F'))::nd)
 |si {k1 n1 c1 k2 n2 c2 k3:Nat} {x1 x2:Obj} {F F':Fact} {l:List aR} {vs:aj} {nd:List (Nat×Option Obj)}:(∀ v w,F'.G v w->F.G v w)->x1.reads=true->(x1.cells.all flat)=true->(n1=0->x1.cells=[])->x2.reads=true->(x2.cells.all flat)=true->(n2=0->x2.cells=[])->fH B l vs nd->
   fH B (.s n1 x1.cells n2 x2.cells F::l) (.agg #[.slice (some ⟨k1,0,some 7⟩) n1 c1,.slice (some ⟨k2,0,some 7⟩) n2 c2,.pointer (some ⟨k3,0,some 9⟩)]::vs) ((k1,some x1)::(k2,some x2)::(k3,some (.fact F'))::nd)
theorem Bz{ι:Map}{c:Nat->Option Obj}{w:World}(hm:aQ B ι c w){k:Nat}{F:Fact}{v:Value}(hk:c k=some (.fact F))(hc:aG ι (.pointer (some ⟨k,0,some 9⟩)) v):Dc w v F:=by
 obtain⟨l,h1,u,h2,h3⟩:=hm.born k _ hk;subst h2;generalize hp:Value.pointer (some ⟨k,0,some 9⟩)=p at hc;cases hc with
 |same h=>subst hp;cases h
 |ptr h=>injection hp with hp;injection hp with hp;injection hp with _ _ hp;cases hp
 |slc h=>cases hp
 |slcN h=>cases hp
 |opq h4 h5 h6=>
  injection hp with hp;injection hp with hp;injection hp with gY;subst gY;rw[h1]at h4;injection h4 with h4;injection h4 with h4;subst h4;exact⟨h3,h5,h6⟩
 |fn=>cases hp
 |agg=>cases hp
 |tup=>cases hp
theorem aBm{ι:Map}{c:Nat->Option Obj}{w:World}(hm:aQ B ι c w){k:Nat}{x:Obj}{v:Value}(hk:c k=some x)(hx:x.reads=true)(cN:∀ u∈x.cells,flat u=true)(hc:aG ι (.pointer (some ⟨k,0,some 7⟩)) v):Ow w v x.cells:=by
 obtain⟨b,o,cap,hb,rfl⟩:=hc.yo rfl;obtain⟨l,h1,h2⟩:=hm.born k x hk;dsimp only at hb;rw[hb]at h1;injection h1 with h1;subst h1;obtain⟨bC,fV,lX⟩:=h2.at hx;have fV:=nr fV cN;subst fV;refine⟨b,o,by simp,?_,λj u hj=>lX j u hj⟩;by_cases ho:x.owns=true
 ·exact(hm.own k x b o cap hk ho hb).1
 ·have hv:x.gh=true:=by unfold Obj.reads at hx;rw[uy]at hx;exact hx.resolve_left ho
  exact(hm.seen k x b o cap hk hv hb).1
theorem BB{l:List aR}{vs:aj}{nd:List (Nat×Option Obj)}(h:fH B l vs nd){ι:Map}{c:Nat->Option Obj}{w:World}(hm:aQ B ι c w):∀{args:aj},(∀ p∈nd,c p.1=p.2)->bK (aG ι) vs args->rZ w l args:=by
 induction h with
 |nil=>intro args _ h;cases h;exact .nil
 |p hv _ ih=>
  intro args hn h;cases h with
  |cons h1 h2=>exact .cons (h1.eU hv) (ih hn h2)
 |@w k n cc x l vs nd hx cN hlen _ ih=>
  intro args hn h;cases h with
  |cons h1 h2=>
   refine .cons ?_ (ih (λp hp=>hn p (bF _ hp)) h2);have:=oD (len:=x.cells.length) hm (hn (k,some x) (aV ..)) hx (bh.1 cN) (λh=>by rw[hlen h];rfl) h1;rw[l9,mQ]at this;exact this
 |@r k off n cc len x l vs nd hx cN hlen _ ih=>
  intro args hn h;cases h with
  |cons h1 h2=>
   refine .cons ?_ (ih (λp hp=>hn p (bF _ hp)) h2);exact oD (len:=len) hm (hn (k,some x) (aV ..)) hx (bh.1 cN) hlen h1
 |@q k x l vs nd hx cN _ ih=>
  intro args hn h;cases h with
  |cons h1 h2=>exact .cons (aBm hm (hn (k,some x) (aV ..)) hx (bh.1 cN) h1) (ih (λp hp=>hn p (bF _ hp)) h2)
 |@f g k x l vs nd hx cN _ ih=>
  intro args hn h;cases h with
  |cons h1 h2=>
   refine .cons ?_ (ih (λp hp=>hn p (bF _ hp)) h2);obtain⟨j9,eZ,rfl,q1,q2⟩:=h1.B8;have ef:j9=#[]:=by
    cases j6:j9.toList with
    |nil=>exact HI.1 j6
    |cons _ _=>rw[j6]at q1;cases q1
   subst ef;have q2:bK (aG ι) [.pointer (some ⟨k,0,some 7⟩)] eZ.toList:=q2;cases gS:eZ.toList with
   |nil=>rw[gS]at q2;cases q2
   |cons u t=>
    rw[gS]at q2;cases q2 with
    |cons q3 q4=>
     cases q4;refine⟨u,?_,aBm hm (hn (k,some x) (aV ..)) hx (bh.1 cN) q3⟩
     congr 1
     apply Gv;rw[gS]
 |@b k m n cc x y l vs nd hy hyc hx cN hlen _ ih=>
  intro args hn h;cases h with
  |@cons _ u _ _ h1 h2=>
   refine .cons ?_ (ih (λp hp=>hn p (bF _ (bF _ hp))) h2);obtain⟨b,o,cap,hb,rfl⟩:=h1.yo rfl;have hk:=hn (m,some y) (aV ..);obtain⟨lc,g1,g2⟩:=hm.born m y hk;dsimp only at hb;rw[hb]at g1;injection g1 with g1;subst g1;obtain⟨bC,fV,lX⟩:=g2.at hy;rw[hyc]at fV;obtain⟨u,rfl,hu⟩:=lW fV;have jm:=oD (len:=x.cells.length) hm (hn (k,some x) (bF _ (aV ..))) hx (bh.1 cN) (λh=>by rw[hlen h];rfl) hu;rw[l9,mQ]at jm;refine⟨b,o,u,by simp,?_,?_,jm⟩
   ·by_cases ho:y.owns=true
    ·exact(hm.own m y b o cap hk ho hb).1
    ·have hv:y.gh=true:=by unfold Obj.reads at hy;rw[uy]at hy;exact hy.resolve_left ho
     exact(hm.seen m y b o cap hk hv hb).1
   ·have:=lX 0 u rfl;simpa using this
 |@o k F l vs nd _ ih=>
  intro args hn h;cases h with
  |cons h1 h2=>exact .cons (Bz hm (hn (k,_) (aV ..)) h1) (ih (λp hp=>hn p (bF _ hp)) h2)
 |@e v n xs l vs nd hv hB _ ih=>
  intro args hn h;cases h with
  |cons h1 h2=>
   refine .cons ?_ (ih hn h2);rw[h1.eU hv];exact hB w hm.base
 |@s k1 n1 c1 k2 n2 c2 k3 x1 x2 F l vs nd r1 f1 l1 r2 f2 l2 _ ih=>
  intro args hn h;cases h with
  |cons h1 h2=>
   refine .cons ?_ (ih (λp hp=>hn p (bF _ (bF _ (bF _ hp)))) h2);obtain⟨us,rfl,Ku⟩:=h1.I4;obtain⟨u1,u2,u3,hu,q1,q2,q3⟩:=Ja Ku;have p1:=oD (len:=x1.cells.length) hm (hn (k1,some x1) (aV ..)) r1 (bh.1 f1) (λh=>by rw[l1 h];rfl) q1;have p2:=oD (len:=x2.cells.length) hm (hn (k2,some x2) (bF _ (aV ..))) r2 (bh.1 f2) (λh=>by rw[l2 h];rfl) q2;rw[l9,mQ]at p1 p2;refine⟨u1,u2,u3,?_,p1,p2,Bz hm (hn (k3,_) (bF _ (bF _ (aV ..)))) q3⟩
   congr 1
   rw[<-xu (xs:=us),hu]
 |@oi k F F' l vs nd himp _ ih=>
  intro args hn h;cases h with
  |cons h1 h2=>
   have h3:=Bz hm (hn (k,_) (aV ..)) h1;exact .cons ⟨himp _ _ h3.1,h3.2⟩ (ih (λp hp=>hn p (bF _ hp)) h2)
 |@si k1 n1 c1 k2 n2 c2 k3 x1 x2 F F' l vs nd himp r1 f1 l1 r2 f2 l2 _ ih=>
  intro args hn h;cases h with
  |cons h1 h2=>
   refine .cons ?_ (ih (λp hp=>hn p (bF _ (bF _ (bF _ hp)))) h2);obtain⟨us,rfl,Ku⟩:=h1.I4;obtain⟨u1,u2,u3,hu,q1,q2,q3⟩:=Ja Ku;have p1:=oD (len:=x1.cells.length) hm (hn (k1,some x1) (aV ..)) r1 (bh.1 f1) (λh=>by rw[l1 h];rfl) q1;have p2:=oD (len:=x2.cells.length) hm (hn (k2,some x2) (bF _ (aV ..))) r2 (bh.1 f2) (λh=>by rw[l2 h];rfl) q2;rw[l9,mQ]at p1 p2;have h3:=Bz hm (hn (k3,_) (bF _ (bF _ (aV ..)))) q3;refine⟨u1,u2,u3,?_,p1,p2,⟨himp _ _ h3.1,h3.2⟩⟩
   congr 1
   rw[<-xu (xs:=us),hu]
theorem dz{f:FuncId}{l:List aR}{res:Value}{vs:aj}{nd:List (Nat×Option Obj)}{o:Oper}{x:Operand}(h:cy P f l res)(hs:fH B l vs nd)(ho:dw o.op=some x)(eK:gi P f=true)(AJ:flat res=true):
  cB P B o (.func (.func f) #[] #[]::vs) nd res []:=by
 have:=jB (P:=P) (B:=B) (o:=o) (x:=x) (f:=f) (fi:=[]) (args:=vs) (ca:=[]) (need:=nd) (val:=res) (cR:=[]) ho eK ?_
 ·simpa using this
 ·intro ι c w hm hn args' ha;rw[jo,je]at ha;refine(h w args' (BB hs hm hn ha)).mono ?_
  rintro e w' ⟨rfl,hb⟩
  exact⟨ι,res,rfl,Map.le.refl _,.same AJ,hm.call hb⟩
theorem aKA{f:FuncId}{l:List aR}{res:Value}{vs ca:aj}{nd:List (Nat×Option Obj)}{o:Oper}{x:Operand}(h:cy P f l res)(hs:fH B l (vs++ca) nd)(ho:dw o.op=some x)(eK:gi P f=true)(AJ:flat res=true):
  cB P B o (.func (.func f) #[] ca.toArray::vs) nd res []:=by
 have:=jB (P:=P) (B:=B) (o:=o) (x:=x) (f:=f) (fi:=[]) (args:=vs) (ca:=ca) (need:=nd) (val:=res) (cR:=[]) ho eK ?_
 ·simpa using this
 ·intro ι c w hm hn args' ha;rw[jo]at ha;refine(h w args' (BB hs hm hn ha)).mono ?_
  rintro e w' ⟨rfl,hb⟩
  exact⟨ι,res,rfl,Map.le.refl _,.same AJ,hm.call hb⟩
theorem qI{f:FuncId}{l:List aR}{ty:TypeId}{size n:Nat}{xs:aj}{vs:aj}{nd:List (Nat×Option Obj)}{o:Oper}{x:Operand}(h:lM P f l ty size n xs)(hs:fH B l vs nd)(ho:dw o.op=some x)(eK:gi P f=true)(hx:(xs.all flat)=true)(k:Nat):
  cB P B o (.func (.func f) #[] #[]::vs) ((k,none)::nd) (.slice (some ⟨k,0,some 7⟩) n 0) [(k,.row xs ty size)]:=by
 have:=jB (P:=P) (B:=B) (o:=o) (x:=x) (f:=f) (fi:=[]) (args:=vs) (ca:=[]) (need:=(k,none)::nd) (val:=.slice (some ⟨k,0,some 7⟩) n 0) (cR:=[(k,.row xs ty size)]) ho eK ?_
 ·simpa using this
 ·intro ι c w hm hn args' ha;rw[jo,je]at ha;refine(h w args' (BB hs hm (λp hp=>hn p (bF _ hp)) ha)).mono ?_
  rintro e w' ⟨v,rfl,h1,h2⟩
  obtain⟨au,q1,q2,q3⟩:=Ez hm h2 (k:=k) (hn (k,none) (aV ..)) h1 (bh.1 hx);exact⟨au,v,rfl,q1,q3,q2⟩
end
section
open CR OF
@[ext] structure V3 (α:Type) where
 x:α
 y:α
 z:α
namespace V3
section
variable{α:Type}
instance[Add α]:Add (V3 α):=⟨λu v=>⟨u.x+v.x,u.y+v.y,u.z+v.z⟩⟩
instance[Sub α]:Sub (V3 α):=⟨λu v=>⟨u.x-v.x,u.y-v.y,u.z-v.z⟩⟩
instance[Neg α]:Neg (V3 α):=⟨λu=>⟨-u.x,-u.y,-u.z⟩⟩
instance[Zero α]:Zero (V3 α):=⟨⟨0,0,0⟩⟩
def smul[Mul α](v:V3 α)(k:α):V3 α:=⟨v.x*k,v.y*k,v.z*k⟩
def dot[Add α][Mul α](u v:V3 α):α:=u.x*v.x+u.y*v.y+u.z*v.z
def ax[Sub α][Mul α](u v:V3 α):V3 α:=⟨u.y*v.z-u.z*v.y,u.z*v.x-u.x*v.z,u.x*v.y-u.y*v.x⟩
def cL[Add α][Sub α][Mul α](u v w:V3 α):α:=dot u (ax v w)
end
def V(i:Nat):V3 E:=⟨E.var (3*i),E.var (3*i+1),E.var (3*i+2)⟩
def S(j:Nat):E:=E.var (90+j)
def flat{F:Type}:List (V3 F)->List F
 |[]=>[]
 |v::vs=>v.x::v.y::v.z::flat vs
def Ox{F:Type}[CR F](vs:List (V3 F))(ss:List F)(i:Nat):F:=cond (Nat.blt i 90) ((flat vs).getD i 0) (ss.getD (i-90) 0)
def aBn{F:Type}[CR F](ρ:Nat->F)(v:V3 E):V3 F:=⟨v.x.den ρ,v.y.den ρ,v.z.den ρ⟩
section
variable{F:Type}[CR F]
theorem ring(vs:List (V3 F))(ss:List F)(l r:(Nat->V3 E)->(Nat->E)->E)
  (h:E.peq (l V S).norm (r V S).norm=true) :
  (l V S).den (Ox vs ss)=(r V S).den (Ox vs ss):=E.prove _ _ _ h
theorem mR(vs:List (V3 F))(ss:List F)(l r:(Nat->V3 E)->(Nat->E)->V3 E)
  (h:(E.peq (l V S).x.norm (r V S).x.norm&&
   E.peq (l V S).y.norm (r V S).y.norm&&
   E.peq (l V S).z.norm (r V S).z.norm)=true) :
  aBn (Ox vs ss) (l V S)=aBn (Ox vs ss) (r V S):=by
 simp only[da]at h;exact V3.ext (E.prove _ _ _ h.1.1) (E.prove _ _ _ h.1.2) (E.prove _ _ _ h.2)
theorem zo(u v:V3 F):dot u v=dot v u:=ring [u,v] [] (λV _=>dot (V 0) (V 1)) (λV _=>dot (V 1) (V 0)) d_
theorem k7(u v w:V3 F):dot u (v+w)=dot u v+dot u w:=ring [u,v,w] [] (λV _=>dot (V 0) (V 1+V 2)) (λV _=>dot (V 0) (V 1)+dot (V 0) (V 2)) d_
theorem k8(u v w:V3 F):dot u (v-w)=dot u v-dot u w:=ring [u,v,w] [] (λV _=>dot (V 0) (V 1-V 2)) (λV _=>dot (V 0) (V 1)-dot (V 0) (V 2)) d_
theorem tD(u v:V3 F):dot u (-v)=-dot u v:=ring [u,v] [] (λV _=>dot (V 0) (-V 1)) (λV _=>-dot (V 0) (V 1)) d_
theorem BC(u v:V3 F):dot (-u) v=-dot u v:=ring [u,v] [] (λV _=>dot (-V 0) (V 1)) (λV _=>-dot (V 0) (V 1)) d_
theorem iT(u v:V3 F)(k:F):dot u (smul v k)=dot u v*k:=ring [u,v] [k] (λV S=>dot (V 0) (smul (V 1) (S 0))) (λV S=>dot (V 0) (V 1)*S 0) d_
theorem Oy(u v w:V3 F):dot (u+v) w=dot u w+dot v w:=ring [u,v,w] [] (λV _=>dot (V 0+V 1) (V 2)) (λV _=>dot (V 0) (V 2)+dot (V 1) (V 2)) d_
theorem aKB(u v:V3 F)(k:F):dot (smul u k) v=dot u v*k:=ring [u,v] [k] (λV S=>dot (smul (V 0) (S 0)) (V 1)) (λV S=>dot (V 0) (V 1)*S 0) d_
theorem Dd(u:V3 F):dot u 0=0:=by show u.x*0+u.y*0+u.z*0=0;rw[CR.mul_zero,CR.mul_zero,CR.mul_zero,CR.add_zero,CR.add_zero]
theorem aKC(u:V3 F):dot 0 u=0:=by rw[zo,Dd]
theorem Fs(u v:V3 F):dot u (ax u v)=0:=ring [u,v] [] (λV _=>dot (V 0) (ax (V 0) (V 1))) (λ_ _=>0) d_
theorem De(u v:V3 F):dot v (ax u v)=0:=ring [u,v] [] (λV _=>dot (V 1) (ax (V 0) (V 1))) (λ_ _=>0) d_
theorem Kv(u:V3 F):ax u u=0:=mR [u] [] (λV _=>ax (V 0) (V 0)) (λ_ _=>0) d_
theorem HM(u v:V3 F):ax v u=-ax u v:=mR [u,v] [] (λV _=>ax (V 1) (V 0)) (λV _=>-ax (V 0) (V 1)) d_
theorem Oz(u v w:V3 F):cL u v w=cL v w u:=ring [u,v,w] [] (λV _=>cL (V 0) (V 1) (V 2)) (λV _=>cL (V 1) (V 2) (V 0)) d_
theorem aBo(u v w:V3 F):cL u w v=-cL u v w:=ring [u,v,w] [] (λV _=>cL (V 0) (V 2) (V 1)) (λV _=>-cL (V 0) (V 1) (V 2)) d_
theorem neg_neg(u:V3 F):- -u=u:=mR [u] [] (λV _=>- -V 0) (λV _=>V 0) d_
theorem sub_self(u:V3 F):u-u=0:=mR [u] [] (λV _=>V 0-V 0) (λ_ _=>0) d_
theorem add_zero(u:V3 F):u+0=u:=V3.ext (CR.add_zero _) (CR.add_zero _) (CR.add_zero _)
theorem add_sub_cancel(u v:V3 F):u+(v-u)=v:=mR [u,v] [] (λV _=>V 0+(V 1-V 0)) (λV _=>V 1) d_
theorem smul_zero(u:V3 F):smul u 0=0:=V3.ext (CR.mul_zero _) (CR.mul_zero _) (CR.mul_zero _)
theorem aKD(u:V3 F):smul u 1=u:=V3.ext (CR.mul_one _) (CR.mul_one _) (CR.mul_one _)
theorem aBp(u:V3 F)(a b:F):smul (smul u a) b=smul u (a*b):=V3.ext (CR.mul_assoc _ _ _) (CR.mul_assoc _ _ _) (CR.mul_assoc _ _ _)
theorem neg_zero:-(0:V3 F)=0:=V3.ext CR.neg_zero CR.neg_zero CR.neg_zero
end
section
variable{F:Type}[OF F]
theorem sub_eq_zero{u v:V3 F}:u-v=0↔u=v:=by
 constructor
 ·intro h;exact V3.ext (OF.sub_eq_zero.1 (cI V3.x h)) (OF.sub_eq_zero.1 (cI V3.y h)) (OF.sub_eq_zero.1 (cI V3.z h))
 ·rintro rfl;exact sub_self u
theorem Ua{u:V3 F}(h:u≠0):0<dot u u:=by
 by_cases hx:u.x=0
 ·by_cases hy:u.y=0
  ·have hz:u.z≠0:=λhz=>h (V3.ext hx hy hz);exact aAt (add_nonneg (mO _) (mO _)) (Ti hz)
  ·exact Hq (aAt (mO _) (Ti hy)) (mO _)
 ·exact Hq (Hq (Ti hx) (mO _)) (mO _)
theorem BD{u:V3 F}(h:u≠0):dot u u≠0:=OF.ne_of_gt (Ua h)
theorem aKE{u:V3 F}{k:F}(h:smul u k=0):u=0\/k=0:=by
 by_cases hk:k=0
 ·exact .inr hk
 ·left;have hx:=(mul_eq_zero.1 (cI V3.x h:u.x*k=0)).resolve_right hk;have hy:=(mul_eq_zero.1 (cI V3.y h:u.y*k=0)).resolve_right hk;have hz:=(mul_eq_zero.1 (cI V3.z h:u.z*k=0)).resolve_right hk;exact V3.ext hx hy hz
theorem neg_eq_zero{u:V3 F}:-u=0↔u=0:=by
 constructor
 ·intro h;rw[<-neg_neg u,h,neg_zero]
 ·rintro rfl;exact neg_zero
theorem HN{a b c v:V3 F}(hd:cL a b c≠0)(ha:dot a v=0)(hb:dot b v=0)(hc:dot c v=0):v=0:=by
 have e:smul v (cL a b c)=smul (ax b c) (dot a v)+smul (ax c a) (dot b v)+smul (ax a b) (dot c v):=
  mR [a,b,c,v] [] (λV _=>smul (V 3) (cL (V 0) (V 1) (V 2)))
   (λV _=>smul (ax (V 1) (V 2)) (dot (V 0) (V 3))+smul (ax (V 2) (V 0)) (dot (V 1) (V 3))+smul (ax (V 0) (V 1)) (dot (V 2) (V 3))) d_
 rw[ha,hb,hc,smul_zero,smul_zero,smul_zero,add_zero,add_zero]at e;exact(aKE e).resolve_right hd
theorem aBq{a b v:V3 F}(hd:ax a b≠0)(ha:dot a v=0)(hb:dot b v=0):v=smul (ax a b) (dot (ax a b) v*(dot (ax a b) (ax a b))⁻¹):=by
 have aU:=BD hd;have e:smul v (dot (ax a b) (ax a b))=smul (ax a b) (dot (ax a b) v)+smul (ax b (ax a b)) (dot a v)+smul (ax (ax a b) a) (dot b v):=
  mR [a,b,v] [] (λV _=>smul (V 2) (dot (ax (V 0) (V 1)) (ax (V 0) (V 1))))
   (λV _=>smul (ax (V 0) (V 1)) (dot (ax (V 0) (V 1)) (V 2))+smul (ax (V 1) (ax (V 0) (V 1))) (dot (V 0) (V 2))+smul (ax (ax (V 0) (V 1)) (V 0)) (dot (V 1) (V 2))) d_
 rw[ha,hb,smul_zero,smul_zero,add_zero,add_zero]at e;rw[<-aBp,<-e,aBp,lJ _ aU,aKD]
end
end V3
end
section
open CR OF V3
@[ext] structure HS (F:Type) where
 n:V3 F
 d:F
section
variable{F:Type}[OF F]
def ig(ps:List (HS F))(v:V3 F):Prop:=∀ p∈ps,dot p.n v<=p.d
def dV(p:HS F)(v:V3 F):Prop:=dot p.n v=p.d
def Cl(ps:List (HS F)):Prop:=
 (∃ p∈ps,∃ q∈ps,ax p.n q.n≠0)/\∀ p∈ps,∀ q∈ps,ax p.n q.n≠0->∃ r∈ps,0<dot r.n (ax p.n q.n)
def gA(ps:List (HS F)):Prop:=∀ p∈ps,p.n≠0
theorem Kw{d:V3 F}(h:d≠0):∃ u:V3 F,u≠0/\dot d u=0:=by
 by_cases hz:d.z=0
 ·by_cases hy:d.y=0
  ·have hx:d.x≠0:=λhx=>h (V3.ext hx hy hz);refine⟨⟨d.z,0,-d.x⟩,λe=>hx ?_,ring [d] [] (λV _=>dot (V 0) ⟨(V 0).z,0,-(V 0).x⟩) (λ_ _=>0) d_⟩;have:-d.x=0:=cI V3.z e;rw[<-CR.neg_neg d.x,this,CR.neg_zero]
  ·refine⟨⟨-d.y,d.x,0⟩,λe=>hy ?_,ring [d] [] (λV _=>dot (V 0) ⟨-(V 0).y,(V 0).x,0⟩) (λ_ _=>0) d_⟩;have:-d.y=0:=cI V3.x e;rw[<-CR.neg_neg d.y,this,CR.neg_zero]
 ·refine⟨⟨0,-d.z,d.y⟩,λe=>hz ?_,ring [d] [] (λV _=>dot (V 0) ⟨0,-(V 0).z,(V 0).y⟩) (λ_ _=>0) d_⟩;have:-d.z=0:=cI V3.y e;rw[<-CR.neg_neg d.z,this,CR.neg_zero]
theorem aKF(l:List (F×F))(h0:∀ x∈l,0<=x.2)(hp:∃ x∈l,0<x.1):
  ∃ t:F,0<=t/\(∃ x∈l,0<x.1/\x.1*t=x.2)/\∀ x∈l,x.1*t<=x.2:=by
 induction l with
 |nil=>obtain⟨x,hx,_⟩:=hp;cases hx
 |cons y l ih=>
  obtain⟨a,b⟩:=y;have hb:0<=b:=h0 _ (aV ..);have h0':∀ x∈l,0<=x.2:=λx hx=>h0 x (bF _ hx)
  -- t=b/a aUL,if it is at most t' aUM t' is aUN
  have new:0<a->(∀ x∈l,0<x.1->x.1*(b*a⁻¹)<=x.2)->
    ∃ t:F,0<=t/\(∃ x∈(a,b)::l,0<x.1/\x.1*t=x.2)/\∀ x∈(a,b)::l,x.1*t<=x.2:=by
   intro ha hl;have e:a*(b*a⁻¹)=b:=by rw[CR.mul_left_comm,lJ _ (OF.ne_of_gt ha),CR.mul_one]
   have ht:0<=b*a⁻¹:=mul_nonneg hb (le_of_lt (inv_pos ha));refine⟨b*a⁻¹,ht,⟨_,aV ..,ha,e⟩,?_⟩;intro x hx;rcases cx.1 hx with rfl|hx
   ·exact OF.le_of_eq e
   ·by_cases h:0<x.1
    ·exact hl x hx h
    ·refine OF.le_trans ?_ (h0' x hx);rw[<-neg_nonneg,<-CR.neg_mul];exact mul_nonneg (neg_nonneg.2 (OF.not_lt.1 h)) ht
  by_cases hl:∃ x∈l,0<x.1
  ·obtain⟨t,ht,⟨x,hx,kK,zp⟩,bd⟩:=ih h0' hl;by_cases mE:a*t<=b
   ·exact⟨t,ht,⟨x,bF _ hx,kK,zp⟩,λz hz=>by
     rcases cx.1 hz with rfl|hz
     ·exact mE
     ·exact bd z hz⟩
   ·have OA:=OF.not_le.1 mE;have ha:0<a:=by
     rcases OF.lt_trichotomy 0 a with h|h|h
     ·exact h
     ·rw[<-h,CR.zero_mul]at OA;exact absurd (OF.lt_of_le_of_lt hb OA) (OF.lt_irrefl _)
     ·have:=mul_nonneg (neg_nonneg.2 (le_of_lt h)) ht;rw[CR.neg_mul,neg_nonneg]at this;exact absurd (OF.lt_of_le_of_lt hb (OF.lt_of_lt_of_le OA this)) (OF.lt_irrefl _)
    refine new ha λz hz AB=>?_;refine OF.le_trans ?_ (bd z hz);refine le_of_lt ((mul_lt_mul_left AB).2 ?_);rw[<-mul_lt_mul_left ha,CR.mul_left_comm,lJ _ (OF.ne_of_gt ha),CR.mul_one];exact OA
  ·obtain⟨x,hx,kK⟩:=hp;rcases cx.1 hx with rfl|hx
   ·exact new kK λz hz AB=>(hl ⟨z,hz,AB⟩).elim
   ·exact(hl ⟨x,hx,kK⟩).elim
theorem yB{ps:List (HS F)}{v u:V3 F}(hv:ig ps v)(hu:∃ p∈ps,0<dot p.n u):
  ∃ t:F,0<=t/\(∃ q∈ps,0<dot q.n u/\dV q (v+smul u t))/\ig ps (v+smul u t):=by
 obtain⟨t,ht,⟨x,hx,kK,zp⟩,bd⟩:=aKF (ps.map λp=>(dot p.n u,p.d-dot p.n v))
  (λx hx=>by obtain⟨p,hp,rfl⟩:=dj.1 hx;exact OF.sub_nonneg.2 (hv p hp))
  (by obtain⟨p,hp,h⟩:=hu;exact⟨_,dj.2 ⟨p,hp,rfl⟩,h⟩)
 obtain⟨q,hq,rfl⟩:=dj.1 hx;have e:∀ p:HS F,dot p.n (v+smul u t)=dot p.n v+dot p.n u*t:=λp=>by rw[k7,iT]
 refine⟨t,ht,⟨q,hq,kK,?_⟩,?_⟩
 ·unfold dV;rw[e,zp];exact km (dot q.n v) q.d (λa d=>a+(d-a)) (λ_ d=>d) d_
 ·intro p hp;have:=bd _ (dj.2 ⟨p,hp,rfl⟩);rw[e];have h2:=(add_le_add_left (dot p.n v)).2 this;rwa[show dot p.n v+(p.d-dot p.n v)=p.d from km (dot p.n v) p.d (λa d=>a+(d-a)) (λ_ d=>d) d_]at h2
theorem OB{p q u:V3 F}(hp:p≠0)(h:ax p q=0)(hu:dot p u=0):dot q u=0:=by
 have e:dot q u*dot p p=dot p u*dot p q-dot (ax p (ax p q)) u:=
  ring [p,q,u] [] (λV _=>dot (V 1) (V 2)*dot (V 0) (V 0)) (λV _=>dot (V 0) (V 2)*dot (V 0) (V 1)-dot (ax (V 0) (ax (V 0) (V 1))) (V 2)) d_
 have z:ax p (0:V3 F)=0:=mR [p] [] (λV _=>ax (V 0) 0) (λ_ _=>0) d_;rw[h,hu,z,aKC,CR.zero_mul,OF.sub_zero]at e;exact(mul_eq_zero.1 e).resolve_right (BD hp)
theorem Ft{p d:V3 F}(hp:p≠0)(hd:d≠0)(h:dot p d=0):ax p d≠0:=by
 intro e;have e2:dot (ax p d) (ax p d)=dot p p*dot d d-dot p d*dot p d:=
  ring [p,d] [] (λV _=>dot (ax (V 0) (V 1)) (ax (V 0) (V 1))) (λV _=>dot (V 0) (V 0)*dot (V 1) (V 1)-dot (V 0) (V 1)*dot (V 0) (V 1)) d_
 rw[e,h,Dd,CR.mul_zero,OF.sub_zero]at e2;exact mul_ne_zero (BD hp) (BD hd) e2.symm
theorem Ub{d u:V3 F}{t:F}(hd:d≠0)(h:dot d u=0):d+smul u t≠0:=by intro e;have:=cI (dot d) e;rw[k7,iT,h,CR.zero_mul,CR.add_zero,Dd]at this;exact BD hd this
theorem aBr{ns:List (V3 F)}(hs:∃ a∈ns,∃ b∈ns,∃ c∈ns,cL a b c≠0){u:V3 F}(hu:u≠0):
  (∃ n∈ns,0<dot n u)\/(∃ n∈ns,0<dot n (-u)):=by
 obtain⟨a,ha,b,hb,c,hc,hd⟩:=hs;have key:∀ n∈ns,dot n u≠0->(∃ n∈ns,0<dot n u)\/(∃ n∈ns,0<dot n (-u)):=by
  intro n hn h;rcases OF.lt_trichotomy 0 (dot n u)with k|k|k
  ·exact .inl ⟨n,hn,k⟩
  ·exact absurd k.symm h
  ·exact .inr ⟨n,hn,by rw[tD];exact neg_pos.2 k⟩
 by_cases h1:dot a u=0
 ·by_cases h2:dot b u=0
  ·by_cases h3:dot c u=0
   ·exact absurd (HN hd h1 h2 h3) hu
   ·exact key c hc h3
  ·exact key b hb h2
 ·exact key a ha h1
theorem ray{ns:List (V3 F)}(h0:∀ n∈ns,n≠0)(hs:∃ a∈ns,∃ b∈ns,∃ c∈ns,cL a b c≠0){d:V3 F}(hd:d≠0)(ct:∀ n∈ns,dot n d<=0):
  ∃ p∈ns,∃ q∈ns,ax p q≠0/\∀ n∈ns,dot n (ax p q)<=0:=by
 -- one OC
 have Uc:∀{v u:V3 F},(∀ n∈ns,dot n v<=0)->(∃ n∈ns,0<dot n u)->∃ t:F,(∃ q∈ns,0<dot q u/\dot q (v+smul u t)=0)/\∀ n∈ns,dot n (v+smul u t)<=0:=by
  intro v u hv hu
  obtain⟨t,_,⟨q,hq,mL,vO⟩,bd⟩:=yB (ps:=ns.map λn=>⟨n,0⟩) (v:=v) (u:=u)
   (λp hp=>by obtain⟨n,hn,rfl⟩:=dj.1 hp;exact hv n hn)
   (by obtain⟨n,hn,h⟩:=hu;exact⟨⟨n,0⟩,dj.2 ⟨n,hn,rfl⟩,h⟩)
  obtain⟨n,hn,rfl⟩:=dj.1 hq;exact⟨t,⟨n,hn,mL,vO⟩,λm hm=>bd ⟨m,0⟩ (dj.2 ⟨m,hm,rfl⟩)⟩
 have one:∃ d1:V3 F,d1≠0/\(∃ p∈ns,dot p d1=0)/\∀ n∈ns,dot n d1<=0:=by
  obtain⟨u,hu,OD⟩:=Kw hd;rcases aBr hs hu with h|h
  ·obtain⟨t,⟨q,hq,_,vO⟩,bd⟩:=Uc ct h;exact⟨_,Ub hd OD,⟨q,hq,vO⟩,bd⟩
  ·obtain⟨t,⟨q,hq,_,vO⟩,bd⟩:=Uc ct h;exact⟨_,Ub hd (by rw[tD,OD,CR.neg_zero]),⟨q,hq,vO⟩,bd⟩
 obtain⟨d1,Ud,⟨p,hp,Gy⟩,Ue⟩:=one;have Df:=h0 p hp;have fin:∀ u:V3 F,dot p u=0->dot d1 u=0->(∃ n∈ns,0<dot n u)->∃ p∈ns,∃ q∈ns,ax p q≠0/\∀ n∈ns,dot n (ax p q)<=0:=by
  intro u BE OD h;obtain⟨t,⟨q,hq,hqu,vO⟩,bd⟩:=Uc Ue h;have aU:ax p q≠0:=λe=>by rw[OB Df e BE]at hqu;exact OF.lt_irrefl _ hqu
  have TF:d1+smul u t≠0:=Ub Ud OD;have Fu:dot p (d1+smul u t)=0:=by rw[k7,iT,BE,Gy,CR.zero_mul,CR.add_zero]
  have e:=aBq aU Fu vO;generalize dot (ax p q) (d1+smul u t)*(dot (ax p q) (ax p q))⁻¹=k at e;rcases OF.lt_trichotomy 0 k with hk|hk|hk
  ·refine⟨p,hp,q,hq,aU,λn hn=>?_⟩;have:=bd n hn;rw[e,iT,CR.mul_comm]at this;rw[<-CR.mul_zero k,mul_le_mul_left hk]at this;exact this
  ·rw[<-hk,smul_zero]at e;exact absurd e TF
  ·refine⟨q,hq,p,hp,λe'=>aU (by rw[HM,e',V3.neg_zero]),λn hn=>?_⟩;have:=bd n hn;rw[e,iT,HM q p,tD,CR.neg_mul,<-CR.mul_neg,CR.mul_comm]at this;rw[<-CR.mul_zero (-k),mul_le_mul_left (neg_pos.2 hk)]at this;exact this
 have hc:=Ft Df Ud Gy;rcases aBr hs hc with h|h
 ·exact fin _ (Fs p d1) (De p d1) h
 ·exact fin _ (by rw[tD,Fs,CR.neg_zero]) (by rw[tD,De,CR.neg_zero]) h
theorem Cl.span{ps:List (HS F)}(h:Cl ps):∃ a∈ps.map HS.n,∃ b∈ps.map HS.n,∃ c∈ps.map HS.n,cL a b c≠0:=by obtain⟨⟨p,hp,q,hq,N9⟩,iF⟩:=h;obtain⟨r,hr,h⟩:=iF p hp q hq N9;exact⟨r.n,dj.2 ⟨r,hr,rfl⟩,p.n,dj.2 ⟨p,hp,rfl⟩,q.n,dj.2 ⟨q,hq,rfl⟩,OF.ne_of_gt h⟩
theorem Cl.bounds{ps:List (HS F)}(h:Cl ps)(hp:gA ps){u:V3 F}(hu:u≠0):∃ r∈ps,0<dot r.n u:=by
 apply gN;intro gE;have ct:∀ n∈ps.map HS.n,dot n u<=0:=by intro n hn;obtain⟨p,hp,rfl⟩:=dj.1 hn;exact OF.not_lt.1 λk=>gE ⟨p,hp,k⟩
 obtain⟨a,ha,b,hb,aU,bd⟩:=ray (λn hn=>by obtain⟨p,jd,rfl⟩:=dj.1 hn;exact hp p jd) h.span hu ct;obtain⟨p,jd,rfl⟩:=dj.1 ha;obtain⟨q,BF,rfl⟩:=dj.1 hb;obtain⟨r,hr,od⟩:=h.2 p jd q BF aU;exact OF.lt_irrefl _ (OF.lt_of_lt_of_le od (bd r.n (dj.2 ⟨r,hr,rfl⟩)))
def mn(ps:List (HS F))(v:V3 F):Prop:=
 ig ps v/\∃ p∈ps,∃ q∈ps,∃ r∈ps,cL p.n q.n r.n≠0/\dV p v/\dV q v/\dV r v
theorem top{ps:List (HS F)}(hc:Cl ps)(hp:gA ps){x m:V3 F}(hx:ig ps x):∃ v,mn ps v/\dot m x<=dot m v:=by
 -- a step along a line
 have go:∀{x u:V3 F},ig ps x->u≠0->∃ u':V3 F,(u'=u\/u'=-u)/\∃ t:F,(∃ q∈ps,0<dot q.n u'/\dV q (x+smul u' t))/\ig ps (x+smul u' t)/\dot m x<=dot m (x+smul u' t):=by
  have half:∀{x u:V3 F},ig ps x->u≠0->0<=dot m u->∃ t:F,(∃ q∈ps,0<dot q.n u/\dV q (x+smul u t))/\ig ps (x+smul u t)/\dot m x<=dot m (x+smul u t):=by intro x u hx hu hm;obtain⟨t,ht,hq,ct⟩:=yB hx (hc.bounds hp hu);refine⟨t,hq,ct,?_⟩;rw[k7,iT];have:=(add_le_add_left (dot m x)).2 (mul_nonneg hm ht);rwa[CR.add_zero]at this
  intro x u hx hu;rcases OF.le_total 0 (dot m u)with h|h
  ·exact⟨u,.inl rfl,half hx hu h⟩
  ·exact⟨-u,.inr rfl,half hx (λe=>hu (neg_eq_zero.1 e)) (by rw[tD];exact neg_nonneg.2 h)⟩
 obtain⟨⟨p0,Df,_⟩,_⟩:=hc;obtain⟨u1,_,t1,⟨p,iL,_,Fu⟩,Ue,cX⟩:=go hx (hp p0 Df);generalize x+smul u1 t1=x1 at *;obtain⟨u,hu,BE⟩:=Kw (hp p iL);obtain⟨u2,h2,t2,⟨q,k9,mL,vO⟩,aKG,dB⟩:=go Ue hu;have aBs:dot p.n u2=0:=by
  rcases h2 with rfl|rfl
  ·exact BE
  ·rw[tD,BE,CR.neg_zero]
 have aKH:dV p (x1+smul u2 t2):=by unfold dV at *;rw[k7,iT,aBs,CR.zero_mul,CR.add_zero,Fu]
 generalize x1+smul u2 t2=x2 at *;have aU:ax p.n q.n≠0:=λe=>by rw[OB (hp p iL) e aBs]at mL;exact OF.lt_irrefl _ mL
 obtain⟨u3,h3,t3,⟨r,hrm,od,Fv⟩,aKI,yq⟩:=go aKG aU;have aBt:dot p.n u3=0/\dot q.n u3=0:=by
  rcases h3 with rfl|rfl
  ·exact⟨Fs _ _,De _ _⟩
  ·rw[tD,tD,Fs,De,CR.neg_zero];exact⟨rfl,rfl⟩
 refine⟨_,⟨aKI,p,iL,q,k9,r,hrm,?_,?_,?_,Fv⟩,OF.le_trans cX (OF.le_trans dB yq)⟩
 ·intro e;have e2:dot r.n (ax p.n q.n)=0:=by rw[show dot r.n (ax p.n q.n)=cL r.n p.n q.n from rfl,Oz];exact e
  rcases h3 with rfl|rfl
  ·rw[e2]at od;exact OF.lt_irrefl _ od
  ·rw[tD,e2,CR.neg_zero]at od;exact OF.lt_irrefl _ od
 ·unfold dV at *;rw[k7,iT,aBt.1,CR.zero_mul,CR.add_zero,aKH]
 ·unfold dV at *;rw[k7,iT,aBt.2,CR.zero_mul,CR.add_zero,vO]
theorem aKJ{ps:List (HS F)}(hp:gA ps){v x:V3 F}(hv:mn ps v)(hx:ig ps x)(aU:x≠v):
  ∃ p∈ps,∃ q∈ps,dV p v/\dV q v/\ax p.n q.n≠0/\∀ r∈ps,dV r v->dot r.n (ax p.n q.n)<=0:=by
 classical
 obtain⟨_,a,ha,b,hb,c,hc,hd,ta,tb,tc⟩:=hv
 let ts:=ps.filter λp=>decide (dV p v)
 have mem:∀ p,p∈ts↔p∈ps/\dV p v:=λp=>by simp[ts]
 obtain⟨n,hn,m,hm,lA,bd⟩:=ray (ns:=ts.map HS.n) (d:=x-v)
  (λn hn=>by obtain⟨p,jd,rfl⟩:=dj.1 hn;exact hp p ((mem p).1 jd).1)
  ⟨a.n,dj.2 ⟨a,(mem a).2 ⟨ha,ta⟩,rfl⟩,b.n,dj.2 ⟨b,(mem b).2 ⟨hb,tb⟩,rfl⟩,c.n,dj.2 ⟨c,(mem c).2 ⟨hc,tc⟩,rfl⟩,hd⟩
  (λe=>aU (V3.sub_eq_zero.1 e))
  (λn hn=>by obtain⟨p,jd,rfl⟩:=dj.1 hn;obtain⟨gY,ht⟩:=(mem p).1 jd;rw[k8,show dot p.n v=p.d from ht,<-neg_nonneg,OF.neg_sub];exact OF.sub_nonneg.2 (hx p gY))
 obtain⟨p,jd,rfl⟩:=dj.1 hn;obtain⟨q,BF,rfl⟩:=dj.1 hm;exact⟨p,((mem p).1 jd).1,q,((mem q).1 BF).1,((mem p).1 jd).2,((mem q).1 BF).2,lA,λr hr ht=>bd r.n (dj.2 ⟨r,(mem r).2 ⟨hr,ht⟩,rfl⟩)⟩
end
structure iM(F:Type)[OF F] where
 fw:V3 F->Prop
 add:∀{x y},fw x->fw y->fw (x+y)
 mul:∀{x k},fw x->0<k->fw (smul x k)
 asymm:∀{x},fw x->fw (-x)->False
namespace iM
variable{F:Type}[OF F](H:iM F)
theorem zero{H:iM F}:¬H.fw 0:=λh=>H.asymm h (by rw[V3.neg_zero];exact h)
def opp:iM F where
 fw v:=H.fw (-v)
 add {x y} hx hy:=by rw[show -(x+y)=-x+-y from mR [x,y] [] (λV _=>-(V 0+V 1)) (λV _=>-V 0+-V 1) d_];exact H.add hx hy
 mul {x k} hx hk:=by rw[show -(smul x k)=smul (-x) k from mR [x] [k] (λV S=>-(smul (V 0) (S 0))) (λV S=>smul (-V 0) (S 0)) d_];exact H.mul hx hk
 asymm {x} h k:=H.asymm h k
theorem ne{H:iM F}{a b:V3 F}(h:H.fw (b-a)):a≠b:=by rintro rfl;rw[V3.sub_self]at h;exact zero h
theorem aBu{H:iM F}{a b c:V3 F}(h:H.fw (b-a))(k:H.fw (c-b)):H.fw (c-a):=by rw[show c-a=(b-a)+(c-b)from mR [a,b,c] [] (λV _=>V 2-V 0) (λV _=>(V 1-V 0)+(V 2-V 1)) d_];exact H.add h k
theorem HO{H:iM F}{a b:V3 F}(h:H.fw (b-a))(k:H.fw (a-b)):False:=by apply H.asymm h;rw[show -(b-a)=a-b from mR [a,b] [] (λV _=>-(V 1-V 0)) (λV _=>V 0-V 1) d_];exact k
end iM
section
variable{F:Type}[OF F](n:V3 F)
def tr(x y:V3 F):F:=dot n (ax x y)
def turn(a b c:V3 F):F:=dot n (ax (b-a) (c-a))
theorem Uf(a b c:V3 F):turn n a b c=turn n b c a:=
 ring [n,a,b,c] [] (λV _=>dot (V 0) (ax (V 2-V 1) (V 3-V 1))) (λV _=>dot (V 0) (ax (V 3-V 2) (V 1-V 2))) d_
theorem aBv(a b c:V3 F):turn n a c b=-turn n a b c:=
 ring [n,a,b,c] [] (λV _=>dot (V 0) (ax (V 3-V 1) (V 2-V 1))) (λV _=>-dot (V 0) (ax (V 2-V 1) (V 3-V 1))) d_
theorem Ug(a b c:V3 F):turn n a b c=tr n (b-a) (c-b):=
 ring [n,a,b,c] [] (λV _=>dot (V 0) (ax (V 2-V 1) (V 3-V 1))) (λV _=>dot (V 0) (ax (V 2-V 1) (V 3-V 2))) d_
theorem aKK(a b c:V3 F):turn n a b c=tr n (b-a) (c-a):=rfl
theorem OE(x y:V3 F):tr n y x=-tr n x y:=
 ring [n,x,y] [] (λV _=>dot (V 0) (ax (V 2) (V 1))) (λV _=>-dot (V 0) (ax (V 1) (V 2))) d_
theorem Uh(x y:V3 F):tr n x (-y)=-tr n x y:=
 ring [n,x,y] [] (λV _=>dot (V 0) (ax (V 1) (-V 2))) (λV _=>-dot (V 0) (ax (V 1) (V 2))) d_
theorem aKL(x:V3 F):tr n x x=0:=ring [n,x] [] (λV _=>dot (V 0) (ax (V 1) (V 1))) (λ_ _=>0) d_
theorem Dg(a b:V3 F):b-a=-(a-b):=mR [a,b] [] (λV _=>V 1-V 0) (λV _=>-(V 0-V 1)) d_
theorem aBw{x y z:V3 F}(hn:n≠0)(hx:dot n x=0)(hy:dot n y=0)(hz:dot n z=0):
  smul y (tr n x z)=smul z (tr n x y)+smul x (tr n y z):=by
 have hd:cL x y z=0:=by apply gN;intro h;exact hn (HN h (by rw[zo];exact hx) (by rw[zo];exact hy) (by rw[zo];exact hz))
 have e:smul y (tr n x z)=smul z (tr n x y)+smul x (tr n y z)-smul n (cL x y z):=
  mR [n,x,y,z] [] (λV _=>smul (V 2) (dot (V 0) (ax (V 1) (V 3))))
   (λV _=>smul (V 3) (dot (V 0) (ax (V 1) (V 2)))+smul (V 1) (dot (V 0) (ax (V 2) (V 3)))-smul (V 0) (cL (V 1) (V 2) (V 3))) d_
 rw[e,hd,smul_zero];exact mR [smul z (tr n x y),smul x (tr n y z)] [] (λV _=>V 0+V 1-0) (λV _=>V 0+V 1) d_
theorem Ui(H:iM F){x y z:V3 F}(hn:n≠0)(hx:dot n x=0)(hy:dot n y=0)(hz:dot n z=0)(fx:H.fw x)(fy:H.fw y)(fz:H.fw z)
  (h:0<tr n x y) (k:0<tr n y z):0<tr n x z:=by
 have e:=aBw n hn hx hy hz;have f:H.fw (smul y (tr n x z)):=by rw[e];exact H.add (H.mul fz h) (H.mul fx k)
 rcases OF.lt_trichotomy 0 (tr n x z)with g|g|g
 ·exact g
 ·rw[<-g,smul_zero]at f;exact absurd f iM.zero
 ·exact(H.asymm f (by rw[show -(smul y (tr n x z))=smul y (-(tr n x z))from mR [y] [tr n x z] (λV S=>-(smul (V 0) (S 0))) (λV S=>smul (V 0) (-S 0)) d_];exact H.mul fy (neg_pos.2 g))).elim
theorem aKM{m x y z:V3 F}(hn:n≠0)(hx:dot n x=0)(hy:dot n y=0)(hz:dot n z=0)(fx:0<dot m x)(fy:0<dot m y)(fz:0<dot m z)
  (h:0<tr n x y) (k:0<tr n y z):0<tr n x z:=by
 have e:=cI (dot m) (aBw n hn hx hy hz);rw[k7,iT,iT,iT]at e;have p:0<dot m y*tr n x z:=by rw[e];exact add_pos (mul_pos fz h) (mul_pos fx k)
 rwa[<-CR.mul_zero (dot m y),mul_lt_mul_left fy]at p
variable{ι:Type}(pt:ι->V3 F)
structure Conv(S:List ι):Prop where
 pW:∀ a∈S,∀ b∈S,dot n (pt b-pt a)=0
 xw:∀ c∈S,∃ m:V3 F,∀ w∈S,w≠c->dot m (pt w)<dot m (pt c)
variable{n pt}
theorem Conv.sub{S T:List ι}(h:Conv n pt S)(hT:∀ x∈T,x∈S):Conv n pt T:=
 ⟨λa ha b hb=>h.pW a (hT a ha) b (hT b hb),λc hc=>(h.xw c (hT c hc)).imp λ_ hm w hw=>hm w (hT w hw)⟩
theorem Conv.aBx{S:List ι}(h:Conv n pt S)(hn:n≠0){a b c:ι}(ha:a∈S)(hb:b∈S)(hc:c∈S)(b9:a≠b)(OG:a≠c)(zq:b≠c):
  turn n (pt a) (pt b) (pt c)≠0:=by
 intro e;generalize hx:pt b-pt a=x at *;generalize hy:pt c-pt a=y at *;have px:dot n x=0:=hx▸h.pW a ha b hb;have py:dot n y=0:=hy▸h.pW a ha c hc;have e':dot n (ax x y)=0:=by rw[<-hx,<-hy];exact e
 have hz:ax x y=0:=by
  apply gN;intro aU;apply Ft hn aU e';have e2:ax n (ax x y)=smul x (dot n y)-smul y (dot n x):=
   mR [n,x,y] [] (λV _=>ax (V 0) (ax (V 1) (V 2))) (λV _=>smul (V 1) (dot (V 0) (V 2))-smul (V 2) (dot (V 0) (V 1))) d_
  rw[e2,px,py,smul_zero,smul_zero,V3.sub_self]
 obtain⟨ma,fa⟩:=h.xw a ha;obtain⟨mb,fb⟩:=h.xw b hb;obtain⟨mc,fc⟩:=h.xw c hc;have hax:dot ma x<0:=by rw[<-hx,k8,<-neg_pos,OF.neg_sub];exact OF.sub_pos.2 (fa b hb (mD b9))
 have hay:dot ma y<0:=by rw[<-hy,k8,<-neg_pos,OF.neg_sub];exact OF.sub_pos.2 (fa c hc (mD OG))
 have Uj:0<dot mb x:=by rw[<-hx,k8];exact OF.sub_pos.2 (fb a ha b9)
 have aKN:dot mb y<dot mb x:=by have:=fb c hc (mD zq);rw[<-hx,<-hy,k8,k8,OF.lt_def];rw[show dot mb (pt b)-dot mb (pt a)-(dot mb (pt c)-dot mb (pt a))=dot mb (pt b)-dot mb (pt c)from kZ (dot mb (pt a)) (dot mb (pt b)) (dot mb (pt c)) (λa b c=>b-a-(c-a)) (λ_ b c=>b-c) d_];exact this
 have Uk:0<dot mc y:=by rw[<-hy,k8];exact OF.sub_pos.2 (fc a ha OG)
 have aKO:dot mc x<dot mc y:=by have:=fc b hb zq;rw[<-hx,<-hy,k8,k8,OF.lt_def];rw[show dot mc (pt c)-dot mc (pt a)-(dot mc (pt b)-dot mc (pt a))=dot mc (pt c)-dot mc (pt b)from kZ (dot mc (pt a)) (dot mc (pt b)) (dot mc (pt c)) (λa b c=>c-a-(b-a)) (λ_ b c=>c-b) d_];exact this
 -- y is a aUO t of x
 have kK:x≠0:=by rintro rfl;rw[Dd]at Uj;exact OF.lt_irrefl _ Uj
 have key:∀ m:V3 F,dot m y*dot x x=dot m x*dot x y:=by
  intro m;have e2:dot m y*dot x x=dot m x*dot x y-dot m (ax x (ax x y)):=
   ring [m,x,y] [] (λV _=>dot (V 0) (V 2)*dot (V 1) (V 1)) (λV _=>dot (V 0) (V 1)*dot (V 1) (V 2)-dot (V 0) (ax (V 1) (ax (V 1) (V 2)))) d_
  rw[hz,show ax x (0:V3 F)=0 from mR [x] [] (λV _=>ax (V 0) 0) (λ_ _=>0) d_,Dd,OF.sub_zero]at e2;exact e2
 have G6:=Ua kK;have kb:=key mb;have kc:=key mc;have ka:=key ma
 -- from b: t<1;from c: t>1 as t>0
 have t1:dot x y<dot x x:=by rw[<-mul_lt_mul_left Uj,<-kb,CR.mul_comm,CR.mul_comm (dot mb x),mul_lt_mul_left G6];exact aKN
 have aKP:0<dot x y:=by have h1:0 < -dot ma x:=neg_pos.2 hax;rw[<-mul_lt_mul_left h1,CR.mul_zero,CR.neg_mul,<-ka,<-CR.neg_mul];exact mul_pos (neg_pos.2 hay) G6
 have Kx:0<dot mc x:=by
  have:0<dot x y*dot mc x:=by rw[CR.mul_comm,<-kc];exact mul_pos Uk G6
  rwa[<-CR.mul_zero (dot x y),mul_lt_mul_left aKP]at this
 have t2:dot x x<dot x y:=by rw[<-mul_lt_mul_left Kx,<-kc,CR.mul_comm,CR.mul_comm (dot mc y),mul_lt_mul_left G6];exact aKO
 exact OF.lt_irrefl _ (OF.lt_trans t1 t2)
def oP(n:V3 F)(pt:ι->V3 F)(T:List ι)(a b:ι):Prop:=∀ c∈T,c≠a->c≠b->0<turn n (pt a) (pt b) (pt c)
variable(H:iM F)
def eQ(n:V3 F)(pt:ι->V3 F)(H:iM F)(T:List ι):List ι->Prop
 |[]=>False
 |[a]=>a∈T/\∀ c∈T,c≠a->H.fw (pt c-pt a)
 |b::a::st=>b∈T/\H.fw (pt b-pt a)/\oP n pt T a b/\eQ n pt H T (a::st)
def pop(n:V3 F)(pt:ι->V3 F)(p:ι):List ι->List ι
 |b::a::st=>if 0<turn n (pt a) (pt b) (pt p)then b::a::st else pop n pt p (a::st)
 |st=>st
def half(n:V3 F)(pt:ι->V3 F)(l:List ι):List ι:=l.foldl (λst p=>p::pop n pt p st) []
variable{H}
theorem eQ.mem{T:List ι}:∀{st:List ι},eQ n pt H T st->∀ x∈st,x∈T
 |[a],h,x,hx=>by rcases cx.1 hx with rfl|hx;exact h.1;cases hx
 |b::a::st,h,x,hx=>by
  rcases cx.1 hx with rfl|hx
  ·exact h.1
  ·exact eQ.mem h.2.2.2 x hx
theorem eQ.below{T:List ι}:∀{b:ι} {st:List ι},eQ n pt H T (b::st)->∀ x∈st,H.fw (pt b-pt x)
 |b,a::st,h,x,hx=>by
  rcases cx.1 hx with rfl|hx
  ·exact h.2.1
  ·exact iM.aBu (eQ.below h.2.2.2 x hx) h.2.1
 |b,[],_,x,hx=>by cases hx
theorem eQ.least{T:List ι}:∀{st:List ι},eQ n pt H T st->∃ a,st.getLast?=some a/\a∈T/\∀ c∈T,c≠a->H.fw (pt c-pt a)
 |[a],h=>⟨a,rfl,h.1,h.2⟩
 |b::a::st,h=>by obtain⟨x,hx,hm,bd⟩:=eQ.least h.2.2.2;exact⟨x,by rw[OH];exact hx,hm,bd⟩
theorem eQ.grow{T:List ι}{p w:ι}(hn:n≠0)(hc:Conv n pt (p::T))(hp:∀ c∈T,H.fw (pt p-pt c))(hw:w∈T)
  (hpw:∀ c∈T,c≠w->0<turn n (pt w) (pt p) (pt c)):∀{st:List ι},eQ n pt H T st->(∀ x∈st,H.fw (pt w-pt x))->eQ n pt H (p::T) st
 |[a],h,_=>⟨bF _ h.1,λc hc ha=>by
   rcases cx.1 hc with rfl|hc
   ·exact hp a h.1
   ·exact h.2 c hc ha⟩
 |v::u::st,h,bL=>by
  refine⟨bF _ h.1,h.2.1,?_,eQ.grow hn hc hp hw hpw h.2.2.2 λx hx=>bL x (bF _ hx)⟩;intro c dC Q9 jX;rcases cx.1 dC with rfl|dC
  ·have hv:v∈T:=h.1;have hu:u∈T:=eQ.mem h.2.2.2 u (aV ..);have fwv:H.fw (pt w-pt v):=bL v (aV ..);have wv:w≠v:=by rintro rfl;exact iM.ne fwv rfl
   have wu:w≠u:=by rintro rfl;exact iM.ne (bL w (bF _ (aV ..))) rfl
   have h1:=h.2.2.1 w hw wu wv;have h2:=hpw v hv (mD wv);rw[<-Uf]at h2;rw[Ug]at h1 ⊢;have qo:=bF c hv;exact Ui n H hn (hc.pW u (bF _ hu) v qo) (hc.pW v qo w (bF _ hw)) (hc.pW v qo c (aV ..)) h.2.1 fwv (hp v hv) h1 h2
  ·exact h.2.2.1 c dC Q9 jX
theorem eQ.pop{T:List ι}{p:ι}(hn:n≠0)(hc:Conv n pt (p::T))(hp:∀ c∈T,H.fw (pt p-pt c))
  (aKQ:∀ a∈T,∀ c∈T,c≠a->H.fw (pt c-pt a)\/H.fw (pt a-pt c)) :
  ∀{b:ι} {st:List ι},eQ n pt H T (b::st)->
   ((∀ c∈T,c≠b->H.fw (pt b-pt c))\/∃ e∈T,e≠b/\H.fw (pt e-pt b)/\oP n pt T b e/\turn n (pt b) (pt e) (pt p)<=0)->
   eQ n pt H (p::T) (p::Go.Proofs.YtjjefbkbljlgdaaGreatDoor.pop n pt p (b::st)):=by
 have pp:p∈p::T:=aV ..;have mm:∀{x},x∈T->x∈p::T:=λh=>bF _ h;have pne:∀ c∈T,p≠c:=λc hc e=>iM.ne (hp c hc) (by rw[e])
 -- points in front of b
 have front:∀{b c:ι},b∈T->c∈T->c≠b->H.fw (pt c-pt b)->
   ((∀ c∈T,c≠b->H.fw (pt b-pt c))\/∃ e∈T,e≠b/\H.fw (pt e-pt b)/\oP n pt T b e/\turn n (pt b) (pt e) (pt p)<=0)->0<turn n (pt b) (pt p) (pt c):=by
  intro b c hb dC mS hf kW;rcases kW with BG|⟨e,he,heb,OI,hl,ht⟩
  ·exact(iM.HO hf (BG c dC mS)).elim
  ·have wO:0<turn n (pt b) (pt p) (pt e):=by
    rw[aBv,neg_pos];rcases OF.pf ht with h|h
    ·exact h
    ·exact absurd h (hc.aBx hn (mm hb) (mm he) pp (mD heb) (mD (pne b hb)) (mD (pne e he)))
   by_cases hce:c=e
   ·rw[hce];exact wO
   ·have h3:=hl c dC mS hce;exact Ui n H hn (hc.pW b (mm hb) p pp) (hc.pW b (mm hb) e (mm he)) (hc.pW b (mm hb) c (mm dC)) (hp b hb) OI hf wO h3
 intro b st;induction st generalizing b with
 |nil=>
  intro h kW;refine⟨pp,hp b h.1,?_,mm h.1,λc dC mS=>?_⟩
  ·intro c dC mS zr;have uQ:c∈T:=(cx.1 dC).resolve_left zr;exact front h.1 uQ mS (h.2 c uQ mS) kW
  ·rcases cx.1 dC with rfl|uQ
   ·exact hp b h.1
   ·exact h.2 c uQ mS
 |cons a st ih=>
  intro h kW;have ha:a∈T:=eQ.mem h.2.2.2 a (aV ..);have hb:b∈T:=h.1;unfold Go.Proofs.YtjjefbkbljlgdaaGreatDoor.pop;split
  ·rename_i OJ;have bd:∀ c∈T,c≠b->0<turn n (pt b) (pt p) (pt c):=by
    intro c uQ mS;rcases aKQ b hb c uQ mS with hf|hf
    ·exact front hb uQ mS hf kW
    ·-- c aKR behind b
     have h1:0<tr n (pt b-pt a) (pt p-pt b):=by rw[<-Ug];exact OJ
     rw[aKK];by_cases gS:c=a
     ·rw[gS,Dg (pt b) (pt a),Uh,neg_pos,OE,Kc];exact h1
     ·have h2:=h.2.2.1 c uQ gS mS;rw[Ug]at h2;rw[Dg (pt b) (pt c),Uh,neg_pos,OE,Kc];refine Ui n H hn (hc.pW c (mm uQ) b (mm hb)) (hc.pW a (mm ha) b (mm hb)) (hc.pW b (mm hb) p pp) hf h.2.1 (hp b hb) ?_ h1;rw[Dg (pt b) (pt c),Uh,neg_pos,OE,Kc]at h2;exact h2
   refine⟨pp,hp b hb,?_,mm hb,h.2.1,?_,?_⟩
   ·intro c dC mS zr;exact bd c ((cx.1 dC).resolve_left zr) mS
   ·intro c dC gS mS;rcases cx.1 dC with rfl|uQ
    ·exact OJ
    ·exact h.2.2.1 c uQ gS mS
   ·exact eQ.grow hn hc hp hb bd h.2.2.2 (eQ.below h)
  ·rename_i OJ;exact ih h.2.2.2 (.inr ⟨b,hb,λe=>iM.ne h.2.1 (by rw[e]),h.2.1,h.2.2.1,OF.not_lt.1 OJ⟩)
end
section
variable{F:Type}[OF F]{n:V3 F}{ι:Type}{pt:ι->V3 F}{H:iM F}
def xx(pt:ι->V3 F)(H:iM F)(l:List ι):Prop:=l.Pairwise λa b=>H.fw (pt b-pt a)
theorem aBy(p:ι):∀(b:ι) (st:List ι),∃ x fe,pop n pt p (b::st)=x::fe
 |b,[]=>⟨b,[],rfl⟩
 |b,a::st=>by
  unfold pop;split
  ·exact⟨_,_,rfl⟩
  ·exact aBy p a st
theorem xx.total{l:List ι}(h:xx pt H l):∀ a∈l,∀ c∈l,c≠a->H.fw (pt c-pt a)\/H.fw (pt a-pt c):=by
 induction l with
 |nil=>intro a ha;cases ha
 |cons x l ih=>
  have h1:=r5.1 h;intro a ha c hc gS;rcases cx.1 ha with e|gZ
  ·rcases cx.1 hc with e2|di
   ·exact absurd (e2.trans e.symm) gS
   ·exact .inl (e▸h1.1 c di)
  ·rcases cx.1 hc with e2|di
   ·exact .inr (e2▸h1.1 a gZ)
   ·exact ih h1.2 a gZ c di gS
theorem eQ.congr{T T':List ι}(h:∀ x,x∈T↔x∈T'):∀{st:List ι},eQ n pt H T st->eQ n pt H T' st
 |[a],hc=>⟨(h a).1 hc.1,λc hm=>hc.2 c ((h c).2 hm)⟩
 |b::a::st,hc=>⟨(h b).1 hc.1,hc.2.1,λc hm=>hc.2.2.1 c ((h c).2 hm),eQ.congr h hc.2.2.2⟩
theorem aBz(hn:n≠0):∀(l T:List ι) (b:ι) (st:List ι),Conv n pt (T++l)->xx pt H (T++l)->b∈T->(∀ c∈T,c≠b->H.fw (pt b-pt c))->
  eQ n pt H T (b::st)->∃ x fe,l.foldl (λst p=>p::pop n pt p st) (b::st)=x::fe/\eQ n pt H (T++l) (x::fe)/\(∀ c∈T++l,c≠x->H.fw (pt x-pt c))/\(l.getLast?).getD b=x
 |[],T,b,st,_,_,hb,BG,h=>⟨b,st,rfl,by rw[je];exact h,by rw[je];exact BG,rfl⟩
 |p::l,T,b,st,hc,hs,hb,BG,h=>by
  have o6:=List.pairwise_append.1 hs;have hp:∀ c∈T,H.fw (pt p-pt c):=λc uQ=>o6.2.2 c uQ p (aV ..);have mem:∀ x,x∈p::T↔x∈T++[p]:=λx=>by simp[or_comm]
  have h1:=eQ.pop hn (hc.sub (T:=p::T) λx hx=>by
   rcases cx.1 hx with rfl|hx
   ·exact ee.2 (.inr (aV ..))
   ·exact ee.2 (.inl hx)) hp (xx.total o6.1) h (.inl BG)
  obtain⟨x,fe,hx⟩:=aBy (n:=n) (pt:=pt) p b st;rw[hx]at h1;have e:T++[p]++l=T++p::l:=by simp
  obtain⟨y,st2,hf,xy,Ul,hl⟩:=aBz hn l (T++[p]) p (x::fe) (by rw[e];exact hc) (by rw[e];exact hs) s_
   (λc dC zr=>by
    rcases ee.1 dC with dC|dC
    ·exact hp c dC
    ·exact absurd (Um.1 dC) zr) (eQ.congr mem h1)
  refine⟨y,st2,?_,by rw[<-e];exact xy,by rw[<-e];exact Ul,?_⟩
  ·rw[uu,hx];exact hf
  ·rw[<-hl];cases l with
   |nil=>rfl
   |cons z l=>rw[OH,List.getLast?_eq_some_getLast (l:=z::l) s_];rfl
theorem aBA(hn:n≠0){l:List ι}{a:ι}(hc:Conv n pt (a::l))(hs:xx pt H (a::l)):
  ∃ x st,half n pt (a::l)=x::st/\eQ n pt H (a::l) (x::st)/\(∀ c∈a::l,c≠x->H.fw (pt x-pt c))/\(l.getLast?).getD a=x:=by
 have o6:=r5.1 hs
 exact aBz hn l [a] a [] (by exact hc) (by exact hs) (aV ..)
  (λc dC gS=>absurd (Um.1 dC) gS) ⟨aV ..,λc dC gS=>absurd (Um.1 dC) gS⟩
def pX(R:ι->ι->Prop):List ι->Prop
 |[]=>True
 |[_]=>True
 |a::b::l=>R a b/\pX R (b::l)
theorem Un{R:ι->ι->Prop}:∀{l:List ι} {a:ι} {m:List ι},pX R (l++[a])->pX R (a::m)->pX R (l++a::m)
 |[],a,m,_,h=>h
 |[x],a,m,h1,h=>⟨h1.1,h⟩
 |x::y::l,a,m,h1,h=>⟨h1.1,Un (l:=y::l) h1.2 h⟩
theorem aBB{R:ι->ι->Prop}:∀{l:List ι} {a b:ι},pX R (l++[a])->R a b->pX R (l++[a,b])
 |[],a,b,_,h=>⟨h,trivial⟩
 |[x],a,b,h1,h=>⟨h1.1,h,trivial⟩
 |x::y::l,a,b,h1,h=>⟨h1.1,aBB (l:=y::l) h1.2 h⟩
theorem eQ.steps{T:List ι}:∀{st:List ι},eQ n pt H T st->pX (λa b=>oP n pt T a b/\H.fw (pt b-pt a)) st.reverse
 |[a],_=>trivial
 |b::a::st,h=>by have ih:=eQ.steps h.2.2.2;rw[vP]at ih ⊢;rw[vP,Ep];exact aBB ih ⟨h.2.2.1,h.2.1⟩
theorem pX.imp{R R':ι->ι->Prop}(h:∀ a b,R a b->R' a b):∀{l:List ι},pX R l->pX R' l
 |[],_=>trivial
 |[_],_=>trivial
 |_::b::l,hs=>⟨h _ _ hs.1,pX.imp h (l:=b::l) hs.2⟩
def order(n:V3 F)(pt:ι->V3 F)(l:List ι):List ι:=(half n pt l).tail.reverse++(half n pt l.reverse).tail.reverse
theorem aKS(hn:n≠0){S:List ι}(hc:Conv n pt S){c:ι}(Ky:c∈S):∀{l:List ι} {a b:ι},(∀ x∈a::l,x∈S)->c∉a::l->
  pX (λa b=>oP n pt S a b) (a::l)->(a::l).getLast?=some b->a=b\/0<tr n (pt a-pt c) (pt b-pt c):=by
 obtain⟨m,hm⟩:=hc.xw c Ky;intro l;induction l with
 |nil=>intro a b _ _ _ h;left;simpa using h
 |cons x l ih=>
  intro a b hS zi bL vz;right;have Kx:c∉x::l:=λh=>zi (bF _ h);have gS:c≠a:=λh=>zi (h▸aV ..);have aBC:c≠x:=λh=>Kx (h▸aV ..);have h1:0<tr n (pt a-pt c) (pt x-pt c):=by have:=bL.1 c Ky gS aBC;rw[<-Uf]at this;exact this
  have aBD:(x::l).getLast?=some b:=by rw[OH]at vz;exact vz
  have hb:b∈x::l:=List.mem_of_getLast? aBD;have aS:=hS a (aV ..);have xS:=hS x (bF _ (aV ..));have bS:=hS b (bF _ hb);have neg:∀ y∈S,c≠y->0<dot (-m) (pt y-pt c):=by intro y hy Uk;rw[BC,k8,OF.neg_sub];exact OF.sub_pos.2 (hm y hy (mD Uk))
  rcases ih (λy hy=>hS y (bF _ hy)) Kx bL.2 aBD with rfl|h2
  ·exact h1
  ·exact aKM n hn (hc.pW c Ky a aS) (hc.pW c Ky x xS) (hc.pW c Ky b bS) (neg a aS gS) (neg x xS aBC) (neg b bS (λh=>Kx (h▸hb))) h1 h2
theorem aKT(l:List ι)(a:ι):(l++[a]).getLast?=some a:=by simp
theorem aBE{S:List ι}(hS:∀ a∈S,∀ b∈S,pt a=pt b->a=b){a b c:ι}(hb:b∈S)(hc:c∈S)(b9:b≠a)(OG:c≠a)(h1:oP n pt S a b)(h2:oP n pt S a c):b=c:=by apply gN;intro zq;have k1:=h1 c hc OG (mD zq);have k2:=h2 b hb b9 zq;rw[aBv]at k2;exact OF.lt_irrefl _ (OF.lt_trans k1 (neg_pos.1 k2))
theorem Uo{T:List ι}:∀{st:List ι},eQ n pt H T st->st.Pairwise λa b=>H.fw (pt a-pt b)
 |[_],_=>aBF ..
 |b::a::st,h=>r5.2 ⟨eQ.below h,Uo h.2.2.2⟩
theorem aKU(hn:n≠0){l:List ι}{a b:ι}(hc:Conv n pt (a::b::l))(hs:xx pt H (a::b::l)):
  ∃ m,order n pt (a::b::l)=a::m/\(a::m).Nodup/\(∀ x,x∈a::m↔x∈a::b::l)/\pX (λx y=>oP n pt (a::b::l) x y) (a::m++[a]):=by
 generalize hS:a::b::l=S at *
 -- the way there
 obtain⟨z,st,hh,xy,BG,hz⟩:=aBA (H:=H) hn (l:=b::l) (a:=a) (hS▸hc) (hS▸hs);rw[hS]at hh xy BG
 -- the list from Up end on,and the opposite half
 have aKV:∃ w t,S.reverse=w::t:=by
  cases h:S.reverse with
  |nil=>rw[aBG]at h;rw[<-hS]at h;cases h
  |cons w t=>exact⟨w,t,rfl⟩
 obtain⟨w,t,OL⟩:=aKV;have zt:∀ x,x∈w::t↔x∈S:=λx=>by rw[<-OL];exact Kz
 have Rv:xx pt H.opp (w::t):=by rw[<-OL];unfold xx at *;rw[aBH];refine hs.imp ?_;intro x y h;show H.fw (-(pt x-pt y));rw[<-Dg];exact h
 have hcr:Conv n pt (w::t):=hc.sub λx hx=>(zt x).1 hx;obtain⟨z',fe,BH,Dh,aKW,nV⟩:=aBA (H:=H.opp) hn hcr Rv;have aS:a∈S:=by rw[<-hS];exact aV ..
 have bS:b∈S:=by rw[<-hS];exact bF _ (aV ..)
 have Uq:∀ c∈S,c≠a->H.fw (pt c-pt a):=by intro c dC gS;rw[<-hS]at dC hs;exact(r5.1 hs).1 c ((cx.1 dC).resolve_left gS)
 -- the ends of both aKX
 have hza:z'=a:=by
  apply gN;intro aU;have h1:=aKW a ((zt a).2 aS) (mD aU);have h2:=Uq z' ((zt z').1 (eQ.mem Dh z' (aV ..))) aU;have pG:H.fw (pt a-pt z'):=by rw[Dg (pt z') (pt a)];exact h1
  exact iM.HO h2 pG
 subst hza;obtain⟨a1,eC,aKY,aKZ⟩:=eQ.least xy;have hra:a1=z':=by apply gN;intro aU;exact iM.HO (Uq a1 aKY aU) (aKZ z' aS (mD aU))
 rw[hra]at eC;obtain⟨w1,Fw,aK0,aK1⟩:=eQ.least Dh;have zS:z∈S:=eQ.mem xy z (aV ..);have hwz:w1=z:=by
  apply gN;intro aU;have h1:=BG w1 ((zt w1).1 aK0) aU;have h2:=aK1 z ((zt z).2 zS) (mD aU);have vE:H.fw (pt w1-pt z):=by rw[Dg (pt z) (pt w1)];exact h2
  exact iM.HO h1 vE
 rw[hwz]at Fw;have haz:z'≠z:=by
  rintro rfl
  rcases Classical.em (b=z')with rfl|xz
  ·rw[<-hS]at hs;exact iM.ne ((r5.1 hs).1 b (aV ..)) rfl
  ·exact iM.HO (Uq b bS xz) (BG b bS xz)
 -- the pieces
 have aK2:∃ u,st.reverse=z'::u:=by
  cases st with
  |nil=>simp at eC;exact absurd eC.symm haz
  |cons x st=>
   rw[OH]at eC;cases h:(x::st).reverse with
   |nil=>rw[aBG]at h;cases h
   |cons q u=>
    have:(x::st)=(q::u).reverse:=by rw[<-h,List.reverse_reverse]
    rw[this,vP,List.getLast?_append,List.getLast?_singleton]at eC;simp at eC;exact⟨u,by rw[eC]⟩
 have aK3:∃ u,fe.reverse=z::u:=by
  cases fe with
  |nil=>simp at Fw;exact absurd Fw haz
  |cons x fe=>
   rw[OH]at Fw;cases h:(x::fe).reverse with
   |nil=>rw[aBG]at h;cases h
   |cons q u=>
    have:(x::fe)=(q::u).reverse:=by rw[<-h,List.reverse_reverse]
    rw[this,vP,List.getLast?_append,List.getLast?_singleton]at Fw;simp at Fw;exact⟨u,by rw[Fw]⟩
 obtain⟨u,hu⟩:=aK2;obtain⟨u',jK⟩:=aK3;have aK4:order n pt S=z'::(u++z::u'):=by unfold order;rw[hh,OL,BH];simp only[List.tail_cons];rw[hu,jK];rfl
 refine⟨u++z::u',aK4,?_,?_,?_⟩
 case refine_3=>
  have s1:=(eQ.steps xy).imp (R':=λx y=>oP n pt S x y) λx y h=>h.1;have s2:=(eQ.steps Dh).imp (R':=λx y=>oP n pt S x y) λx y h c dC=>h.1 c ((zt c).2 dC);rw[vP,hu]at s1;rw[vP,jK]at s2;have:=Un (l:=z'::u) (a:=z) (m:=u'++[z']) s1 s2;simpa using this
 case refine_2=>
  have sub:∀ x,x∈z'::(u++z::u')->x∈S:=by
   intro x hx;have:x∈z'::u\/x∈z::u':=by
    rcases cx.1 hx with h|h
    ·exact .inl (h▸aV ..)
    ·rcases ee.1 h with h|h
     ·exact .inl (bF _ h)
     ·exact .inr h
   rcases this with h|h
   ·rw[<-hu,Kz]at h;exact eQ.mem xy x (bF _ h)
   ·rw[<-jK,Kz]at h;exact(zt x).1 (eQ.mem Dh x (bF _ h))
  intro x;refine⟨sub x,λhx=>?_⟩;apply gN;intro gE;have s1:=(eQ.steps xy).imp (R':=λx y=>oP n pt S x y) λx y h=>h.1;have s2:=(eQ.steps Dh).imp (R':=λx y=>oP n pt S x y) λx y h c dC=>h.1 c ((zt c).2 dC);rw[vP,hu]at s1;rw[vP,jK]at s2;have s3:=Un (l:=z'::u) (a:=z) (m:=u'++[z']) s1 s2;have kK:z'≠x:=λh=>gE (h▸aV ..)
  -- the first step,then the rest back to Up start
  have aK5:∃ y v,u++z::(u'++[z'])=y::v:=by
   cases u with
   |nil=>exact⟨z,_,rfl⟩
   |cons y u=>exact⟨y,_,rfl⟩
  obtain⟨y,v,I8⟩:=aK5;have s3':pX (λx y=>oP n pt S x y) (z'::y::v):=by rw[<-I8];exact s3
  have bd:∀ q∈y::v,q=z'\/q∈z'::(u++z::u'):=by
   intro q hq;rw[<-I8]at hq;have:q∈u++z::u'\/q=z':=by simpa[or_assoc]using hq
   rcases this with h|h
   ·exact .inr (bF _ h)
   ·exact .inl h
  have JN:x∉y::v:=λh=>by
   rcases bd x h with h|h
   ·exact kK h.symm
   ·exact gE h
  have hyS:∀ q∈y::v,q∈S:=λq hq=>by
   rcases bd q hq with h|h
   ·rw[h];exact aS
   ·exact sub q h
  have vz:(y::v).getLast?=some z':=by rw[<-I8,show u++z::(u'++[z'])=(u++z::u')++[z']by simp];exact aKT _ _
  have hyx:x≠y:=λh=>JN (h▸aV ..);have h1:0<tr n (pt z'-pt x) (pt y-pt x):=by have:=s3'.1 x hx (mD kK) hyx;rw[<-Uf]at this;exact this
  rcases aKS hn hc hx hyS JN s3'.2 vz with h2|h2
  ·rw[h2,aKL]at h1;exact OF.lt_irrefl _ h1
  ·rw[OE]at h2;exact OF.lt_irrefl _ (OF.lt_trans h1 (neg_pos.1 h2))
 case refine_1=>
  have d1:=Uo xy;have d2:=Uo Dh;have e1:(z'::u).Pairwise λa b=>H.fw (pt b-pt a):=by rw[<-hu,aBH];exact(r5.1 d1).2
  have e2:(z::u').Pairwise λa b=>H.fw (pt a-pt b):=by rw[<-jK,aBH];refine(r5.1 d2).2.imp ?_;intro x y h;rw[Dg (pt x) (pt y)];exact h
  have inj:∀ x∈S,∀ y∈S,pt x=pt y->x=y:=by
   intro x hx y hy kj;apply gN;intro aU;rcases xx.total hs y hy x hx aU with h|h
   ·exact iM.ne h kj.symm
   ·exact iM.ne h kj
  have n1:(z'::u).Nodup:=e1.imp λh=>λe=>iM.ne h (by rw[e]);have n2:(z::u').Nodup:=e2.imp λh=>λe=>iM.ne h (by rw[e]);rw[show z'::(u++z::u')=(z'::u)++(z::u')from rfl,List.nodup_append];refine⟨n1,n2,?_⟩;intro x hx y hy kj;subst kj
  -- x aKR on both aKX: Up aUP differ
  have aK6:∀{l:List ι} {e x:ι},pX (λa b=>oP n pt S a b/\H.fw (pt b-pt a)) (l++[e])->x∈l->∃ y∈l++[e],oP n pt S x y/\H.fw (pt y-pt x):=by
   intro l;induction l with
   |nil=>intro e x _ h;cases h
   |cons p l ih=>
    intro e x bL hx;cases l with
    |nil=>
     rcases cx.1 hx with rfl|h
     ·exact⟨e,by simp,bL.1⟩
     ·cases h
    |cons q l=>
     rcases cx.1 hx with rfl|h
     ·exact⟨q,by simp,bL.1⟩
     ·obtain⟨y,hy,h2⟩:=ih (e:=e) bL.2 h;exact⟨y,bF _ hy,h2⟩
  have s1:=eQ.steps xy;rw[vP,hu]at s1;obtain⟨y1,hy1,vi,iH⟩:=aK6 s1 hx;have y1S:y1∈S:=by rw[<-hu,<-vP,Kz]at hy1;exact eQ.mem xy y1 hy1
  have s2:=(eQ.steps Dh).imp (R':=λx y=>oP n pt S x y/\H.fw (pt x-pt y)) λx y h=>⟨λc dC=>h.1 c ((zt c).2 dC),by have:H.fw (-(pt y-pt x)):=h.2;rwa[<-Dg]at this⟩
  rw[vP,jK]at s2;have aK7:∀{l:List ι} {e x:ι},pX (λa b=>oP n pt S a b/\H.fw (pt a-pt b)) (l++[e])->x∈l->∃ y∈l++[e],oP n pt S x y/\H.fw (pt x-pt y):=by
   intro l;induction l with
   |nil=>intro e x _ h;cases h
   |cons p l ih=>
    intro e x bL hx;cases l with
    |nil=>
     rcases cx.1 hx with rfl|h
     ·exact⟨e,by simp,bL.1⟩
     ·cases h
    |cons q l=>
     rcases cx.1 hx with rfl|h
     ·exact⟨q,by simp,bL.1⟩
     ·obtain⟨y,hy,h2⟩:=ih (e:=e) bL.2 h;exact⟨y,bF _ hy,h2⟩
  obtain⟨y2,uR,jv,jl⟩:=aK7 s2 hy;have y2S:y2∈S:=by rw[<-jK,<-vP,Kz]at uR;exact(zt y2).1 (eQ.mem Dh y2 uR)
  have:=aBE inj y1S y2S (λe=>iM.ne iH (by rw[e])) (λe=>iM.ne jl (by rw[e])) vi jv;subst this;exact iM.HO iH jl
end
section
variable{F:Type}[OF F]
def zu(v:V3 F):Prop:=0<v.x\/(v.x=0/\(0<v.y\/(v.y=0/\0<v.z)))
theorem aK8(v:V3 F)(k:F):(smul v k).x=v.x*k:=rfl
theorem aK9(v:V3 F)(k:F):(smul v k).y=v.y*k:=rfl
theorem aLa(v:V3 F)(k:F):(smul v k).z=v.z*k:=rfl
theorem aLb(u v:V3 F):(u+v).x=u.x+v.x:=rfl
theorem aLc(u v:V3 F):(u+v).y=u.y+v.y:=rfl
theorem aLd(u v:V3 F):(u+v).z=u.z+v.z:=rfl
theorem aLe(u:V3 F):(-u).x=-u.x:=rfl
theorem aLf(u:V3 F):(-u).y=-u.y:=rfl
theorem aLg(u:V3 F):(-u).z=-u.z:=rfl
def aBI:iM F where
 fw:=zu
 add {x y} hx hy:=by
  unfold zu at *;rw[aLb,aLc,aLd];rcases hx with hx|⟨hx,gL|⟨gL,KA⟩⟩<;>rcases hy with hy|⟨hy,uR|⟨uR,Ur⟩⟩
  ·exact .inl (add_pos hx hy)
  ·exact .inl (by rw[hy,CR.add_zero];exact hx)
  ·exact .inl (by rw[hy,CR.add_zero];exact hx)
  ·exact .inl (by rw[hx,CR.zero_add];exact hy)
  ·exact .inr ⟨by rw[hx,hy,CR.add_zero],.inl (add_pos gL uR)⟩
  ·exact .inr ⟨by rw[hx,hy,CR.add_zero],.inl (by rw[uR,CR.add_zero];exact gL)⟩
  ·exact .inl (by rw[hx,CR.zero_add];exact hy)
  ·exact .inr ⟨by rw[hx,hy,CR.add_zero],.inl (by rw[gL,CR.zero_add];exact uR)⟩
  ·exact .inr ⟨by rw[hx,hy,CR.add_zero],.inr ⟨by rw[gL,uR,CR.add_zero],add_pos KA Ur⟩⟩
 mul {x k} hx hk:=by
  unfold zu at *;rw[aK8,aK9,aLa];rcases hx with hx|⟨hx,gL|⟨gL,KA⟩⟩
  ·exact .inl (mul_pos hx hk)
  ·exact .inr ⟨by rw[hx,CR.zero_mul],.inl (mul_pos gL hk)⟩
  ·exact .inr ⟨by rw[hx,CR.zero_mul],.inr ⟨by rw[gL,CR.zero_mul],mul_pos KA hk⟩⟩
 asymm {x} hx hy:=by
  unfold zu at *;rw[aLe,aLf,aLg]at hy;have no:∀ a:F,0<a->0 < -a->False:=λa h k=>OF.lt_irrefl _ (OF.lt_trans h (neg_pos.1 k));have nz:∀ a:F,0<a->-a=0->False:=λa h k=>by rw[<-CR.neg_neg a,k,CR.neg_zero]at h;exact OF.lt_irrefl _ h
  have Us:∀ a:F,a=0->0 < -a->False:=λa h k=>by rw[h,CR.neg_zero]at k;exact OF.lt_irrefl _ k
  rcases hx with hx|⟨hx,gL|⟨gL,KA⟩⟩<;>rcases hy with hy|⟨hy,uR|⟨uR,Ur⟩⟩
  ·exact no _ hx hy
  ·exact nz _ hx hy
  ·exact nz _ hx hy
  ·exact Us _ hx hy
  ·exact no _ gL uR
  ·exact nz _ gL uR
  ·exact Us _ hx hy
  ·exact Us _ gL uR
  ·exact no _ KA Ur
theorem aLh{a b:V3 F}(h:a≠b):zu (b-a)\/zu (a-b):=by
 unfold zu;show(0<b.x-a.x\/(b.x-a.x=0/\(0<b.y-a.y\/(b.y-a.y=0/\0<b.z-a.z))))\/(0<a.x-b.x\/(a.x-b.x=0/\(0<a.y-b.y\/(a.y-b.y=0/\0<a.z-b.z))));simp only[OF.sub_pos,OF.sub_eq_zero];rcases OF.lt_trichotomy a.x b.x with hx|hx|hx
 ·exact .inl (.inl hx)
 ·rcases OF.lt_trichotomy a.y b.y with hy|hy|hy
  ·exact .inl (.inr ⟨hx.symm,.inl hy⟩)
  ·rcases OF.lt_trichotomy a.z b.z with hz|hz|hz
   ·exact .inl (.inr ⟨hx.symm,.inr ⟨hy.symm,hz⟩⟩)
   ·exact absurd (V3.ext hx hy hz) h
   ·exact .inr (.inr ⟨hx,.inr ⟨hy,hz⟩⟩)
  ·exact .inr (.inr ⟨hx,.inl hy⟩)
 ·exact .inr (.inl hx)
theorem mn.xw{ps:List (HS F)}{c:V3 F}(h:mn ps c):∃ m:V3 F,∀ w,ig ps w->w≠c->dot m w<dot m c:=by
 obtain⟨_,p,hp,q,hq,r,hr,hd,tp,tq,tr⟩:=h;refine⟨p.n+q.n+r.n,λw hw aU=>?_⟩;rw[Oy,Oy,Oy,Oy,show dot p.n c=p.d from tp,show dot q.n c=q.d from tq,show dot r.n c=r.d from tr];rcases OF.pf (hw p hp)with h1|h1
 ·exact add_lt_add_of_lt_of_le (add_lt_add_of_lt_of_le h1 (hw q hq)) (hw r hr)
 ·rcases OF.pf (hw q hq)with h2|h2
  ·exact add_lt_add_of_lt_of_le (add_lt_add_of_le_of_lt (hw p hp) h2) (hw r hr)
  ·rcases OF.pf (hw r hr)with h3|h3
   ·exact add_lt_add_of_le_of_lt (OF.add_le_add (hw p hp) (hw q hq)) h3
   ·refine absurd (V3.sub_eq_zero.1 (HN hd ?_ ?_ ?_)) aU
    ·rw[k8,h1,show dot p.n c=p.d from tp,OF.sub_self]
    ·rw[k8,h2,show dot q.n c=q.d from tq,OF.sub_self]
    ·rw[k8,h3,show dot r.n c=r.d from tr,OF.sub_self]
theorem aLi{ps:List (HS F)}{p:HS F}{ι:Type}{pt:ι->V3 F}{S:List ι}(hS:∀ i∈S,mn ps (pt i)/\dV p (pt i))
  (Ut:∀ i∈S,∀ j∈S,pt i=pt j->i=j):Conv p.n pt S where
 pW a ha b hb:=by rw[k8,show dot p.n (pt a)=p.d from(hS a ha).2,show dot p.n (pt b)=p.d from(hS b hb).2,OF.sub_self]
 xw c hc:=by obtain⟨m,hm⟩:=(hS c hc).1.xw;exact⟨m,λw hw aU=>hm _ (hS w hw).1.1 λe=>aU (Ut w hw c hc e)⟩
structure eR(F:Type) where
 lo:Option F
 hi:Option F
def BI(s:eR F)(a b:F):Option (eR F):=
 if az a=0 then(if 0<=b then some s else none)
 else
  let t:=b*a⁻¹
  let s':eR F:=
   if 0<a then(match s.hi with|some h=>if t<h then⟨s.lo,some t⟩else s|none=>⟨s.lo,some t⟩)
   else(match s.lo with|some l=>if l<t then⟨some t,s.hi⟩else s|none=>⟨some t,s.hi⟩)
  match s'.lo,s'.hi with
  |some l,some h=>if l<h then some s' else none
  |_,_=>some s'
def eR.Sat(s:eR F)(t:F):Prop:=(∀ l,s.lo=some l->l<=t)/\(∀ h,s.hi=some h->t<=h)
def eR.Open(s:eR F):Prop:=∀ l h,s.lo=some l->s.hi=some h->l<h
theorem aLj(s:eR F)(a b:F):
  (∀ s',BI s a b=some s'->(s.Open->s'.Open)/\(∀ t,s'.Sat t↔s.Sat t/\a*t<=b)/\(∀ l,s'.lo=some l->s.lo=some l\/(a<0/\a*l=b))/\(∀ h,s'.hi=some h->s.hi=some h\/(0<a/\a*h=b)))/\
  (BI s a b=none->∀ t1 t2,s.Sat t1->a*t1<=b->s.Sat t2->a*t2<=b->t1<t2->False):=by
 unfold BI;by_cases ha:az a=0
 ·rw[aw ha];have iQ:=(e8 a).1 ha;by_cases hb:0<=b
  ·rw[aw hb];refine⟨λs' h=>?_,λh=>by cases h⟩;injection h with h;subst h;exact⟨id,λt=>⟨λh=>⟨h,by rw[iQ,CR.zero_mul];exact hb⟩,λh=>h.1⟩,λl h=>.inl h,λl h=>.inl h⟩
  ·rw[ao hb];refine⟨λs' h=>(by cases h),λ_ t1 t2 _ h1 _ _ _=>hb ?_⟩;rw[iQ,CR.zero_mul]at h1;exact h1
 ·rw[ao ha];have iQ:a≠0:=λe=>ha ((e8 a).2 e);have e:a*(b*a⁻¹)=b:=by rw[CR.mul_left_comm,lJ _ iQ,CR.mul_one]
  generalize b*a⁻¹=t0 at e;dsimp only
  -- the new part,and what it says
  have key:∃ s':eR F,(if 0<a then(match s.hi with|some h=>if t0<h then⟨s.lo,some t0⟩else s|none=>⟨s.lo,some t0⟩)
    else(match s.lo with|some l=>if l<t0 then⟨some t0,s.hi⟩else s|none=>⟨some t0,s.hi⟩):eR F)=s'/\(∀ t,s'.Sat t↔s.Sat t/\a*t<=b)/\(∀ l,s'.lo=some l->s.lo=some l\/(a<0/\a*l=b))/\(∀ h,s'.hi=some h->s.hi=some h\/(0<a/\a*h=b)):=by
   by_cases hp:0<a
   ·rw[aw hp];have le:∀ t,a*t<=b↔t<=t0:=λt=>by rw[<-e,mul_le_mul_left hp]
    cases hh:s.hi with
    |none=>
     refine⟨_,rfl,λt=>?_,λl h=>.inl h,λh k=>.inr ⟨hp,by injection k with k;rw[<-k];exact e⟩⟩;rw[le];exact⟨λh=>⟨⟨h.1,λx hx=>by rw[hh]at hx;cases hx⟩,h.2 t0 rfl⟩,λh=>⟨h.1.1,λx hx=>by injection hx with hx;rw[<-hx];exact h.2⟩⟩
    |some h0=>
     dsimp only;by_cases ak:t0<h0
     ·rw[aw ak];refine⟨_,rfl,λt=>?_,λl h=>.inl h,λh k=>.inr ⟨hp,by injection k with k;rw[<-k];exact e⟩⟩;rw[le];exact⟨λh=>⟨⟨h.1,λx hx=>by rw[hh]at hx;injection hx with hx;rw[<-hx];exact OF.le_trans (h.2 t0 rfl) (OF.le_of_lt ak)⟩,h.2 t0 rfl⟩,λh=>⟨h.1.1,λx hx=>by injection hx with hx;rw[<-hx];exact h.2⟩⟩
     ·rw[ao ak];refine⟨_,rfl,λt=>?_,λl h=>.inl h,λh k=>.inl (hh.symm.trans k)⟩;rw[le];exact⟨λh=>⟨h,OF.le_trans (h.2 h0 hh) (OF.not_lt.1 ak)⟩,λh=>h.1⟩
   ·rw[ao hp];have hn:a<0:=by
     rcases OF.pf (OF.not_lt.1 hp)with h|h
     ·exact h
     ·exact absurd h iQ
    have le:∀ t,a*t<=b↔t0<=t:=λt=>by rw[<-e,<-mul_le_mul_left (a:=t0) (b:=t) (neg_pos.2 hn),OF.le_def,OF.le_def,show -a*t - -a*t0=a*t0-a*t from kZ a t t0 (λa t u=>-a*t - -a*u) (λa t u=>a*u-a*t) d_]
    cases hh:s.lo with
    |none=>
     refine⟨_,rfl,λt=>?_,λl k=>.inr ⟨hn,by injection k with k;rw[<-k];exact e⟩,λh k=>.inl k⟩;rw[le];exact⟨λh=>⟨⟨λx hx=>(by rw[hh]at hx;cases hx),h.2⟩,h.1 t0 rfl⟩,λh=>⟨λx hx=>by injection hx with hx;rw[<-hx];exact h.2,h.1.2⟩⟩
    |some h0=>
     dsimp only;by_cases ak:h0<t0
     ·rw[aw ak];refine⟨_,rfl,λt=>?_,λl k=>.inr ⟨hn,by injection k with k;rw[<-k];exact e⟩,λh k=>.inl k⟩;rw[le];exact⟨λh=>⟨⟨λx hx=>by rw[hh]at hx;injection hx with hx;rw[<-hx];exact OF.le_trans (OF.le_of_lt ak) (h.1 t0 rfl),h.2⟩,h.1 t0 rfl⟩,λh=>⟨λx hx=>by injection hx with hx;rw[<-hx];exact h.2,h.1.2⟩⟩
     ·rw[ao ak];refine⟨_,rfl,λt=>?_,λl h=>.inl (hh.symm.trans h),λh k=>.inl k⟩;rw[le];exact⟨λh=>⟨h,OF.le_trans (OF.not_lt.1 ak) (h.1 h0 hh)⟩,λh=>h.1⟩
  obtain⟨s1,wL,uT,dQ,iq⟩:=key;rw[wL];cases hl:s1.lo with
  |none=>
   refine⟨λs' h=>?_,λh=>by cases h⟩;injection h with h;subst h;exact⟨λ_ l h ch=>(by rw[hl]at ch;cases ch),uT,dQ,iq⟩
  |some l=>
   cases hh:s1.hi with
   |none=>
    refine⟨λs' h=>?_,λh=>by cases h⟩;injection h with h;subst h;exact⟨λ_ l h _ BH=>(by rw[hh]at BH;cases BH),uT,dQ,iq⟩
   |some h=>
    dsimp only;by_cases ak:l<h
    ·rw[aw ak];refine⟨λs' h=>?_,λh=>by cases h⟩;injection h with h;subst h;refine⟨λ_ l' h' ch BH=>?_,uT,dQ,iq⟩;rw[hl]at ch;rw[hh]at BH;injection ch with ch;injection BH with BH;rw[<-ch,<-BH];exact ak
    ·rw[ao ak];refine⟨λs' h=>(by cases h),λ_ t1 t2 h1 k1 h2 k2 Uu=>ak ?_⟩;have q1:=((uT t1).2 ⟨h1,k1⟩).1 l hl;have q2:=((uT t2).2 ⟨h2,k2⟩).2 h hh;exact OF.lt_of_le_of_lt q1 (OF.lt_of_lt_of_le Uu q2)
def Fx:eR F->List (F×F)->Option (eR F)
 |s,[]=>some s
 |s,x::l=>(BI s x.1 x.2).bind λs'=>Fx s' l
theorem Uv:∀(l:List (F×F)) (s:eR F),s.Open->
  (∀ s',Fx s l=some s'->s'.Open/\(∀ t,s'.Sat t↔s.Sat t/\∀ x∈l,x.1*t<=x.2)/\(∀ t,s'.lo=some t->s.lo=some t\/∃ x∈l,x.1<0/\x.1*t=x.2)/\(∀ t,s'.hi=some t->s.hi=some t\/∃ x∈l,0<x.1/\x.1*t=x.2))/\
  (Fx s l=none->∀ t1 t2,s.Sat t1->(∀ x∈l,x.1*t1<=x.2)->s.Sat t2->(∀ x∈l,x.1*t2<=x.2)->t1<t2->False)
 |[],s,ho=>⟨λs' h=>by injection h with h;subst h;exact⟨ho,λt=>⟨λh=>⟨h,λx hx=>by cases hx⟩,λh=>h.1⟩,λt h=>.inl h,λt h=>.inl h⟩,λh=>by cases h⟩
 |x::l,s,ho=>by
  obtain⟨h1,h2⟩:=aLj s x.1 x.2;unfold Fx;cases hn:BI s x.1 x.2 with
  |none=>
   refine⟨λs' h=>(by cases h),λ_ t1 t2 a b c d e=>?_⟩;exact h2 hn t1 t2 a (b x (aV ..)) c (d x (aV ..)) e
  |some s1=>
   obtain⟨o1,Uw,zv,hi1⟩:=h1 s1 hn;obtain⟨k1,k2⟩:=Uv l s1 (o1 ho);refine⟨λs' h=>?_,λh t1 t2 a b c d e=>?_⟩
   ·obtain⟨o2,aLk,vQ,RY⟩:=k1 s' h;refine⟨o2,λt=>?_,λt ht=>?_,λt ht=>?_⟩
    ·rw[aLk,Uw];constructor
     ·rintro⟨⟨p,q⟩,r⟩
      exact⟨p,λy hy=>by
       rcases cx.1 hy with rfl|hy
       ·exact q
       ·exact r y hy⟩
     ·rintro⟨p,q⟩
      exact⟨⟨p,q x (aV ..)⟩,λy hy=>q y (bF _ hy)⟩
    ·rcases vQ t ht with h|⟨y,hy,h⟩
     ·rcases zv t h with h|h
      ·exact .inl h
      ·exact .inr ⟨x,aV ..,h⟩
     ·exact .inr ⟨y,bF _ hy,h⟩
    ·rcases RY t ht with h|⟨y,hy,h⟩
     ·rcases hi1 t h with h|h
      ·exact .inl h
      ·exact .inr ⟨x,aV ..,h⟩
     ·exact .inr ⟨y,bF _ hy,h⟩
   ·exact k2 h t1 t2 ((Uw t1).2 ⟨a,b x (aV ..)⟩) (λy hy=>b y (bF _ hy)) ((Uw t2).2 ⟨c,d x (aV ..)⟩) (λy hy=>d y (bF _ hy)) e
end
section
variable{F:Type}[OF F]
def mo(p q:HS F):V3 F:=
 let d:=ax p.n q.n
 smul (smul (ax q.n d) p.d+smul (ax d p.n) q.d) (dot d d)⁻¹
theorem aBJ{p q:HS F}(h:ax p.n q.n≠0):dV p (mo p q):=by
 unfold dV mo;dsimp only;have e:dot p.n (smul (ax q.n (ax p.n q.n)) p.d+smul (ax (ax p.n q.n) p.n) q.d)=p.d*dot (ax p.n q.n) (ax p.n q.n):=
  ring [p.n,q.n] [p.d,q.d] (λV S=>dot (V 0) (smul (ax (V 1) (ax (V 0) (V 1))) (S 0)+smul (ax (ax (V 0) (V 1)) (V 0)) (S 1))) (λV S=>S 0*dot (ax (V 0) (V 1)) (ax (V 0) (V 1))) d_
 rw[iT,e,CR.mul_assoc,lJ _ (BD h),CR.mul_one]
theorem aBK{p q:HS F}(h:ax p.n q.n≠0):dV q (mo p q):=by
 unfold dV mo;dsimp only;have e:dot q.n (smul (ax q.n (ax p.n q.n)) p.d+smul (ax (ax p.n q.n) p.n) q.d)=q.d*dot (ax p.n q.n) (ax p.n q.n):=
  ring [p.n,q.n] [p.d,q.d] (λV S=>dot (V 1) (smul (ax (V 1) (ax (V 0) (V 1))) (S 0)+smul (ax (ax (V 0) (V 1)) (V 0)) (S 1))) (λV S=>S 1*dot (ax (V 0) (V 1)) (ax (V 0) (V 1))) d_
 rw[iT,e,CR.mul_assoc,lJ _ (BD h),CR.mul_one]
def zw(ps:List (HS F))(p q:HS F):Option (V3 F×V3 F):=
 let d:=ax p.n q.n
 if az d.x=0/\az d.y=0/\az d.z=0 then none
 else match Fx ⟨none,none⟩ (ps.map λr=>(dot r.n d,r.d-dot r.n (mo p q)))with
  |some ⟨some lo,some hi⟩=>some (mo p q+smul d lo,mo p q+smul d hi)
  |_=>none
theorem OM(d:V3 F):(az d.x=0/\az d.y=0/\az d.z=0)↔d=0:=by rw[e8,e8,e8];exact⟨λh=>V3.ext h.1 h.2.1 h.2.2,λh=>by subst h;exact⟨rfl,rfl,rfl⟩⟩
theorem ON{ps:List (HS F)}{b d:V3 F}{t:F}:ig ps (b+smul d t)↔∀ x∈ps.map λr=>(dot r.n d,r.d-dot r.n b),x.1*t<=x.2:=by
 constructor
 ·intro h x hx;obtain⟨r,hr,rfl⟩:=dj.1 hx;have:=h r hr;rw[k7,iT]at this;dsimp only;rw[<-add_le_add_left (dot r.n b),show dot r.n b+(r.d-dot r.n b)=r.d from km (dot r.n b) r.d (λa d=>a+(d-a)) (λ_ d=>d) d_];exact this
 ·intro h r hr;have:=h _ (dj.2 ⟨r,hr,rfl⟩);dsimp only at this;rw[<-add_le_add_left (dot r.n b),show dot r.n b+(r.d-dot r.n b)=r.d from km (dot r.n b) r.d (λa d=>a+(d-a)) (λ_ d=>d) d_]at this;rw[k7,iT];exact this
theorem aBL:(⟨none,none⟩:eR F).Open:=λl h hl _=>by cases hl
theorem KB(t:F):(⟨none,none⟩:eR F).Sat t:=⟨λl h=>(by cases h),λl h=>(by cases h)⟩
theorem aLl{ps:List (HS F)}{p q:HS F}(hp:p∈ps)(hq:q∈ps){u v:V3 F}(h:zw ps p q=some (u,v)):mn ps u/\mn ps v:=by
 unfold zw at h;dsimp only at h;split at h
 ·cases h
 ·rename_i hd;rw[OM]at hd;have tp:=aBJ hd;have tq:=aBK hd;generalize mo p q=b at *;split at h
  ·rename_i lo hi hn;injection h with h;injection h with h1 h2;obtain⟨ho,uT,dQ,iq⟩:=(Uv _ _ aBL).1 _ hn;have ak:=ho lo hi rfl rfl
   -- a KC of the line on a OC aLm it
   have fin:∀ t:F,lo<=t->t<=hi->(∃ x∈ps.map λr=>(dot r.n (ax p.n q.n),r.d-dot r.n b),x.1≠0/\x.1*t=x.2)->mn ps (b+smul (ax p.n q.n) t):=by
    rintro t h1 h2 ⟨x,hx,kK,zp⟩
    obtain⟨r,hr,rfl⟩:=dj.1 hx;refine⟨?_,p,hp,q,hq,r,hr,?_,?_,?_,?_⟩
    ·rw[ON];exact((uT t).1 ⟨λl hl=>by injection hl with hl;rw[<-hl];exact h1,λl hl=>by injection hl with hl;rw[<-hl];exact h2⟩).2
    ·intro e;rw[<-Oz]at e;exact kK e
    ·unfold dV at *;rw[k7,iT,Fs,CR.zero_mul,CR.add_zero,tp]
    ·unfold dV at *;rw[k7,iT,De,CR.zero_mul,CR.add_zero,tq]
    ·unfold dV;rw[k7,iT];dsimp only at zp;rw[zp];exact km (dot r.n b) r.d (λa d=>a+(d-a)) (λ_ d=>d) d_
   rw[<-h1,<-h2];constructor
   ·rcases dQ lo rfl with k|⟨x,hx,kK,zp⟩
    ·cases k
    ·exact fin lo (OF.le_refl _) (OF.le_of_lt ak) ⟨x,hx,OF.ne_of_lt kK,zp⟩
   ·rcases iq hi rfl with k|⟨x,hx,kK,zp⟩
    ·cases k
    ·exact fin hi (OF.le_of_lt ak) (OF.le_refl _) ⟨x,hx,OF.ne_of_gt kK,zp⟩
  ·cases h
theorem aLn{ps:List (HS F)}(hc:Cl ps)(hp:gA ps){v x:V3 F}(hv:mn ps v)(hx:ig ps x)(aU:x≠v):
  ∃ p∈ps,∃ q∈ps,ax p.n q.n≠0/\(∃ u w,zw ps p q=some (u,w)/\(v=u\/v=w))/\(∃ u w,zw ps q p=some (u,w)/\(v=u\/v=w)):=by
 obtain⟨p,gY,q,tt,tp,tq,hd,bd⟩:=aKJ hp hv hx aU
 -- one order;c=d or c=-d is the direction aUQ the aUR
 have one:∀ p q:HS F,p∈ps->q∈ps->dV p v->dV q v->ax p.n q.n≠0->∀ c:V3 F,(c=ax p.n q.n\/c=-ax p.n q.n)->(∀ r∈ps,dV r v->dot r.n c<=0)->
   ∃ u w,zw ps p q=some (u,w)/\(v=u\/v=w):=by
  intro p q gY tt tp tq hd c Ux bd;have pJ:c≠0:=by
   rcases Ux with rfl|rfl
   ·exact hd
   ·exact λe=>hd (neg_eq_zero.1 e)
  have bp:=aBJ hd;have bq:=aBK hd
  -- v on the line
  have OO:dot p.n (v-mo p q)=0/\dot q.n (v-mo p q)=0:=by unfold dV at *;rw[k8,k8,tp,tq,bp,bq,OF.sub_self,OF.sub_self];exact⟨rfl,rfl⟩
  obtain⟨t0,vR⟩:∃ t0,v=mo p q+smul (ax p.n q.n) t0:=
   ⟨_,by rw[<-aBq hd OO.1 OO.2,V3.add_sub_cancel]⟩
  -- a aUS KC of the line
  obtain⟨e,he,⟨r,hr,od,Fv⟩,ct⟩:=yB hv.1 (hc.bounds hp pJ);have aBM:0<e:=by
   rcases OF.pf he with h|h
   ·exact h
   ·rw[<-h,smul_zero,V3.add_zero]at Fv;exact absurd (OF.lt_of_lt_of_le od (bd r hr Fv)) (OF.lt_irrefl _)
  -- a OC at v aLm the line
  have aBN:=hv.1;obtain⟨_,a1,eC,a2,gZ,a3,Fh,aLo,t1,t2,t3⟩:=hv;obtain⟨s,hs,ts,Uy⟩:∃ s∈ps,dV s v/\dot s.n c<0:=by
   apply gN;intro gE;have z:∀ a∈ps,dV a v->dot a.n c=0:=λa ha ta=>by
    rcases OF.pf (bd a ha ta)with h|h
    ·exact(gE ⟨a,ha,ta,h⟩).elim
    ·exact h
   exact pJ (HN aLo (z a1 eC t1) (z a2 gZ t2) (z a3 Fh t3))
  have Fu:∀ t:F,v+smul (ax p.n q.n) t=mo p q+smul (ax p.n q.n) (t0+t):=λt=>by rw[vR];exact mR [mo p q,ax p.n q.n] [t0,t] (λV S=>V 0+smul (V 1) (S 0)+smul (V 1) (S 1)) (λV S=>V 0+smul (V 1) (S 0+S 1)) d_
  have aBO:∀ t:F,ig ps (v+smul (ax p.n q.n) t)->∀ x∈ps.map λr=>(dot r.n (ax p.n q.n),r.d-dot r.n (mo p q)),x.1*(t0+t)<=x.2:=λt h=>by rw[Fu]at h;exact ON.1 h
  have f0:=aBO 0 (by rw[smul_zero,V3.add_zero];exact aBN);rw[CR.add_zero]at f0
  -- the other KC
  have f1:∃ t1:F,t1≠0/\ig ps (v+smul (ax p.n q.n) t1):=by
   rcases Ux with rfl|rfl
   ·exact⟨e,OF.ne_of_gt aBM,ct⟩
   ·refine⟨-e,OF.ne_of_lt (Kc.2 aBM),?_⟩;rw[show smul (ax p.n q.n) (-e)=smul (-ax p.n q.n) e from mR [ax p.n q.n] [e] (λV S=>smul (V 0) (-S 0)) (λV S=>smul (-V 0) (S 0)) d_];exact ct
  obtain⟨t1,jM,f1⟩:=f1;have f1:=aBO t1 f1;unfold zw;dsimp only;rw[ao (by rw[OM];exact hd)];obtain⟨n1,n2⟩:=Uv (ps.map λr=>(dot r.n (ax p.n q.n),r.d-dot r.n (mo p q))) ⟨none,none⟩ aBL;cases hN:Fx ⟨none,none⟩ (ps.map λr=>(dot r.n (ax p.n q.n),r.d-dot r.n (mo p q)))with
  |none=>
   exfalso;rcases OF.lt_trichotomy 0 t1 with h|h|h
   ·exact n2 hN t0 (t0+t1) (KB _) f0 (KB _) f1 (by have:=(add_lt_add_left t0).2 h;rwa[CR.add_zero]at this)
   ·exact jM h.symm
   ·exact n2 hN (t0+t1) t0 (KB _) f1 (KB _) f0 (by have:=(add_lt_add_left t0).2 h;rwa[CR.add_zero]at this)
  |some sg=>
   obtain⟨ho,uT,_,_⟩:=n1 sg hN;have s0:=(uT t0).2 ⟨KB _,f0⟩
   -- beyond a OC
   have beyond:∀ c:V3 F,c≠0->∃ t:F,0<=t/\¬ig ps (v+smul c t):=by intro c pJ;obtain⟨t,ht,⟨r,hr,od,Fv⟩,_⟩:=yB aBN (hc.bounds hp pJ);refine⟨t+1,add_nonneg ht (OF.le_of_lt OF.zero_lt_one),λh=>?_⟩;have h1:=h r hr;rw[show v+smul c (t+1)=v+smul c t+c from mR [v,c] [t] (λV S=>V 0+smul (V 1) (S 0+1)) (λV S=>V 0+smul (V 1) (S 0)+V 1) d_,k7,show dot r.n (v+smul c t)=r.d from Fv]at h1;have:=(add_lt_add_left r.d).2 od;rw[CR.add_zero]at this;exact OF.lt_irrefl _ (OF.lt_of_lt_of_le this h1)
   obtain⟨lo,hi⟩:=sg;have iq:∃ h,hi=some h:=by
    cases hi with
    |some h=>exact⟨h,rfl⟩
    |none=>
     exfalso;obtain⟨t,ht,gE⟩:=beyond _ hd;apply gE;rw[Fu,ON];refine((uT (t0+t)).1 ⟨λl hl=>?_,λh hh=>(by cases hh)⟩).2;refine OF.le_trans (s0.1 l hl) ?_;have:=(add_le_add_left t0).2 ht;rwa[CR.add_zero]at this
   have dQ:∃ l,lo=some l:=by
    cases lo with
    |some h=>exact⟨h,rfl⟩
    |none=>
     exfalso;obtain⟨t,ht,gE⟩:=beyond (-ax p.n q.n) (λe=>hd (neg_eq_zero.1 e));apply gE;rw[show smul (-ax p.n q.n) t=smul (ax p.n q.n) (-t)from mR [ax p.n q.n] [t] (λV S=>smul (-V 0) (S 0)) (λV S=>smul (V 0) (-S 0)) d_,Fu,ON];refine((uT (t0+-t)).1 ⟨λh hh=>(by cases hh),λl hl=>?_⟩).2;refine OF.le_trans ?_ (s0.2 l hl);have:=(add_le_add_left t0).2 (Kd.2 ht);rwa[CR.add_zero]at this
   obtain⟨hi,rfl⟩:=iq;obtain⟨lo,rfl⟩:=dQ;have ak:=ho lo hi rfl rfl;have l0:=s0.1 lo rfl;have h0:=s0.2 hi rfl;refine⟨_,_,rfl,?_⟩
   -- the value of s on the line
   have aBP:∀ t:F,(∀ x∈ps.map λr=>(dot r.n (ax p.n q.n),r.d-dot r.n (mo p q)),x.1*t<=x.2)->dot s.n (ax p.n q.n)*t<=dot s.n (ax p.n q.n)*t0:=by
    intro t h;have h1:=h _ (dj.2 ⟨s,hs,rfl⟩);dsimp only at h1;have h2:dot s.n (ax p.n q.n)*t0=s.d-dot s.n (mo p q):=by have:dot s.n v=s.d:=ts;rw[vR,k7,iT]at this;rw[<-this];exact km (dot s.n (mo p q)) (dot s.n (ax p.n q.n)*t0) (λ_ b=>b) (λa b=>a+b-a) d_
    rw[h2];exact h1
   rcases Ux with rfl|rfl
   ·left;have k:=aBP lo ((uT lo).1 ⟨λl hl=>(by injection hl with hl;rw[hl];exact OF.le_refl _),λh hh=>(by injection hh with hh;rw[<-hh];exact OF.le_of_lt ak)⟩).2;have k2:t0<=lo:=by
     rw[<-mul_le_mul_left (neg_pos.2 Uy),CR.neg_mul,CR.neg_mul,OF.le_def,show -(dot s.n (ax p.n q.n)*lo) - -(dot s.n (ax p.n q.n)*t0)=dot s.n (ax p.n q.n)*t0-dot s.n (ax p.n q.n)*lo from
       km (dot s.n (ax p.n q.n)*lo) (dot s.n (ax p.n q.n)*t0) (λa b=>-a - -b) (λa b=>b-a) d_]
     exact k
    rw[OF.le_antisymm l0 k2];exact vR
   ·right;rw[tD,Kc]at Uy;have k:=aBP hi ((uT hi).1 ⟨λl hl=>(by injection hl with hl;rw[<-hl];exact OF.le_of_lt ak),λh hh=>(by injection hh with hh;rw[hh];exact OF.le_refl _)⟩).2;rw[mul_le_mul_left Uy]at k;rw[OF.le_antisymm k h0];exact vR
 refine⟨p,gY,q,tt,hd,one p q gY tt tp tq hd _ (.inl rfl) bd,one q p tt gY tq tp (λe=>hd (by rw[HM,e,V3.neg_zero])) _ (.inr ?_) bd⟩;rw[<-HM]
def BJ(ps:List (HS F))(x:V3 F):Prop:=∀ p∈ps,dot p.n x<p.d
def kt(ps:List (HS F)):Prop:=∃ x,BJ ps x
theorem BJ.inside{ps:List (HS F)}{x:V3 F}(h:BJ ps x):ig ps x:=λp hp=>OF.le_of_lt (h p hp)
def aBQ(l:List (V3 F)):V3 F:=l.foldl (λs v=>s+v) 0
theorem aBR(m:V3 F):∀(l:List (V3 F)) (s:V3 F),dot m (l.foldl (λs v=>s+v) s)=l.foldl (λ(a:F) v=>a+dot m v) (dot m s)
 |[],_=>rfl
 |v::l,s=>by rw[uu,aBR,uu,k7]
theorem OP(f:V3 F->F):∀(l:List (V3 F)) (a:F),l.foldl (λ(a:F) v=>a+f v) a=a+l.foldl (λ(a:F) v=>a+f v) 0
 |[],a=>by rw[aBS,aBS,CR.add_zero]
 |v::l,a=>by rw[uu,uu,OP f l (a+f v),OP f l (0+f v),CR.zero_add,CR.add_assoc]
theorem aBT{f:V3 F->F}{d:F}:∀{l:List (V3 F)},(∀ v∈l,f v<=d)->l.foldl (λ(a:F) v=>a+f v) 0<=CR.ofNat l.length*d
 |[],_=>by rw[aBS,List.length_nil,CR.ofNat,CR.zero_mul];exact OF.le_refl _
 |v::l,h=>by rw[uu,OP,CR.zero_add,oA,CR.ofNat,CR.add_mul,CR.one_mul,CR.add_comm];exact OF.add_le_add (aBT λv hv=>h v (bF _ hv)) (h v (aV ..))
theorem aBU{f:V3 F->F}{d:F}:∀{l:List (V3 F)},(∀ v∈l,f v<=d)->(∃ v∈l,f v<d)->l.foldl (λ(a:F) v=>a+f v) 0<CR.ofNat l.length*d
 |[],_,h=>by obtain⟨v,hv,_⟩:=h;cases hv
 |v::l,h,k=>by
  rw[uu,OP,CR.zero_add,oA,CR.ofNat,CR.add_mul,CR.one_mul,CR.add_comm];have hl:∀ v∈l,f v<=d:=λv hv=>h v (bF _ hv);obtain⟨x,hx,xk⟩:=k;rcases cx.1 hx with rfl|hx
  ·exact add_lt_add_of_le_of_lt (aBT hl) xk
  ·exact add_lt_add_of_lt_of_le (aBU hl ⟨x,hx,xk⟩) (h v (aV ..))
theorem Uz:∀{n:Nat},0<n->(0:F)<CR.ofNat n
 |n+1,_=>by
  rw[CR.ofNat];rcases ob n with rfl|h
  ·rw[CR.ofNat,CR.zero_add];exact OF.zero_lt_one
  ·exact add_pos (Uz h) OF.zero_lt_one
def xA(l:List (V3 F)):V3 F:=smul (aBQ l) (CR.ofNat l.length)⁻¹
theorem aLp(m:V3 F)(l:List (V3 F)):dot m (xA l)=l.foldl (λ(a:F) v=>a+dot m v) 0*(CR.ofNat l.length)⁻¹:=by unfold xA aBQ;rw[iT,aBR,Dd]
theorem aBV{m:V3 F}{d:F}{l:List (V3 F)}(h:∀ v∈l,dot m v<=d)(k:∃ v∈l,dot m v<d):dot m (xA l)<d:=by
 have hl:0<l.length:=by
  obtain⟨v,hv,_⟩:=k;cases l with
  |nil=>cases hv
  |cons a l=>exact SR _
 have hp:=Uz (F:=F) hl;rw[aLp,<-mul_lt_mul_left hp,CR.mul_left_comm,lJ _ (OF.ne_of_gt hp),CR.mul_one];exact aBU h k
theorem aBW{ps:List (HS F)}(hc:Cl ps)(hp:gA ps){l:List (V3 F)}(hl:∀ v,v∈l↔mn ps v)(hf:kt ps):l≠[]/\BJ ps (xA l):=by
 obtain⟨x,hx⟩:=hf;have xw:∀ p∈ps,∃ v∈l,dot p.n v<p.d:=by intro p iL;obtain⟨v,hv,hm⟩:=top hc hp (m:=-p.n) hx.inside;refine⟨v,(hl v).2 hv,?_⟩;rw[BC,BC,OF.le_def,show -dot p.n v - -dot p.n x=dot p.n x-dot p.n v from km (dot p.n v) (dot p.n x) (λa b=>-a - -b) (λa b=>b-a) d_]at hm;exact OF.lt_of_le_of_lt hm (hx p iL)
 obtain⟨⟨p,iL,_⟩,_⟩:=hc;refine⟨λe=>?_,λp iL=>aBV (λv hv=>((hl v).1 hv).1 p iL) (xw p iL)⟩;obtain⟨v,hv,_⟩:=xw p iL;rw[e]at hv;cases hv
theorem aLq{ps:List (HS F)}(hc:Cl ps)(hp:gA ps)(hf:kt ps)(v:V3 F):∃ x,ig ps x/\x≠v:=by
 obtain⟨x,hx⟩:=hf;by_cases h:x=v
 ·obtain⟨p,iL,_⟩:=hc.1;have fT:=hp p iL;obtain⟨w,hw,hm⟩:=top hc hp (m:=p.n) hx.inside;by_cases hwx:w=x
  ·-- then every aUT is x,which is on a OC
   obtain⟨_,q,hq,_,_,_,_,_,tq,_⟩:=hw;have:=hx q hq;rw[hwx]at tq;rw[show dot q.n x=q.d from tq]at this;exact absurd this (OF.lt_irrefl _)
  ·exact⟨w,hw.1,λe=>hwx (e.trans h.symm)⟩
 ·exact⟨x,hx.inside,h⟩
end
section
variable{F:Type}[OF F]
def OQ(l:List (V3 F)):Prop:=∃ o rest,l=o::rest/\∃ a∈rest,∃ b∈rest,∃ c∈rest,cL (a-o) (b-o) (c-o)≠0
theorem aLr{ps:List (HS F)}(hp:gA ps){l:List (V3 F)}(hl:∀ v∈l,ig ps v)(h:OQ l):kt ps:=by
 obtain⟨o,rest,rfl,a,ha,b,hb,c,hc,hd⟩:=h;have io:=hl o (aV ..);have ia:=hl a (bF _ ha);have ib:=hl b (bF _ hb);have ic:=hl c (bF _ hc);refine⟨xA [o,a,b,c],λp iL=>aBV (λv hv=>?_) ?_⟩
 ·simp only[cx,jg,jh]at hv;rcases hv with rfl|rfl|rfl|rfl
  ·exact io p iL
  ·exact ia p iL
  ·exact ib p iL
  ·exact ic p iL
 ·apply gN;intro gE;have tight:∀ v∈[o,a,b,c],dot p.n v=p.d:=by
   intro v hv;have ct:dot p.n v<=p.d:=by
    simp only[cx,jg,jh]at hv;rcases hv with rfl|rfl|rfl|rfl
    ·exact io p iL
    ·exact ia p iL
    ·exact ib p iL
    ·exact ic p iL
   rcases OF.pf ct with h|h
   ·exact(gE ⟨v,hv,h⟩).elim
   ·exact h
  have to:=tight o s_;have z:∀ v∈[o,a,b,c],dot (v-o) p.n=0:=λv hv=>by rw[zo,k8,tight v hv,to,OF.sub_self]
  exact hp p iL (HN hd (z a s_) (z b s_) (z c s_))
theorem aLs{ps:List (HS F)}(hc:Cl ps)(hp:gA ps){l:List (V3 F)}(hl:∀ v,v∈l↔mn ps v)(hf:kt ps):OQ l:=by
 have aU:=(aBW hc hp hl hf).1;cases l with
 |nil=>exact absurd rfl aU
 |cons o rest=>
  apply gN;intro gE;have hz:∀ a∈rest,∀ b∈rest,∀ c∈rest,cL (a-o) (b-o) (c-o)=0:=by intro a ha b hb c hc;apply gN;intro h;exact gE ⟨o,rest,rfl,a,ha,b,hb,c,hc,h⟩
  -- a direction that all points have in Mt
  obtain⟨m,hm,OO⟩:∃ m:V3 F,m≠0/\∀ v∈rest,dot m (v-o)=0:=by
   by_cases h2:∃ a∈rest,∃ b∈rest,ax (a-o) (b-o)≠0
   ·obtain⟨a,ha,b,hb,h⟩:=h2;refine⟨_,h,λv hv=>?_⟩;rw[zo];exact hz v hv a ha b hb
   ·have vE:∀ a∈rest,∀ b∈rest,ax (a-o) (b-o)=0:=λa ha b hb=>gN λh=>h2 ⟨a,ha,b,hb,h⟩;by_cases h1:∃ a∈rest,a-o≠0
    ·obtain⟨a,ha,h⟩:=h1;obtain⟨u,hu,OR⟩:=Kw h;exact⟨u,hu,λv hv=>by rw[zo];exact OB h (vE a ha v hv) OR⟩
    ·obtain⟨p,iL,_⟩:=hc.1;exact⟨p.n,hp p iL,λv hv=>by rw[gN (λh=>h1 ⟨v,hv,h⟩:¬¬(v-o=0)),Dd]⟩
  have heq:∀ v,mn ps v->dot m v=dot m o:=by
   intro v hv;rcases cx.1 ((hl v).2 hv)with rfl|h
   ·rfl
   ·have:=OO v h;rw[k8]at this;exact OF.sub_eq_zero.1 this
  -- so every KC inside has the same product
  have all:∀ y,ig ps y->dot m y=dot m o:=by intro y hy;obtain⟨v,hv,h1⟩:=top hc hp (m:=m) hy;obtain⟨w,hw,h2⟩:=top hc hp (m:=-m) hy;rw[heq v hv]at h1;rw[BC,BC,heq w hw,OF.le_def,show -dot m o - -dot m y=dot m y-dot m o from km (dot m o) (dot m y) (λa b=>-a - -b) (λa b=>b-a) d_]at h2;exact OF.le_antisymm h1 h2
  obtain⟨x,hx⟩:=hf;obtain⟨t,ht,⟨q,hq,_,vO⟩,ct⟩:=yB hx.inside (hc.bounds hp hm);have vR:t≠0:=by
   rintro rfl
   rw[smul_zero,V3.add_zero]at vO;have:=hx q hq;rw[show dot q.n x=q.d from vO]at this;exact OF.lt_irrefl _ this
  have h1:=all _ ct;rw[k7,iT,all x hx.inside]at h1;have:dot m m*t=0:=CR.add_left_cancel (a:=dot m o) (by rw[h1,CR.add_zero]);exact mul_ne_zero (BD hm) vR this
theorem Cl.more{ps qs:List (HS F)}(hc:Cl ps)(hp:gA ps)(h:∀ p∈ps,p∈qs):Cl qs:=by obtain⟨p,iL,q,k9,hd⟩:=hc.1;refine⟨⟨p,h p iL,q,h q k9,hd⟩,λa _ b _ b9=>?_⟩;obtain⟨r,hr,od⟩:=hc.bounds hp b9;exact⟨r,h r hr,od⟩
end
end
section
open CR OF
section
variable{F:Type}[OF F]
def dY(u v:V3 F):Int:=
 if az (u.x-v.x)≠0 then az (u.x-v.x)else if az (u.y-v.y)≠0 then az (u.y-v.y)else az (u.z-v.z)
theorem aLt(u v:V3 F):(u-v).x=u.x-v.x:=rfl
theorem aLu(u v:V3 F):(u-v).y=u.y-v.y:=rfl
theorem aLv(u v:V3 F):(u-v).z=u.z-v.z:=rfl
theorem aBX{u v:V3 F}:dY u v=1↔zu (u-v):=by
 unfold dY zu;rw[aLt,aLu,aLv,iz,iz,iz];have e:∀ a:F,a=0↔az a=0:=λa=>(e8 a).symm;rw[e (u.x-v.x),e (u.y-v.y)];rcases iy (u.x-v.x)with h|h|h<;>rw[h]<;>simp
 rcases iy (u.y-v.y)with h|h|h<;>rw[h]<;>simp
theorem aBY(u v:V3 F):dY v u=- dY u v:=by
 unfold dY;rw[CY v.x u.x,CY v.y u.y,CY v.z u.z];rcases iy (u.x-v.x)with h|h|h<;>rw[h]<;>simp
 rcases iy (u.y-v.y)with h|h|h<;>rw[h]<;>simp
theorem KD{u v:V3 F}:dY u v=-1↔zu (v-u):=by rw[<-aBX,aBY u v];omega
theorem KE{u v:V3 F}:dY u v=0↔u=v:=by
 constructor
 ·intro h;apply gN;intro aU;rcases aLh aU with k|k
  ·rw[KD.2 k]at h;cases h
  ·rw[aBX.2 k]at h;cases h
 ·rintro rfl
  unfold dY;rw[OF.sub_self,OF.sub_self,OF.sub_self,(e8 (0:F)).2 rfl];simp
theorem HP(u v:V3 F):dY u v=-1\/dY u v=0\/dY u v=1:=by
 unfold dY;split
 ·exact iy _
 ·split
  ·exact iy _
  ·exact iy _
def jH(u v:V3 F):Prop:=dY u v=-1
theorem KF{u v w:V3 F}(h:jH u v)(k:jH v w):jH u w:=by have h:=KD.1 h;have k:=KD.1 k;exact KD.2 (iM.aBu (H:=aBI) h k)
theorem Di(u:V3 F):¬jH u u:=λh=>by have:dY u u=0:=KE.2 rfl;rw[show dY u u=-1 from h]at this;cases this
theorem OS{u v:V3 F}(h:jH u v)(k:jH v u):False:=Di u (KF h k)
theorem KG{u v:V3 F}(h:dY u v=1):jH v u:=by unfold jH;rw[aBY u v,h]
def mq(v:V3 F):List (V3 F)->List (V3 F)
 |[]=>[v]
 |a::l=>if dY a v=0 then a::l else if dY a v=1 then v::a::l else a::mq v l
theorem OT{v x:V3 F}:∀{l:List (V3 F)},x∈mq v l↔x=v\/x∈l
 |[]=>by simp[mq]
 |a::l=>by
  unfold mq;split
  ·rename_i h;have e:=KE.1 h;subst e;simp
  ·split
   ·simp
   ·rw[cx,OT,cx];constructor
    ·rintro(h|h|h)
     ·exact .inr (.inl h)
     ·exact .inl h
     ·exact .inr (.inr h)
    ·rintro(h|h|h)
     ·exact .inr (.inl h)
     ·exact .inl h
     ·exact .inr (.inr h)
theorem UA{v:V3 F}:∀{l:List (V3 F)},l.Pairwise jH->(mq v l).Pairwise jH
 |[],_=>aBF ..
 |a::l,h=>by
  unfold mq;have h':=r5.1 h;split
  ·exact h
  ·rename_i h0;split
   ·rename_i h1;refine r5.2 ⟨λb hb=>?_,h⟩;rcases cx.1 hb with rfl|hb
    ·exact KG h1
    ·exact KF (KG h1) (h'.1 b hb)
   ·rename_i h1;refine r5.2 ⟨λb hb=>?_,UA h'.2⟩;rcases OT.1 hb with rfl|hb
    ·rcases HP a b with k|k|k
     ·exact k
     ·exact absurd k h0
     ·exact absurd k h1
    ·exact h'.1 b hb
theorem UB:∀{l m:List (V3 F)},l.Pairwise jH->m.Pairwise jH->(∀ x,x∈l↔x∈m)->l=m
 |[],[],_,_,_=>rfl
 |[],b::m,_,_,h=>by have:=(h b).2 (aV ..);cases this
 |a::l,[],_,_,h=>by have:=(h a).1 (aV ..);cases this
 |a::l,b::m,hl,hm,h=>by
  have ch:=r5.1 hl;have bo:=r5.1 hm;have e:a=b:=by
   rcases cx.1 ((h a).1 (aV ..))with e|ha
   ·exact e
   ·rcases cx.1 ((h b).2 (aV ..))with e|hb
    ·exact e.symm
    ·exact(OS (ch.1 b hb) (bo.1 a ha)).elim
  subst e
  congr 1
  refine UB ch.2 bo.2 λx=>⟨λhx=>?_,λhx=>?_⟩
  ·rcases cx.1 ((h x).1 (bF _ hx))with rfl|rP
   ·exact(Di _ (ch.1 _ hx)).elim
   ·exact rP
  ·rcases cx.1 ((h x).2 (bF _ hx))with rfl|rP
   ·exact(Di _ (bo.1 _ hx)).elim
   ·exact rP
def KH(l:List (V3 F)):List (V3 F):=l.foldl (λs v=>mq v s) []
theorem aBZ{x:V3 F}:∀(l s:List (V3 F)),x∈l.foldl (λs v=>mq v s) s↔x∈l\/x∈s
 |[],s=>by simp
 |v::l,s=>by
  rw[uu,aBZ l,OT,cx];constructor
  ·rintro(h|h|h)
   ·exact .inl (.inr h)
   ·exact .inl (.inl h)
   ·exact .inr h
  ·rintro((h|h)|h)
   ·exact .inr (.inl h)
   ·exact .inl h
   ·exact .inr (.inr h)
theorem aB0:∀(l s:List (V3 F)),s.Pairwise jH->(l.foldl (λs v=>mq v s) s).Pairwise jH
 |[],_,h=>h
 |v::l,s,h=>by rw[uu];exact aB0 l _ (UA h)
theorem UC{x:V3 F}{l:List (V3 F)}:x∈KH l↔x∈l:=by unfold KH;rw[aBZ];simp
theorem UD(l:List (V3 F)):(KH l).Pairwise jH:=aB0 l [] aB1
end
end
section
open V3 (dot ax cL smul)
def cD(v:V3 K):RV:=⟨dU v.x,dU v.y,dU v.z⟩
def bB(v:V3 K):Value:=(cD v).v
theorem OU{u v:V3 K}(h:cD u=cD v):u=v:=by cases u;cases v;have h1:=Kj (cI RV.x h);have h2:=Kj (cI RV.y h);have h3:=Kj (cI RV.z h);dsimp only[cD]at h1 h2 h3;rw[h1,h2,h3]
def aD(n:Nat)(v:V3 K):Prop:=Sz n v.x/\Sz n v.y/\Sz n v.z
theorem aD.mono{m n:Nat}(h:m<=n){v:V3 K}(hv:aD m v):aD n v:=⟨hv.1.mono h,hv.2.1.mono h,hv.2.2.mono h⟩
theorem aD.sm{n:Nat}{v:V3 K}(h:aD n v)(hn:n<=aB):(cD v).Sm:=⟨C4 h.1 hn,C4 h.2.1 hn,C4 h.2.2 hn⟩
theorem aD.add{m n:Nat}{u v:V3 K}(hu:aD m u)(hv:aD n v):aD (m+n+1) (u+v):=⟨hu.1.add hv.1,hu.2.1.add hv.2.1,hu.2.2.add hv.2.2⟩
theorem aD.sub{m n:Nat}{u v:V3 K}(hu:aD m u)(hv:aD n v):aD (m+n+1) (u-v):=⟨hu.1.sub hv.1,hu.2.1.sub hv.2.1,hu.2.2.sub hv.2.2⟩
theorem aD.neg{n:Nat}{v:V3 K}(hv:aD n v):aD n (-v):=⟨hv.1.neg,hv.2.1.neg,hv.2.2.neg⟩
theorem aD.smul{m n:Nat}{v:V3 K}{k:K}(hv:aD m v)(hk:Sz n k):aD (m+n+4) (smul v k):=⟨hv.1.mul hk,hv.2.1.mul hk,hv.2.2.mul hk⟩
theorem aD.dot{m n:Nat}{u v:V3 K}(hu:aD m u)(hv:aD n v):Sz (3*(m+n)+14) (dot u v):=((hu.1.mul hv.1).add (hu.2.1.mul hv.2.1)).add (hu.2.2.mul hv.2.2) |>.mono o_
theorem aD.ax{m n:Nat}{u v:V3 K}(hu:aD m u)(hv:aD n v):aD (2*(m+n)+9) (ax u v):=
 ⟨((hu.2.1.mul hv.2.2).sub (hu.2.2.mul hv.2.1)).mono o_,((hu.2.2.mul hv.1).sub (hu.1.mul hv.2.2)).mono o_,((hu.1.mul hv.2.1).sub (hu.2.1.mul hv.1)).mono o_⟩
theorem jI{v:V3 K}{n:Nat}(h:aD n v)(hn:n<=aB):aE prog 67 [bB v] (.bool true):=Ov (r:=cD v) (kJ h.1 hn) (kJ h.2.1 hn) (kJ h.2.2 hn)
theorem uU{a b c:Int}(ha:a.natAbs<9223372036854775808)(hb:b.natAbs<9223372036854775808)(hc:c.natAbs<9223372036854775808):aE prog 106 [.int .i64 a,.int .i64 b,.int .i64 c] (bB ⟨kI a,kI b,kI c⟩):=
 aP func106 (λ_=>[(rX ha).at 8,(rX hb).at 10,(rX hc).at 12])
def UE(f:FuncId):Value:=.agg #[.func (.func f) #[] #[]]
theorem aLw{u v:RV}{z:RV}(hu:aE prog 67 [u.v] (.bool true))(hv:aE prog 67 [v.v] (.bool true))
  (hx:aE prog 160 [u.x.v,v.x.v] z.x.v) (hy:aE prog 160 [u.y.v,v.y.v] z.y.v) (hz:aE prog 160 [u.z.v,v.z.v] z.z.v):aE prog 161 [UE 160,u.v,v.v] z.v:=
 aP func161 (λ_=>[hu.at 8,hv.at 12,hx.at 22,hy.at 29,hz.at 36])
theorem aLx{u v:RV}{z:RV}(hu:aE prog 67 [u.v] (.bool true))(hv:aE prog 67 [v.v] (.bool true))
  (hx:aE prog 168 [u.x.v,v.x.v] z.x.v) (hy:aE prog 168 [u.y.v,v.y.v] z.y.v) (hz:aE prog 168 [u.z.v,v.z.v] z.z.v):aE prog 161 [UE 168,u.v,v.v] z.v:=
 aP func161 (λ_=>[hu.at 8,hv.at 12,hx.at 22,hy.at 29,hz.at 36])
theorem aB2{u v:RV}{z:RV}(hu:aE prog 67 [u.v] (.bool true))(hv:aE prog 67 [v.v] (.bool true))
  (hx:aE prog 163 [u.x.v,v.x.v] z.x.v) (hy:aE prog 163 [u.y.v,v.y.v] z.y.v) (hz:aE prog 163 [u.z.v,v.z.v] z.z.v):aE prog 161 [UE 163,u.v,v.v] z.v:=
 aP func161 (λ_=>[hu.at 8,hv.at 12,hx.at 22,hy.at 29,hz.at 36])
theorem BK{u v:V3 K}{m n:Nat}(hu:aD m u)(hv:aD n v)(cS:m+n<aB):aE prog 119 [bB u,bB v] (bB (u+v)):=
 aP func119 (λ_=>[(aLw (u:=cD u) (v:=cD v) (z:=cD (u+v)) (jI hu o_) (jI hv o_) (uO hu.1 hv.1 cS) (uO hu.2.1 hv.2.1 cS) (uO hu.2.2 hv.2.2 cS)).at 8])
theorem zx{u v:V3 K}{m n:Nat}(hu:aD m u)(hv:aD n v)(cS:m+n<aB):aE prog 153 [bB u,bB v] (bB (u-v)):=
 aP func153 (λ_=>[(aLx (u:=cD u) (v:=cD v) (z:=cD (u-v)) (jI hu o_) (jI hv o_) (Bu hu.1 hv.1 cS) (Bu hu.2.1 hv.2.1 cS) (Bu hu.2.2 hv.2.2 cS)).at 8])
instance:DecidableEq (V3 K):=λu v=>decidable_of_iff (u.x=v.x/\u.y=v.y/\u.z=v.z) ⟨λh=>V3.ext h.1 h.2.1 h.2.2,λh=>by subst h;exact⟨rfl,rfl,rfl⟩⟩
theorem KI:aD 1 (⟨kI 0,kI 0,kI 0⟩:V3 K):=⟨qE d_ d_,qE d_ d_,qE d_ d_⟩
theorem HQ{v:V3 K}{n:Nat}(hv:aD n v)(hn:n+1<aB):aE prog 114 [bB v] (bB (-v)):=by
 have e:(⟨kI 0,kI 0,kI 0⟩:V3 K)-v=-v:=by cases v;show(⟨kI 0-_,kI 0-_,kI 0-_⟩:V3 K)=⟨-_,-_,-_⟩;rw[aJ7];congr 1<;>(rw[CR.sub_def];exact CR.zero_add _)
 have h:=zx KI hv o_;rw[e]at h;exact aP func114 (λ_=>[(uU (a:=0) (b:=0) (c:=0) d_ d_ d_).at 3,h.at 5])
theorem tE{v:V3 K}{k:K}{m n:Nat}(hv:aD m v)(hk:Sz n k)(cS:m+n+8<=aB):aE prog 121 [bB v,bZ k] (bB (smul v k)):=
 aP func121 (λ_=>[(aB2 (u:=cD v) (v:=⟨dU k,dU k,dU k⟩) (z:=cD (smul v k)) (jI hv o_) (jI (v:=⟨k,k,k⟩) ⟨hk,hk,hk⟩ o_) (oN hv.1 hk cS) (oN hv.2.1 hk cS) (oN hv.2.2 hk cS)).at 11])
theorem uV{u v:V3 K}{m n:Nat}(hu:aD m u)(hv:aD n v)(cS:3*(m+n)+16<aB):aE prog 127 [bB u,bB v] (bZ (dot u v)):=
 aP func127 (λ_=>[(aB2 (u:=cD u) (v:=cD v) (z:=⟨dU (u.x*v.x),dU (u.y*v.y),dU (u.z*v.z)⟩) (jI hu o_) (jI hv o_) (oN hu.1 hv.1 o_) (oN hu.2.1 hv.2.1 o_) (oN hu.2.2 hv.2.2 o_)).at 9,(uO (hu.1.mul hv.1) (hu.2.1.mul hv.2.1) o_).at 14,(uO ((hu.1.mul hv.1).add (hu.2.1.mul hv.2.1)) (hu.2.2.mul hv.2.2) o_).at 17])
theorem Fy{a b c d:K}{m n:Nat}(ha:Sz m a)(hb:Sz m b)(hc:Sz n c)(hd:Sz n d)(cS:2*(m+n)+16<aB):aE prog 150 [bZ a,bZ b,bZ c,bZ d] (bZ (a*d-b*c)):=
 aP func150 (λ_=>[(oN ha hd o_).at 11,(oN hb hc o_).at 14,(Bu (ha.mul hd) (hb.mul hc) o_).at 15])
theorem vS{u v:V3 K}{m n:Nat}(hu:aD m u)(hv:aD n v)(cS:2*(m+n)+16<aB):aE prog 112 [bB u,bB v] (bB (ax u v)):=
 aP func112 (λ_=>[(jI hu o_).at 6,(jI hv o_).at 10,(Fy hu.2.1 hu.2.2 hv.2.1 hv.2.2 cS).at 22,(Fy hu.2.2 hu.1 hv.2.2 hv.1 cS).at 31,(Fy hu.1 hu.2.1 hv.1 hv.2.1 cS).at 40])
theorem Dj{v:V3 K}{n:Nat}(hv:aD n v)(hn:n<=aB):aE prog 68 [bB v] (.bool (decide (v=0))):=by have hz:(⟨kI 0,kI 0,kI 0⟩:V3 K)=0:=rfl;exact aP func68 (λ_=>[(uU (a:=0) (b:=0) (c:=0) d_ d_ d_).at 4,.step 5 (av f68 5) _ _ _ _ (Fb (neg:=true) k_ (cD v) (cD ⟨kI 0,kI 0,kI 0⟩) (hv.sm hn) (KI.sm d_) (b:=decide (v=0)) (by rw[aw rfl,BL];exact⟨λh=>by rw[h,hz],λh=>OU h⟩))])
def OV:Int->Int->Int->Int:=λa b c=>if a≠0 then a else if b≠0 then b else c
theorem Fz{f:FuncId}{fn:Func}{l:List aR}{v:Value}(hf:prog.funcs[f]?=some fn)(N:Nat)(rs:∀ w,bA prog (aa.at w) N)(hN:N=(eP 0 l).length+(fn.ntmps-(eP 0 l).length):=by kernel_rfl)(hl:(l.all aR.ok)=true:=by kernel_rfl)(h:∀ w,nA (fO (P:=prog) fn 100 (eP 0 l) (js 0 l) (jG 0 l) (rs w)) []=nB (fO fn 100 (eP 0 l) (js 0 l) (jG 0 l) (rs w)) v []:=by intro _;kernel_rfl)(hv:flat v=true:=by kernel_rfl):cy prog f l v:=gz mixed hf hl 100 hN rs h hv
theorem aLy(a b c:Int):cy prog 159 [.r 3 [.int .i64 a,.int .i64 b,.int .i64 c]] (.int .i64 (OV a b c)):=by
 have bl:∀ z:Int,z≠0->(Value.bool (!(z==0)))=.bool true:=λz h=>by congr 1;simpa using h
 unfold OV;by_cases ha:a=0
 ·rw[ao (λh=>h ha)];subst ha;by_cases hb:b=0
  ·rw[ao (λh=>h hb)];subst hb;by_cases hc:c=0
   ·subst hc;exact Fz func159 18 (λ_=>[])
   ·exact Fz func159 18 (λ_=>[.rw 14 (.bool (!((0:Int)==0))) (.bool false) rfl,.rw 14 (.bool (!((0:Int)==0))) (.bool false) rfl,.rw 14 _ _ (bl c hc)])
  ·rw[aw hb];exact Fz func159 18 (λ_=>[.rw 14 (.bool (!((0:Int)==0))) (.bool false) rfl,.rw 14 _ _ (bl b hb)])
 ·rw[aw ha];exact Fz func159 18 (λ_=>[.rw 14 _ _ (bl a ha)])
theorem aB3(u v:V3 K):OV (OF.az (u.x-v.x)) (OF.az (u.y-v.y)) (OF.az (u.z-v.z))=dY u v:=rfl
theorem UF{u v:V3 K}{m n:Nat}(hu:aD m u)(hv:aD n v)(cS:4*(m+n)+24<=aB):aE prog 117 [bB u,bB v] (.int .i64 (dY u v)):=by rw[<-aB3];refine aP func117 (λ_=>[(jI hu o_).at 6,(jI hv o_).at 10,(ml hu.1 hv.1 cS).at 17,(ml hu.2.1 hv.2.1 cS).at 22,(ml hu.2.2 hv.2.2 cS).at 27,.bs f117 28 2 3 3 1 [0,1,2] (.int .i64 0) [.int .i64 (OF.az (u.x-v.x)),.int .i64 (OF.az (u.y-v.y)),.int .i64 (OF.az (u.z-v.z))] #[.int .i64 (OF.az (u.x-v.x)),.int .i64 (OF.az (u.y-v.y)),.int .i64 (OF.az (u.z-v.z))] (.row [.int .i64 (OF.az (u.x-v.x)),.int .i64 (OF.az (u.y-v.y)),.int .i64 (OF.az (u.z-v.z))] 3 1) rfl (bh.1 k_) (bh.1 k_) k_ k_ d_ d_ k_,.step 29 (av f117 29) _ _ _ _ (dz (aLy _ _ _) (.w (k:=2) (cc:=0) (x:=.row [.int .i64 (OF.az (u.x-v.x)),.int .i64 (OF.az (u.y-v.y)),.int .i64 (OF.az (u.z-v.z))] 3 1) k_ k_ n_ .nil) (x:=.func 159) k_ k_ k_)])
def cH(p:HS K):RP:=⟨cD p.n,dU p.d⟩
def cC(p:HS K):Value:=(cH p).v
theorem OW{p q:HS K}(h:cH p=cH q):p=q:=HS.ext (OU (cI RP.n h)) (Kj (cI RP.d h))
def bt(n:Nat)(p:HS K):Prop:=aD n p.n/\Sz n p.d
theorem bt.mono{m n:Nat}(h:m<=n){p:HS K}(hp:bt m p):bt n p:=⟨hp.1.mono h,hp.2.mono h⟩
theorem bt.sm{n:Nat}{p:HS K}(h:bt n p)(hn:n<=aB):(cH p).Sm:=⟨h.1.sm hn,C4 h.2 hn⟩
instance:DecidableEq (HS K):=λp q=>decidable_of_iff (p.n=q.n/\p.d=q.d) ⟨λh=>HS.ext h.1 h.2,λh=>by subst h;exact⟨rfl,rfl⟩⟩
theorem xB{p:HS K}{n:Nat}(hp:bt n p)(hn:n<=aB):aE prog 39 [cC p] (.bool (decide (p.n≠0))):=by
 by_cases h:p.n=0
 ·rw[aN (λe=>e h)];have hz:=Dj hp.1 hn;rw[aC h]at hz;exact aP func39 (λ_=>[(jI hp.1 hn).at 5,hz.at 9])
 ·rw[aC h];have hz:=Dj hp.1 hn;rw[aN h]at hz;exact aP func39 (λ_=>[(jI hp.1 hn).at 5,hz.at 9,(kJ hp.2 hn).at 15])
theorem zy{p:HS K}{v:V3 K}{m n:Nat}(hp:bt m p)(hv:aD n v)(cS:4*(3*(m+n)+14+m)+30<=aB)(h:p.n≠0):aE prog 77 [cC p,bB v] (.int .i64 (OF.az (dot p.n v-p.d))):=by have h1:=xB hp o_;rw[aC h]at h1;exact aP func77 (λ_=>[h1.at 6,(jI hv o_).at 10,(uV hp.1 hv o_).at 16,(ml (hp.1.dot hv) hp.2 o_).at 19])
theorem aLz{x y:K}{m n:Nat}(h:y≠0)(hx:Sz m x)(hy:Sz n y)(cS:m+7*n+40<=aB):aE prog 197 [bZ x,bZ y] (bZ (x*y⁻¹)):=
 aP func197 (λ_=>[(HF h hx hy cS).at 10])
theorem Sz.iK{x:K}{n:Nat}(h:Sz n x):Sz n (iK x):=by
 unfold _root_.Go.Proofs.YtjjefbkbljlgdaaGreatDoor.iK;split
 ·exact h.neg
 ·exact h
theorem OX{x:K}(h:x≠0):iK x≠0:=by
 unfold iK;split
 ·intro e;apply h;have:=cI (λz:K=>-z) e;rwa[CR.neg_neg,CR.neg_zero]at this
 ·exact h
def mr(x:K):K:=kI 1*(iK x)⁻¹
def Dk(p:HS K)(x:K):HS K:=⟨smul p.n (mr x),p.d*mr x⟩
def pY(v:V3 K):K:=if v.x≠0 then v.x else if v.y≠0 then v.y else v.z
def canon(p:HS K):HS K:=Dk p (pY p.n)
theorem OY{v:V3 K}(h:v≠0):pY v≠0:=by
 unfold pY;by_cases hx:v.x=0
 ·rw[ao (λe=>e hx)];by_cases hy:v.y=0
  ·rw[ao (λe=>e hy)];exact λhz=>h (V3.ext hx hy hz)
  ·rw[aw hy];exact hy
 ·rw[aw hx];exact hx
theorem Sz.mr{x:K}{n:Nat}(hx:x≠0)(h:Sz n x):Sz (7*n+29) (mr x):=(Sz.div (m:=1) (OX hx) (qE d_ d_) h.iK).mono o_
theorem bt.Dk{p:HS K}{n:Nat}(hp:bt n p){x:K}(hx:x≠0)(h:Sz n x):bt (8*n+33) (Dk p x):=⟨(hp.1.smul (h.mr hx)).mono o_,(hp.2.mul (h.mr hx)).mono o_⟩
theorem aLA{v:V3 K}{n:Nat}(h:aD n v):Sz n (pY v):=by
 unfold pY;split
 ·exact h.1
 ·split
  ·exact h.2.1
  ·exact h.2.2
theorem bt.canon{p:HS K}{n:Nat}(hp:bt n p)(h:p.n≠0):bt (8*n+33) (canon p):=hp.Dk (OY h) (aLA hp.1)
theorem aLB{B:aa}{o:Oper}{x:Operand}{k:Nat}(r:RV)(ho:dw o.op=some x):cB prog B o (.func (.func 196) #[] #[]::[r.v]) [(k,none)] (.func (.func 218) #[] #[.pointer (some ⟨k,0,some 7⟩)]) [(k,.aI r.cs 33)]:=
 aBj mixed func196 ho k_ 50 (λ_=>[]) (λ_=>k_) k_ k_
def zI:RI:=⟨false,[]⟩
def zN:RN:=⟨zI,zI,zI,zI,zI⟩
def zV:RV:=⟨zN,zN,zN⟩
def zP:RP:=⟨zV,zN⟩
def uW(r q:RP):aH:=[(0,.aI r.cs 35),(1,.aI q.cs 35),(2,.aI [.int .i64 0] 41),(3,.aI r.n.cs 33)]
def HR:aW:=[(1,bX 0),(2,bX 1),(3,bX 2),(12,.func (.func 218) #[] #[bX 3])]
theorem aLC{B:aa}(r:RP):ag prog B 31 (Kr f164 0) (jA 0 [r.v]) [] 0 ⟨.normal,[(1,bX 0),(2,bX 1),(3,bX 2)],[(0,.aI r.cs 35),(1,.aI zP.cs 35),(2,.aI [.int .i64 0] 41)],3⟩:=
 fj mixed 10 [] k_
def aLD:Code->Code|.seq _ y=>(match y with|.seq x _=>x|c=>c)|c=>c
def aLE(fn:Func):Code:=match fn.body with|some c=>c|none=>.skip
theorem aLF{B:aa}(r:RP)(hv:aE prog 39 [r.v] (.bool true)):ag prog B 31 (aLD (aLE f164)) [(1,bX 0),(2,bX 1),(3,bX 2)] [(0,.aI r.cs 35),(1,.aI zP.cs 35),(2,.aI [.int .i64 0] 41)] 3
  ⟨.normal,[(1,bX 0),(2,bX 1),(3,bX 2)],[(0,.aI r.cs 35),(1,.aI zP.cs 35),(2,.aI [.int .i64 0] 41)],3⟩:=
 fj mixed 10 [hv.at 7] k_
theorem aLG{B:aa}(r:RP):ag prog B 31 (Kr f164 3) [(1,bX 0),(2,bX 1),(3,bX 2)] [(0,.aI r.cs 35),(1,.aI zP.cs 35),(2,.aI [.int .i64 0] 41)] 3 ⟨.normal,HR,uW r zP,4⟩:=
 fj mixed 10 [.step 12 (av f164 12) _ _ _ _ (aLB (k:=3) (x:=.func 196) r.n k_)] k_
theorem UG{p:HS K}{n:Nat}(hp:bt n p){x:K}(hx:Sz n x)(hn:16*n+80<=aB):
  Oi prog 4 31 #[13] (HK (vM f164)) (HL (vM f164)) HR (uW (cH p) zP) [] (uW (cH p) (if x=0 then zP else cH (Dk p x))) [bZ x] (if x=0 then none else some .ret):=by
 have hs:=nJ hx o_;by_cases h:x=0
 ·rw[aw h,aw h];have e:OF.az x=0:=(OF.e8 x).2 h;rw[e]at hs
  exact Oq (rA:=⟨.normal,(4,bX 5)::HR,(5,.aI (dU x).cs 31)::uW (cH p) zP,6⟩) (rB:=⟨.normal,[],uW (cH p) zP,6⟩) k_ k_ k_ k_ k_ k_ k_ k_ rfl (λB=>fj mixed 10 [] k_) rfl k_ rfl
   (λB=>fj mixed 10 [hs.at 15,.rw 16 (.bool (!((0:Int)==0))) (.bool false) rfl] k_) (λk x h=>h) rfl
 ·rw[ao h,ao h];have e:OF.az x≠0:=λe=>h ((OF.e8 x).1 e)
  exact Oq (rA:=⟨.normal,(4,bX 5)::HR,(5,.aI (dU x).cs 31)::uW (cH p) zP,6⟩) (rB:=⟨.ret,[],uW (cH p) (cH (Dk p x)),7⟩) k_ k_ k_ k_ k_ k_ k_ k_ rfl (λB=>fj mixed 10 [] k_) rfl k_ rfl
   (λB=>fj mixed 10 [hs.at 15,.rw 16 (.bool (!(OF.az x==0))) (.bool true) (by congr 1;simpa using e),(rX (z:=1) d_).at 17,(TX hx o_).at 19,(aLz (OX h) (qE (z:=1) (n:=1) d_ d_) hx.iK o_).at 20,(tE hp.1 (hx.mr h) o_).at 24,(oN hp.2 (hx.mr h) o_).at 28] k_) (λk x h=>h) rfl
theorem aLH{p:HS K}{n:Nat}(hp:bt n p)(hn:16*n+80<=aB)(aU:p.n≠0){T:Array Value}{m:Map}{S:Nat->Prop}(kp:Oo prog 4 31 HR (uW (cH p) zP) m S T)
  {fo:FuncId} {l D:Nat} {W1 W:World} {κ:Map} {c:Nat->Option Obj} {eZ:aj} (hm:aQ (pk W1 l S m) κ c W) (ha:cT c ((4,.fact (fm l (jS fo T #[13] (HK (vM f164)) (HL (vM f164)) D)))::(uW (cH p) zP++[]))) (hu:eG c (4+1)) (gS:bK (aG κ) [bX 3] eZ) :
  Calls prog 218 (.func (.yield l) #[] #[]::eZ).toArray W λe W'=>∃ v tA c',e=.returned v/\Map.le κ tA/\aQ (pk W1 l S m) tA c' W'/\
   cT c' ((4,.fact (fm l (C8 (jS fo T #[13] (HK (vM f164)) (HL (vM f164)) D) (some .ret))))::(uW (cH p) (cH (canon p))++[]))/\∀ k,k<4->c k=none->c' k=none:=by
 have st:=λ(o:Oper) (ho:dw o.op=some (.tmp 3)) (x:K) (hx:Sz n x)=>Oj (W1:=W1) (l:=l) (D:=D) (fo:=fo) (x:=.tmp 3) (o:=o) (UG hp hx hn) ho kp.size kp.jA kp.low kp.set kp.born
 have st2:=λ(o:Oper) (ho:dw o.op=some (.tmp 8)) (x:K) (hx:Sz n x)=>Oj (W1:=W1) (l:=l) (D:=D) (fo:=fo) (x:=.tmp 8) (o:=o) (UG hp hx hn) ho kp.size kp.jA kp.low kp.set kp.born
 have st3:=λ(o:Oper) (ho:dw o.op=some (.tmp 14)) (x:K) (hx:Sz n x)=>Oj (W1:=W1) (l:=l) (D:=D) (fo:=fo) (x:=.tmp 14) (o:=o) (UG hp hx hn) ho kp.size kp.jA kp.low kp.set kp.born
 have s1:=st (av f218 6) k_ p.n.x hp.1.1;have s2:=st2 (av f218 11) k_ p.n.y hp.1.2.1;have s3:=st3 (av f218 17) k_ p.n.z hp.1.2.2;have hc:canon p=Dk p (pY p.n):=rfl;unfold pY at hc;by_cases hx:p.n.x=0
 ·rw[ao (λe=>e hx)]at hc;rw[aw hx,aw hx]at s1;by_cases hy:p.n.y=0
  ·rw[ao (λe=>e hy)]at hc;rw[aw hy,aw hy]at s2;have hz:p.n.z≠0:=λhz=>aU (V3.ext hx hy hz);rw[ao hz,ao hz,<-hc]at s3;exact Fm mixed func218 rfl 100 (v:=.tuple #[]) (rs:=[.step 6 _ _ _ _ _ s1,.step 11 _ _ _ _ _ s2,.step 17 _ _ _ _ _ s3]) hm ha hu gS k_
  ·rw[aw hy]at hc;rw[ao hy,ao hy,<-hc]at s2;exact Fm mixed func218 rfl 100 (v:=.tuple #[]) (rs:=[.step 6 _ _ _ _ _ s1,.step 11 _ _ _ _ _ s2]) hm ha hu gS k_
 ·rw[aw hx]at hc;rw[ao hx,ao hx,<-hc]at s1;exact Fm mixed func218 rfl 100 (v:=.tuple #[]) (rs:=[.step 6 _ _ _ _ _ s1]) hm ha hu gS k_
theorem KJ{p:HS K}{n:Nat}(hp:bt n p)(hn:16*n+80<=aB)(aU:p.n≠0):aE prog 164 [cC p] (.tuple #[cC (canon p),.int .i64 0]):=by
 have hv:=xB hp o_;rw[aC aU]at hv;refine aBi (N:=31) func164 rfl rfl k_ λw a hf hm=>?_;refine lB (aLC (cH p) none _ _ a w _ hf hm n_ (λ_ _=>rfl) λuD cc0 a0 w0 aKy Er kz oC CI Db _=>?_);refine lB (aLF (cH p) hv none _ _ a0 w0 _ Er kz oC CI λbO gk a1 w1 jq iH cX eC dP hY _=>?_);refine lB (lB (aLG (cH p) none _ _ a1 w1 _ iH cX eC dP λdG ry a2 w2 kV jl dB gZ fv fE _=>Jm ?_))
 refine aA7 (next:=4) (Os:=uW (cH p) zP) (Vs:=[]) (cq:=uW (cH p) (cH (canon p))) (gf:=218) (ca:=[bX 3]) (j:=some .ret) jl dB gZ fv (λk x h=>nK (p:=λp=>p.2.owns) k_ h) n_ k_ k_ k_ (Fk rfl) (λk x h=>nK (p:=λp=>p.2.owns) k_ h) (λk x h=>Da (nK (p:=om 4) k_ h))
  (λfo l D W1 S kp κ c W eZ hm ha hu gS=>aLH hp hn aU kp hm ha hu gS) λD bY w' HJ hDw hf3 yq Fh hu3=>?_
 refine Jn (aBh (B:=aa.at w) (fr:=HR) (M:=uW (cH p) (cH (canon p))++[]) (v:=.tuple #[cC (canon p),.int .i64 0]) k_ hf3 yq Fh rfl (λF h=>h) HJ λau v' w' hc hG=>⟨?_,hG⟩);rw[hc.eU rfl]
theorem UH{p q:HS K}{m n:Nat}(hp:bt m p)(hq:bt n q)(hm:16*m+80<=aB)(hn:16*n+80<=aB)(fT:p.n≠0)(zz:q.n≠0):aE prog 124 [cC p,cC q] (.bool (decide (canon p=canon q))):=
 aP func124 (λ_=>[(KJ hp hm fT).at 11,(KJ hq hn zz).at 16,.step 28 (av f124 28) _ _ _ _ (TI (neg:=true) k_ (cH (canon p)) (cH (canon q)) ((hp.canon fT).sm o_) ((hq.canon zz).sm o_) (b:=decide (canon p=canon q)) (by rw[aw rfl,BL];exact⟨λh=>by rw[h],λh=>OW h⟩))])
end
def aa.KK(w0:World)(S:Nat->Prop):aa where
 G w:=sT w0 w/\w.tape=w0.tape/\w.output=w0.output/\w0.heap.size<=w.heap.size/\∀ k,k<w0.heap.size->¬S k->w.heap[k]?=w0.heap[k]?
 cO k:=k<w0.heap.size/\¬S k
 lt w k h hk:=cv hk.1 h.2.2.2.1
 dep w w' h h1 h2 h3 h4 h5:=⟨h1.trans h.1,h2.trans h.2.1,h3.trans h.2.2.1,de h.2.2.2.1 h4,λk hk hS=>(h5 k ⟨hk,hS⟩).trans (h.2.2.2.2 k hk hS)⟩
section
variable{P:Program}{B:aa}{w w4:World}{K:Nat}{S:Nat->Prop}{ι:Map}{c:Nat->Option Obj}
theorem aLI(h:aQ B ι c w){Os cq:aH}(hO:cT c Os)(dL:∀ k x,ah Os k=some x->x.owns=true)(qH:∀ k x,ah cq k=some x->x.owns=true)
  (jO:∀ k,ah cq k=none↔ah Os k=none) (hS:∀ b,S b->∃ k x o cap,ah Os k=some x/\ι k=some (.at b o cap)) (jz:∀ k x,ah cq k=some x->fN K x)
  {au:Map} {c':Nat->Option Obj} (hm:aQ (aa.KK w S) au c' w4) (rY:cT c' cq) (dp:∀ k,k<K->∀ lc,au k=some lc->ι k=some lc)
  (mG:∀ k x,ah cq k=some x->k<K):aQ B ι (lp c cq) w4:=by
 have bH:w.heap.size<=w4.heap.size:=hm.base.2.2.2.1;have aI:∀ b,b<w.heap.size->¬S b->w4.heap[b]?=w.heap[b]?:=hm.base.2.2.2.2;have KL:∀ b,S b->¬B.cO b:=λb hb=>by obtain⟨k,x,o,cap,e1,e2⟩:=hS b hb;exact(h.own k x b o cap (hO k x e1) (dL k x e1) e2).2
 have kinds:∀ k x,lp c cq k=some x->(ah cq k=some x/\c' k=some x/\x.owns=true)\/(ah Os k=none/\c k=some x):=λk x e=>by
  rw[vn]at e;cases ho:ah cq k with
  |some y=>rw[ho]at e;injection e with e;subst e;exact .inl ⟨rfl,rY k y ho,qH k y ho⟩
  |none=>rw[ho]at e;exact .inr ⟨(jO k).1 ho,e⟩
 have same:∀ k x,ah cq k=some x->au k=ι k:=λk x e=>by obtain⟨lc,q,_⟩:=hm.born k x (rY k x e);rw[q,dp k (mG k x e) lc q]
 have C6:∀ k x b o cap,ah Os k=none->c k=some x->x.owns=true->ι k=some (.at b o cap)->¬S b:=λk x b o cap hn hc hx hl hs=>by obtain⟨k',x',o',aT,e1,e2⟩:=hS b hs;have:=h.inj k k' x x' b o cap o' aT hc hx (hO k' x' e1) (dL k' x' e1) hl e2;subst this;rw[hn]at e1;cases e1
 have C7:∀ k x b o cap,c k=some x->x.gh=true->ι k=some (.at b o cap)->¬S b:=λk x b o cap hc hx hl hs=>by obtain⟨k',x',o',aT,e1,e2⟩:=hS b hs;exact(h.seen k x b o cap hc hx hl).2 k' x' o' aT (hO k' x' e1) (dL k' x' e1) e2
 have xt:∀ k F v b,c k=some (.fact F)->ι k=some (.val v)->F.cO v w b->¬S b:=λk F v b hc hl hF hs=>by obtain⟨k',x',o',aT,e1,e2⟩:=hS b hs;exact h.apart k' k x' F b o' aT v (hO k' x' e1) (dL k' x' e1) e2 hc hl hF
 have part:∀ k x b o cap j y o' aT,ah cq k=some x->ι k=some (.at b o cap)->ah Os j=none->c j=some y->y.owns=true->ι j=some (.at b o' aT)->False:=λk x b o cap j y o' aT hk hl hj hc hy ch=>by
  rcases eF b w.heap.size with ak|dR
  ·have q:=(hm.own k x b o cap (rY k x hk) (qH k x hk) (by rw[same k x hk];exact hl)).2;exact q ⟨ak,C6 j y b o' aT hj hc hy ch⟩
  ·have:=(h.own j y b o' aT hc hy ch).1;omega
 refine⟨B.dep w w4 h.base hm.base.1 hm.base.2.1 hm.base.2.2.1 bH λk hk=>aI k (B.lt w k h.base hk) λhs=>KL k hs hk,?_,?_,?_,?_,?_,?_,?_,?_,h.oz⟩
 ·intro k hk;rw[vn]at hk;cases ho:ah cq k with
  |some y=>rw[ho]at hk;cases hk
  |none=>rw[ho]at hk;exact h.dr k hk
 ·intro k x hk;rcases kinds k x hk with ⟨h1,h2,h3⟩|⟨h1,h2⟩
  ·obtain⟨lc,q1,q2⟩:=hm.born k x h2;exact⟨lc,by rw[<-same k x h1];exact q1,q2.below dp (jz k x h1)⟩
  ·obtain⟨lc,q1,q2⟩:=h.born k x h2;refine⟨lc,q1,q2.gB bH (λb o cap hx e=>?_) λF v b e1 e2 hF=>?_⟩
   ·subst e;rcases hx with hx|hx
    ·exact aI b (h.own k x b o cap h2 hx q1).1 (C6 k x b o cap h1 h2 hx q1)
    ·exact aI b (h.seen k x b o cap h2 hx q1).1 (C7 k x b o cap h2 hx q1)
   ·subst e1;subst e2;exact aI b (q2.wD rfl hF) (xt k F v b h2 q1 hF)
 ·intro k x b o cap hk hx hl;rcases kinds k x hk with ⟨h1,h2,h3⟩|⟨h1,h2⟩
  ·have ch:au k=some (.at b o cap):=by rw[same k x h1];exact hl
   obtain⟨q1,q2⟩:=hm.own k x b o cap h2 hx ch;refine⟨q1,λhF=>?_⟩;have fJ:=B.lt w b h.base hF;exact q2 ⟨fJ,λhs=>KL b hs hF⟩
  ·obtain⟨q1,q2⟩:=h.own k x b o cap h2 hx hl;exact⟨cv q1 bH,q2⟩
 ·intro k j x y b o cap o' aT hk hx hj hy hl ch;rcases kinds k x hk with ⟨h1,h2,h3⟩|⟨h1,h2⟩
  ·rcases kinds j y hj with ⟨p1,p2,p3⟩|⟨p1,p2⟩
   ·exact hm.inj k j x y b o cap o' aT h2 hx p2 hy (by rw[same k x h1];exact hl) (by rw[same j y p1];exact ch)
   ·exact(part k x b o cap j y o' aT h1 hl p1 p2 hy ch).elim
  ·rcases kinds j y hj with ⟨p1,p2,p3⟩|⟨p1,p2⟩
   ·exact(part j y b o' aT k x o cap p1 ch h1 h2 hx hl).elim
   ·exact h.inj k j x y b o cap o' aT h2 hx p2 hy hl ch
 ·intro k j x F b o cap v hk hx hl hj hv hF;rcases kinds j _ hj with ⟨_,_,p3⟩|⟨p1,p2⟩
  ·cases p3
  have hF:=h.B9 p2 hv bH (λk2 fE jl=>aI k2 fE (xt j F v k2 p2 hv jl)) hF;rcases kinds k x hk with ⟨h1,h2,h3⟩|⟨h1,h2⟩
  ·have ch:au k=some (.at b o cap):=by rw[same k x h1];exact hl
   have hb:b<w.heap.size:=by obtain⟨lc,q1,q2⟩:=h.born j _ p2;rw[hv]at q1;injection q1 with q1;subst q1;exact q2.wD rfl hF
   exact(hm.own k x b o cap h2 hx ch).2 ⟨hb,xt j F v b p2 hv hF⟩
  ·exact h.apart k j x F b o cap v h2 hx hl p2 hv hF
 ·intro k x b o cap hk hx hl;rcases kinds k x hk with ⟨h1,h2,h3⟩|⟨h1,h2⟩
  ·cases x<;>simp[Obj.owns,Obj.gh]at h3 hx
  ·obtain⟨q1,q2⟩:=h.seen k x b o cap h2 hx hl;refine⟨cv q1 bH,λj y o' aT hj hy ch=>?_⟩;rcases kinds j y hj with ⟨p1,p2,p3⟩|⟨p1,p2⟩
   ·have jv:au j=some (.at b o' aT):=by rw[same j y p1];exact ch
    exact(hm.own j y b o' aT p2 hy jv).2 ⟨q1,C7 k x b o cap h2 hx hl⟩
   ·exact q2 j y o' aT p2 hy ch
 ·intro j F hj;rcases kinds j _ hj with ⟨_,_,h3⟩|⟨h1,h2⟩
  ·cases h3
  ·exact h.fa j F h2
 ·intro j k F F' hj hk;rcases kinds j _ hj with ⟨_,_,h3⟩|⟨_,h2⟩
  ·cases h3
  rcases kinds k _ hk with ⟨_,_,h3⟩|⟨_,vE⟩
  ·cases h3
  exact h.one j k F F' h2 vE
def xC(P:Program)(f:FuncId)(K:Nat)(args:aj)(Os Vs:aH)(val:Value)(cq:aH):Prop:=
 ∀ B:aa,B.ds=[]->∀(ι:Map) (c:Nat->Option Obj) (w:World) (args':aj),aQ B ι c w->cT c (Os++Vs)->eG c K->bK (aG ι) args args'->
  Calls P f args'.toArray w λe w'=>∃ v' au c',e=.returned v'/\Map.le ι au/\aG au val v'/\aQ B au c' w'/\cT c' cq/\∀ k,k<K->ah (Os++Vs) k=none->c' k=c k
theorem oq{f:FuncId}{fn:Func}{args:aj}{Os Vs cq:aH}{val:Value}(gn:P.follows .mixedOrders=true)(hf:P.funcs[f]?=some fn)(n:Nat){N:Nat}(hN:N=args.length+(fn.ntmps-args.length))(rs:∀ B,bA P B N)
  (h:∀ B,nA (fO (P:=P) fn n args (Os++Vs) K (rs B)) cq=nB (fO fn n args (Os++Vs) K (rs B)) val cq):xC P f K args Os Vs val cq:=by
 intro B mH ι c w args' hm ha hu df;exact RU gn hf hN n (h B) df hm ha hu (λau bY v' w' hle hc bo dy hk=>⟨v',au,bY,rfl,hle,hc,bo,λk x e=>dy (k,x) (j0 e),hk⟩) mH
theorem aB4(hm:aQ B ι c w){Os Vs:aH}(hL:cT c (Os++Vs))(dp:∀ k x,ah (Os++Vs) k=some x->k<K/\fN K x)(dL:∀ k x,ah Os k=some x->x.owns=true)(oZ:∀ k x,ah Vs k=some x->x.gh=true):
  ∃ S:Nat->Prop,(∀ b,S b->∃ k x o cap,ah Os k=some x/\ι k=some (.at b o cap))/\aQ (aa.KK w S) (vK ι K) (oO c K (Os++Vs)) w/\cT (oO c K (Os++Vs)) (Os++Vs)/\eG (oO c K (Os++Vs)) K:=by
 refine⟨λb=>∃ k x o cap,ah Os k=some x/\ι k=some (.at b o cap),λb h=>h,?_,λk x e=>?_,λk hk=>by unfold oO;rw[ao o_]⟩
 ·refine Oe (L:=Os++Vs) hm hL (λk x e=>xq (dp k x e).1) (λk x lc e _ ho=>ho.below (λk hk l e=>by rw[xq hk];exact e) (dp k x e).2) ⟨.refl _,rfl,rfl,bj _,λ_ _ _=>rfl⟩ (λk x b o cap e hx hl hF=>?_) (bj _) (λk e=>?_) (λk x e=>?_) (λk F e=>?_) (λ_ _ _ _ _ _ h=>h) n_
  ·refine hF.2 ⟨k,x,o,cap,?_,hl⟩;rw[gK]at e;cases e1:ah Os k with
   |some y=>rw[e1]at e;exact e
   |none=>
    rw[e1]at e;have:=oZ k x e;cases x<;>simp[Obj.owns,Obj.gh]at hx this
  ·unfold oO at e;unfold vK;split at e
   ·rename_i hk;rw[aw hk];split at e
    ·cases e
    ·cases hc:c k with
     |none=>exact hm.dr k hc
     |some x=>rw[hc]at e;cases e
   ·rename_i hk;rw[ao hk]
  ·unfold oO at e;split at e
   ·rename_i hk;split at e
    ·rename_i y hy;injection e with e;subst e;exact .inl hy
    ·cases hc:c k with
     |none=>rw[hc]at e;cases e
     |some y=>
      rw[hc]at e;injection e with e;obtain⟨lc,q,_⟩:=hm.born k y hc;exact .inr ⟨e.symm,lc,by rw[xq hk];exact q⟩
   ·cases e
  ·rw[gK]at e;cases e1:ah Os k with
   |some y=>rw[e1]at e;injection e with e;subst e;have:=dL k _ e1;cases this
   |none=>rw[e1]at e;have:=oZ k _ e;cases this
 ·unfold oO;rw[aw (dp k x e).1,e]
theorem aB5(hm:aQ B ι c w){L:aH}(hL:cT c L){B':aa}{au:Map}{c':Nat->Option Obj}(bo:aQ B' au c' w4)(hle:Map.le (vK ι K) au)(gD:∀ k,k<K->ah L k=none->c' k=oO c K L k):
  ∀ k,k<K->∀ lc,au k=some lc->ι k=some lc:=λk hk lc e=>by
 cases qk:ι k with
 |some zg=>
  have:=hle k zg (by rw[xq hk];exact qk);rw[e]at this;exact this.symm
 |none=>
  exfalso;have hc:c k=none:=by
   cases hc:c k with
   |none=>rfl
   |some y=>obtain⟨zg,q,_⟩:=hm.born k y hc;rw[qk]at q;cases q
  have vt:ah L k=none:=by
   cases e1:ah L k with
   |none=>rfl
   |some y=>rw[hL k y e1]at hc;cases hc
  have q1:c' k=none:=by rw[gD k hk vt];unfold oO;rw[aw hk,vt,hc];rfl
  rw[bo.dr k q1]at e;cases e
theorem OZ{f:FuncId}{o:Oper}{x:Operand}{args ca:aj}{Os Vs cq:aH}{val:Value}(h:xC P f K (args++ca) Os Vs val cq)(ho:dw o.op=some x)(eK:gi P f=true)(kE:nw K val=true)
  (df:(args++ca).all (nw K)=true) (dp:((Os++Vs).all λp=>Nat.blt p.1 K&&om K p)=true) (Fl:(cq.all (om K))=true) (dL:(Os.all λp=>p.2.owns)=true) (qH:(cq.all λp=>p.2.owns)=true) (oZ:(Vs.all λp=>p.2.gh)=true) (jO:cq.map (·.1)=Os.map (·.1)) :
  cB P B o (.func (.func f) #[] ca.toArray::args) ((Os++Vs).map λp=>(p.1,some p.2)) val cq:=by
 have:=jB (P:=P) (B:=B) (o:=o) (x:=x) (f:=f) (fi:=[]) (args:=args) (ca:=ca) (need:=(Os++Vs).map λp=>(p.1,some p.2)) (val:=val) (cR:=cq) ho eK ?_
 ·simpa using this
 ·intro ι c w hm hn args' ha;rw[jo]at ha;have hL:cT c (Os++Vs):=Oh hn;have KM:∀ k x,ah (Os++Vs) k=some x->k<K/\fN K x:=λk x e=>by have:=nK dp e;simp only[da,AK]at this;exact⟨this.1,Da this.2⟩
  obtain⟨S,hS,Kn,Ko,uN⟩:=aB4 hm hL KM (λk x e=>nK dL e) (λk x e=>nK oZ e);have b9:bK (aG (vK ι K)) (args++ca) args':=by
   have key:∀{l l':aj},bK (aG ι) l l'->(∀ v∈l,nw K v=true)->bK (aG (vK ι K)) l l':=by
    intro l l' h hl;induction h with
    |nil=>exact .nil
    |cons h t ih=>exact .cons (h.low (λk hk l e=>by rw[xq hk];exact e) (hl _ (aV ..))) (ih λc hc=>hl c (bF _ hc))
   exact key ha (bh.1 df)
  refine(h (aa.KK w S) rfl _ _ w args' Kn Ko uN b9).mono ?_
  rintro e w' ⟨v',au,c',rfl,hle,hc,bo,rY,gD⟩
  have Fi:=aB5 hm hL bo hle gD;refine⟨ι,v',rfl,Map.le.refl _,?_,aLI hm (λk x e=>hL k x (by rw[gK,e])) (λk x e=>nK dL e) (λk x e=>nK qH e) (Fk jO) hS (λk x e=>Da (nK Fl e)) bo rY Fi λk x e=>?_⟩
  ·exact hc.low Fi kE
  ·cases e1:ah Os k with
   |none=>rw[(Fk jO k).2 e1]at e;cases e
   |some y=>exact(KM k y (by rw[gK,e1])).1
theorem aB6{f:FuncId}{o:Oper}{x:Operand}{args ca:aj}{Os Vs:aH}{val:Value}(h:xC P f K (args++ca) Os Vs val Os)(ho:dw o.op=some x)(eK:gi P f=true)(kE:nw K val=true)
  (df:(args++ca).all (nw K)=true) (dp:((Os++Vs).all λp=>Nat.blt p.1 K&&om K p)=true) (Fl:(Os.all (om K))=true) (dL:(Os.all λp=>p.2.owns)=true) (oZ:(Vs.all λp=>p.2.gh)=true) :
  cB P B o (.func (.func f) #[] ca.toArray::args) ((Os++Vs).map λp=>(p.1,some p.2)) val []:=by
 intro R ι c a w hv hm hn Kt Q hK;refine OZ h ho eK kE df dp Fl dL dL oZ rfl R ι c a w hv hm hn Kt Q λau v' w' h1 h2 h3=>hK au v' w' h1 h2 ?_;have hL:cT c (Os++Vs):=Oh hn;refine h3.ext λk=>?_;show c k=lp c Os k;rw[vn];cases e:ah Os k with
 |none=>rfl
 |some y=>exact hL k y (by rw[gK,e])
end
section
variable{α:Type}(enc:α->aj)
def dc(l:List α):aj:=l.flatMap enc
structure qJ(s:Nat):Prop where
 len:∀ x,(enc x).length=s
 flat:∀ x,∀ v∈enc x,flat v=true
 one:∀ x,∀ v∈enc x,v.oneCell'=true
variable{enc}{s:Nat}
theorem Dl(x:α)(l:List α):dc enc (x::l)=enc x++dc enc l:=rfl
theorem HT(l m:List α):dc enc (l++m)=dc enc l++dc enc m:=by unfold dc;rw[UI]
theorem tF(h:qJ enc s):∀ l:List α,(dc enc l).length=l.length*s
 |[]=>by simp[dc]
 |x::l=>by rw[Dl,iZ,h.len,tF h l,oA,yH,mI]
theorem KN(h:qJ enc s)(l:List α):∀ v∈dc enc l,Go.Proofs.YtjjefbkbljlgdaaGreatDoor.flat v=true:=λv hv=>by unfold dc at hv;rw[BM]at hv;obtain⟨x,_,hx⟩:=hv;exact h.flat x v hx
theorem gT(h:qJ enc s)(l:List α):(dc enc l).all Go.Proofs.YtjjefbkbljlgdaaGreatDoor.flat=true:=bh.2 (KN h l)
theorem UJ(h:qJ enc s):∀(l:List α) (m:Nat),(dc enc l).drop (m*s)=dc enc (l.drop m)
 |l,0=>by simp
 |[],m+1=>by simp[dc]
 |x::l,m+1=>by rw[Dl,yH,mI,<-M7,Rc (h.len x),UJ h l m,List.drop_succ_cons]
theorem UK(h:qJ enc s):∀(l:List α) (m:Nat),(dc enc l).take (m*s)=dc enc (l.take m)
 |l,0=>by simp[dc]
 |[],m+1=>by simp[dc]
 |x::l,m+1=>by rw[Dl,yH,mI,List.take_succ_cons,Dl,aB7,h.len,EN,UK h l m,ki (by rw[h.len];omega)]
theorem O0(h:qJ enc s){l:List α}{i:Nat}{x:α}(hx:l[i]?=some x):((dc enc l).drop (i*s)).take s=enc x:=by
 rw[UJ h];have ak:=(ew.1 hx).1;have e:l.drop i=x::l.drop (i+1):=by
  rw[O1 ak]
  congr 1
  exact(ew.1 hx).2
 rw[e,Dl,Rb (h.len x)]
theorem O2:∀(vs a b:aj) (o:Nat),iO (a++b) (a.length+o) vs=a++iO b o vs
 |[],a,b,o=>rfl
 |v::vs,a,b,o=>by unfold iO;rw[UL _ _ o_,EN,uk,O2 vs]
theorem UM:∀(vs a b:aj),a.length=vs.length->iO (a++b) 0 vs=vs++b
 |[],a,b,h=>by rw[lv h];rfl
 |v::vs,[],b,h=>by cases h
 |v::vs,u::a,b,h=>by unfold iO;rw[EO,List.set_cons_zero];have:=O2 vs [v] (a++b) 0;rw[zC]at this;rw[jY];have e:iO (v::(a++b)) 1 vs=v::iO (a++b) 0 vs:=this;rw[e,UM vs a b (by simpa using h)];rfl
theorem aB8(h:qJ enc s):∀{l:List α} {i:Nat} {y:α},i<l.length->iO (dc enc l) (i*s) (enc y)=dc enc (l.set i y)
 |x::l,0,y,_=>by rw[lC,Dl,UM _ _ _ (by rw[h.len,h.len])];rfl
 |x::l,i+1,y,hi=>by rw[yH,mI,Dl];have:=O2 (enc y) (enc x) (dc enc l) (i*s);rw[h.len]at this;rw[this,aB8 h (by simpa using hi),List.set_cons_succ,Dl]
variable{P:Program}
def HU(P:Program)(t:TypeId):Option Nat:=match P.underlying t,P.info? t with
 |some d,some i=>if d.isRow then some i.size else none
 |_,_=>none
theorem aB9(h:qJ enc s){t:TypeId}(ht:HU P t=some s){l:List α}{i:Nat}{x:α}(hx:l[i]?=some x):du P t (dc enc l) (i*s)=some (.agg (enc x).toArray):=by
 unfold HU at ht;split at ht
 ·rename_i d inf h1 h2;split at ht
  ·rename_i hr;injection ht with ht;unfold du;rw[h1,h2];dsimp only;have ak:=(ew.1 hx).1;have:(i+1)*s<=l.length*s:=e6 s ak;rw[yH]at this;rw[aw hr,ht,aw (by rw[Nat.ble_eq,tF h];exact this),O0 h hx]
  ·cases ht
 ·cases ht
theorem aLJ(h:qJ enc s){t:TypeId}(ht:HU P t=some s){l:List α}{i:Nat}{y:α}(hi:i<l.length):eW P t (dc enc l) (i*s) (.agg (enc y).toArray)=some (dc enc (l.set i y)):=by
 unfold HU at ht;split at ht
 ·rename_i d inf h1 h2;split at ht
  ·rename_i hr;injection ht with ht;unfold eW;rw[h2];dsimp only;have hc:(Value.agg (enc y).toArray).cells.toList=enc y:=rfl;have hs:(Value.agg (enc y).toArray).cells.size=s:=by show(enc y).toArray.size=s;rw[Mh,h.len]
   have:(i+1)*s<=l.length*s:=e6 s hi;rw[yH]at this;rw[aw (by simp only[da,Nat.ble_eq];refine⟨⟨by rw[hs,ht];simp,by rw[hs,tF h];exact this⟩,bh.2 λv hv=>h.one y v (by rwa[hc]at hv)⟩),hc,aB8 h hi]
  ·cases ht
 ·cases ht
end
section
open V3 (dot ax cL smul)
theorem ga:qJ RV.cs 30 where
 len r:=rfl
 flat r:=RV.nH r
 one r v hv:=by simp only[RV.cs,RN.cs,ee,cx,jg,jh]at hv;rcases hv with (h|h|h|h|h|h|h|h|h|h)|(h|h|h|h|h|h|h|h|h|h)|(h|h|h|h|h|h|h|h|h|h)<;>subst h<;>rfl
theorem iC:qJ RP.cs 40 where
 len r:=rfl
 flat r v hv:=by
  simp only[RP.cs,ee]at hv;rcases hv with h|h
  ·exact RV.nH _ v h
  ·exact RN.nH _ v h
 one r v hv:=by
  simp only[RP.cs,ee]at hv;rcases hv with h|h
  ·exact ga.one _ v h
  ·simp only[RN.cs,cx,jg,jh]at h;rcases h with (h|h|h|h|h|h|h|h|h|h)<;>subst h<;>rfl
abbrev db(l:List RP):aj:=dc RP.cs l
abbrev cF(l:List RV):aj:=dc RV.cs l
theorem vT{l:List RP}{i:Nat}{p:RP}(h:l[i]?=some p):du prog 35 (db l) (i*40)=some p.v:=aB9 iC k_ h
theorem r6{l:List RV}{i:Nat}{p:RV}(h:l[i]?=some p):du prog 33 (cF l) (i*30)=some p.v:=aB9 ga k_ h
def xD{α:Type}(b:α->Bool):List α->Nat->Int
 |[],_=>-1
 |x::l,i=>if b x then(i:Int)else xD b l (i+1)
theorem O3{α:Type}{b:α->Bool}:∀{l:List α} (i:Nat),(∀ x∈l,b x=false)->xD b l i=-1
 |[],_,_=>rfl
 |x::l,i,h=>by unfold xD;rw[h x (aV ..),O3 (i+1) λy hy=>h y (bF _ hy)];rfl
theorem O4{α:Type}{b:α->Bool}:∀{l:List α} {e:Nat} {x:α} (i:Nat),l[e]?=some x->b x=true->(∀(j:Nat) (y:α),j<e->l[j]?=some y->b y=false)->xD b l i=((i+e:Nat):Int)
 |[],e,x,i,h,_,_=>by simp at h
 |y::l,0,x,i,h,hx,_=>by simp at h;subst h;unfold xD;rw[hx];rfl
 |y::l,e+1,x,i,h,hx,hb=>by unfold xD;rw[hb 0 y o_ rfl,O4 (i+1) (by simpa using h) hx λj z hj hz=>hb (j+1) z o_ (by simpa using hz)];simp;omega
theorem FA{α:Type}(b:α->Bool):∀(l:List α),(∀ x∈l,b x=false)\/∃(e:Nat) (x:α),l[e]?=some x/\b x=true/\∀(j:Nat) (y:α),j<e->l[j]?=some y->b y=false
 |[]=>.inl n_
 |x::l=>by
  cases hx:b x with
  |true=>exact .inr ⟨0,x,rfl,hx,λj y hj=>by omega⟩
  |false=>
   rcases FA b l with h|⟨e,y,h1,h2,h3⟩
   ·refine .inl λy hy=>?_;rcases cx.1 hy with rfl|hy
    ·exact hx
    ·exact h y hy
   ·refine .inr ⟨e+1,y,by simpa using h1,h2,λj z hj hz=>?_⟩;cases j with
    |zero=>simp at hz;subst hz;exact hx
    |succ j=>exact h3 j z o_ (by simpa using hz)
theorem aCa{α:Type}{b:α->Bool}{l:List α}:decide (xD b l 0>=0)=l.any b:=by
 rcases FA b l with h|⟨e,x,h1,h2,h3⟩
 ·rw[O3 0 h];have:l.any b=false:=by rw[Jj];intro x hx;rw[h x hx];simp
  rw[this];rfl
 ·rw[O4 0 h1 h2 h3];have:l.any b=true:=sY.2 ⟨x,cQ h1,h2⟩;rw[this,BL];omega
section
variable{Bs:aa}{g:FuncId}{ps:List RP}{caps:aj}{b:RP->Bool}
def UN(g:FuncId):Value:=.func (.func g) #[] #[bX 1]
def zD(g:FuncId)(n i:Nat):aW:=[(8,vI i),(6,sl 0 n),(7,vI n),(0,sl 0 n),(1,UN g)]
def tG(ps:List RP)(caps:aj):aH:=[(0,.view (db ps)),(1,.view caps)]
noncomputable def ifS{i:Nat}{p:RP}{b:Bool}(hc:gi prog g=true)(jy:caps.all flat=true)(hi:i<ps.length)(hp:ps[i]?=some p)(h:cy prog g [.p p.v,.q caps] (.bool b))(more:bA prog Bs 19):bA prog Bs 19:=
 .lt 9 i ps.length true (aC hi)::.cY f111 14 0 ps.length i 40 hi k_::.ld f111 15 35 0 (i*40) (.view (db ps)) p.v rfl (vT hp) k_::
  .step 16 (av f111 16) [UN g,p.v] [(1,some (.view caps))] (.bool b) [] (aKA (vs:=[p.v]) (ca:=[bX 1]) (x:=.tmp 11) h (.p rfl (.q (x:=.view caps) rfl jy .nil)) k_ hc rfl)::more
theorem aLK{i:Nat}{p:RP}(hc:gi prog g=true)(jy:caps.all flat=true)(hi:i<ps.length)(hp:ps[i]?=some p)(h:cy prog g [.p p.v,.q caps] (.bool false))(h63:ps.length<9223372036854775807):
  ag prog Bs 19 (aF (af f111 0)) (zD g ps.length i) (tG ps caps) 2 ⟨.normal,zD g ps.length (i+1),tG ps caps,2⟩:=
 aA (ifS hc jy hi hp h [.sum 18 i 1 (i+1) rfl o_])
theorem aLL{i:Nat}{p:RP}(hc:gi prog g=true)(jy:caps.all flat=true)(hi:i<ps.length)(hp:ps[i]?=some p)(h:cy prog g [.p p.v,.q caps] (.bool true)):
  ag prog Bs 19 (aF (af f111 0)) (zD g ps.length i) (tG ps caps) 2 ⟨.ret,[(4,vI i)],tG ps caps,2⟩:=
 aA (ifS hc jy hi hp h [])
theorem aLM:ag prog Bs 19 (aF (af f111 0)) (zD g ps.length ps.length) (tG ps caps) 2 ⟨.exit 0,[],tG ps caps,2⟩:=
 aA [.lt 9 ps.length ps.length false s_]
theorem dW{f:FuncId}{fn:Func}{l:List aR}{v:Value}(hf:prog.funcs[f]?=some fn)(hl:(l.all aR.ok)=true)(N:Nat)(rs:∀ w,bA prog (aa.at w) N)(hN:N=(eP 0 l).length+(fn.ntmps-(eP 0 l).length):=by kernel_rfl)(h:∀ w,nA (fO (P:=prog) fn 100 (eP 0 l) (js 0 l) (jG 0 l) (rs w)) []=nB (fO fn 100 (eP 0 l) (js 0 l) (jG 0 l) (rs w)) v []:=by intro _;kernel_rfl)(hv:flat v=true:=by kernel_rfl):cy prog f l v:=gz mixed hf hl 100 hN rs h hv
theorem aLN(hc:gi prog g=true)(jy:caps.all flat=true)(h63:ps.length<9223372036854775807)(h:∀ p∈ps,cy prog g [.p p.v,.q caps] (.bool (b p))):cy prog 111 [.r ps.length (db ps),.f g caps] (.int .i64 (xD b ps 0)):=by
 have ay:([aR.r ps.length (db ps),.f g caps].all aR.ok)=true:=by simp only[dH,fp,aR.ok,gT iC,jy,vU]
 have tH:∀(B:aa) e,e<=ps.length->(∀ j y,j<e->ps[j]?=some y->b y=false)->∀ i,i<e->ag prog B 19 (aF (af f111 0)) (zD g ps.length i) (tG ps caps) 2 ⟨.normal,zD g ps.length (i+1),tG ps caps,2⟩:=λB e he hb i hi=>by
  have ak:i<ps.length:=by omega
  have hp:ps[i]?=some ps[i]:=bf ak;have hh:=h ps[i] (dM ak);rw[hb i ps[i] hi hp]at hh;exact aLK hc jy ak hp hh h63
 rcases FA b ps with hn|⟨e,x,h1,h2,h3⟩
 ·rw[O3 0 hn];have lo:∀ B:aa,ag prog B 19 (.block 0 (af f111 0)) (zD g ps.length 0) (tG ps caps) 2 ⟨.normal,[],tG ps caps,2⟩:=λB=>
   bT (id:=0) (cd ps.length (λi=>zD g ps.length i) (λ_=>tG ps caps) (λi k _=>Iff.rfl) (tH B ps.length (bj _) λj y _ hy=>hn y (cQ hy)) aLM n_)
  exact dW func111 ay 19 (λw=>[.code 0 _ _ _ _ _ (lo _)])
 ·have ak:=(ew.1 h1).1;have hh:=h x (cQ h1);rw[h2]at hh;rw[O4 0 h1 h2 h3,jY];have lo:∀ B:aa,ag prog B 19 (.block 0 (af f111 0)) (zD g ps.length 0) (tG ps caps) 2 ⟨.ret,[(4,vI e)],tG ps caps,2⟩:=λB=>
   bT (id:=0) (cd e (λi=>zD g ps.length i) (λ_=>tG ps caps) (λi k _=>Iff.rfl) (tH B e o_ h3) (aLL hc jy ak h1 hh) n_)
  exact dW func111 ay 19 (λw=>[.code 0 _ _ _ _ _ (lo _)])
theorem aLO(hc:gi prog g=true)(jy:caps.all flat=true)(h63:ps.length<9223372036854775807)(h:∀ p∈ps,cy prog g [.p p.v,.q caps] (.bool (b p))):cy prog 70 [.r ps.length (db ps),.f g caps] (.bool (ps.any b)):=by
 have ay:([aR.r ps.length (db ps),.f g caps].all aR.ok)=true:=by simp only[dH,fp,aR.ok,gT iC,jy,vU]
 rw[<-aCa];exact dW func70 ay 9 (λw=>[.step 7 (av f70 7) [.func (.func 111) #[] #[],sl 0 ps.length,UN g] [(0,some (.view (db ps))),(1,some (.view caps))] (.int .i64 (xD b ps 0)) []
  (dz (aLN hc jy h63 h) (.w (x:=.view (db ps)) rfl (gT iC ps) (λh=>by rw[lv h];rfl) (.f (x:=.view caps) rfl jy .nil)) (x:=.func 111) k_ k_ rfl)])
end
def aK(ps:List (HS K)):aj:=db (ps.map cH)
def fC(ps:List (HS K)):aR:=.r ps.length (aK ps)
theorem cU(ps:List (HS K)):(aK ps).all flat=true:=gT iC _
theorem xE{ps:List (HS K)}{i:Nat}{p:HS K}(h:ps[i]?=some p):du prog 35 (aK ps) (i*40)=some (cC p):=vT (by rw[Ce,h];rfl)
theorem iD{ps:List (HS K)}(h:ps.length=0):aK ps=[]:=by rw[lv h];rfl
def aL(vs:List (V3 K)):aj:=cF (vs.map cD)
def uX(vs:List (V3 K)):aR:=.r vs.length (aL vs)
theorem dJ(vs:List (V3 K)):(aL vs).all flat=true:=gT ga _
theorem lf{vs:List (V3 K)}{i:Nat}{v:V3 K}(h:vs[i]?=some v):du prog 33 (aL vs) (i*30)=some (bB v):=r6 (by rw[Ce,h];rfl)
theorem vV{vs:List (V3 K)}(h:vs.length=0):aL vs=[]:=by rw[lv h];rfl
open Classical in
theorem UO{g:FuncId}{caps:aj}{ps:List (HS K)}{b:HS K->Bool}(hc:gi prog g=true)(jy:caps.all flat=true)(h63:ps.length<9223372036854775807)(h:∀ p∈ps,cy prog g [.p (cC p),.q caps] (.bool (b p))):
  cy prog 70 [fC ps,.f g caps] (.bool (ps.any b)):=by
 have:=aLO (g:=g) (caps:=caps) (ps:=ps.map cH) (b:=λr=>if hr:∃ p∈ps,cH p=r then b hr.choose else false) hc jy (by rw[eY];exact h63) (λr hr=>by obtain⟨p,hp,rfl⟩:=dj.1 hr;have hex:∃ q∈ps,cH q=cH p:=⟨p,hp,rfl⟩;rw[dif_pos hex];have e:hex.choose=p:=OW hex.choose_spec.2;rw[e];exact h p hp)
 rw[eY]at this;have e:(ps.map cH).any (λr=>if hr:∃ p∈ps,cH p=r then b hr.choose else false)=ps.any b:=by
  rw[List.any_map];have:∀ l:List (HS K),(∀ p∈l,p∈ps)->l.any ((λr=>if hr:∃ p∈ps,cH p=r then b hr.choose else false)∘cH)=l.any b:=by
   intro l;induction l with
   |nil=>intro _;rfl
   |cons p l ih=>
    intro hl;rw[List.any_cons,List.any_cons,ih λq hq=>hl q (bF _ hq)];refine cI (·||l.any b) ?_;have hex:∃ q∈ps,cH q=cH p:=⟨p,hl p (aV ..),rfl⟩;show(if hr:∃ q∈ps,cH q=cH p then b hr.choose else false)=b p;rw[dif_pos hex,OW hex.choose_spec.2]
  exact this ps λp hp=>hp
 rw[e]at this;exact this
theorem aLP{p:HS K}{v:V3 K}{m n:Nat}(hp:bt m p)(hv:aD n v)(cS:4*(3*(m+n)+14)+20<=aB):cy prog 151 [.p (cC p),.q (cD v).cs] (.bool (decide (OF.az (dot p.n v)>0))):=by have h1:=uV hp.1 hv (show 3*(m+n)+16<aB by omega);have h2:=nJ (hp.1.dot hv) cS;generalize OF.az (dot p.n v)=z at *;exact Fz func151 10 (λ_=>[h1.at 7,h2.at 8])
theorem aLQ{p:HS K}{v:V3 K}{m n:Nat}(hp:bt m p)(hv:aD n v)(cS:4*(3*(m+n)+14+m)+30<=aB)(h:p.n≠0):cy prog 122 [.p (cC p),.q (cD v).cs] (.bool (decide (OF.az (dot p.n v-p.d)>=0))):=
 Fz func122 8 (λ_=>[(zy hp hv cS h).at 6])
theorem aLR{p q:HS K}{m n:Nat}(hp:bt m p)(hq:bt n q)(hm:16*m+80<=aB)(hn:16*n+80<=aB)(fT:p.n≠0)(zz:q.n≠0):cy prog 123 [.p (cC q),.q (cH p).cs] (.bool (decide (canon p=canon q))):=
 Fz func123 7 (λ_=>[(UH hp hq hm hn fT zz).at 6])
def Dm(ps:List (HS K))(v:V3 K):Bool:=!decide (v=0)&&!ps.any λp=>decide (OF.az (dot p.n v)>0)
theorem aLS{ps:List (HS K)}{v:V3 K}{m n:Nat}(bW:∀ p∈ps,bt m p)(hv:aD n v)(cS:4*(3*(m+n)+14)+20<=aB)(h63:ps.length<9223372036854775807):cy prog 113 [fC ps,.p (bB v)] (.bool (Dm ps v)):=by
 have hz:=Dj hv o_;have ay:([fC ps,.p (bB v)].all aR.ok)=true:=by simp only[dH,fp,fC,aR.ok,cU,iU,kD];rfl
 unfold Dm;by_cases h:v=0
 ·rw[aC h]at hz ⊢;exact dW func113 ay 14 (λ_=>[hz.at 6])
 ·rw[aN h]at hz ⊢;have hc:=UO (g:=151) (caps:=(cD v).cs) (ps:=ps) (b:=λp=>decide (OF.az (dot p.n v)>0)) k_ (bh.2 (RV.nH _)) h63 λp hp=>aLP (bW p hp) hv cS;generalize (ps.any λp=>decide (OF.az (dot p.n v)>0))=t at *;exact dW func113 ay 14 (λ_=>[hz.at 6,.step 11 (av f113 11) [.func (.func 70) #[] #[],sl 0 ps.length,.func (.func 151) #[] #[bX 1]] [(0,some (.view (aK ps))),(1,some (.aI (cD v).cs 33))] (.bool t) []
   (dz hc (.w (x:=.view (aK ps)) rfl (cU ps) iD (.f (x:=.aI (cD v).cs 33) rfl (bh.2 (RV.nH _)) .nil)) (x:=.func 70) k_ k_ rfl)])
def qa(ps:List (HS K))(u:V3 K):Bool:=Dm ps u||Dm ps (-u)
def qb(p:HS K)(l:List (HS K)):Bool:=l.any λq=>!decide (ax p.n q.n=0)
def tJ:List (HS K)->Nat->Bool
 |_,0=>false
 |l,i+1=>match l[i]? with
  |some p=>tJ l i||qb p (l.take i)
  |none=>tJ l i
section
variable{Bs:aa}{ps:List (HS K)}
def BN(n i:Nat)(s:Bool)(j:Nat):aW:=[(20,vI j),(18,sl 0 i),(19,vI i),(0,sl 0 n),(5,bX 1),(3,.bool s)]
def r7(ps:List (HS K))(p:HS K):aH:=[(0,.view (aK ps)),(1,.aI (cH p).cs 35)]
theorem aCb(p:HS K)(m:Nat):∀ x∈r7 ps p,fN m x.2:=λx hx=>by
 simp only[r7,cx,jg,jh]at hx;rcases hx with rfl|rfl
 ·exact λv hv=>iI (bh.1 (cU ps) v hv)
 ·exact λv hv=>iI (iC.flat _ v hv)
noncomputable def HV{i j:Nat}{p q:HS K}{m:Nat}(hj:j<i)(hq:ps[j]?=some q)(bW:∀ p∈ps,bt m p)(hp:bt m p)(hm:100*m+1000<=aB)(s:Bool)(more:bA prog Bs 47):bA prog Bs 47:=
 .lt 21 j i true (aC hj)::.cY f72 22 0 i j 40 hj k_::.ld f72 23 35 0 (j*40) (.view (aK ps)) (cC q) rfl (xE hq) k_::
  (vS hp.1 (bW q (cQ hq)).1 o_).at 28::
  (if s then more else(Dj (hp.1.ax (bW q (cQ hq)).1) o_).at 32::more)
theorem O5{u:V3 K}{m n:Nat}(bW:∀ p∈ps,bt m p)(hu:aD n u)(cS:4*(3*(m+n)+14)+20<=aB)(h63:ps.length<9223372036854775807){o:Oper}{x:Operand}(ho:dw o.op=some x):
  cB prog Bs o [.func (.func 113) #[] #[],sl 0 ps.length,bB u] [(0,some (.view (aK ps)))] (.bool (Dm ps u)) []:=
 dz (aLS bW hu cS h63) (.w (x:=.view (aK ps)) rfl (cU ps) iD (.p k_ .nil)) ho k_ k_
theorem aLT{i j:Nat}{p q:HS K}{m:Nat}(hj:j<i)(hq:ps[j]?=some q)(bW:∀ p∈ps,bt m p)(hp:bt m p)(hm:100*m+1000<=aB)(h63:ps.length<9223372036854775807)(mT:i<=ps.length)(s:Bool)(hb:qa ps (ax p.n q.n)=false):
  ag prog Bs 47 (aF (af f72 2)) (BN ps.length i s j) (r7 ps p) 2 ⟨.normal,BN ps.length i (s||!decide (ax p.n q.n=0)) (j+1),r7 ps p,2⟩:=by
 have UP:=bW q (cQ hq);have hc:=hp.1.ax UP.1;unfold qa at hb;rw[Mq]at hb;have o1:=λBs=>O5 (Bs:=Bs) (x:=.func 113) (o:=av f72 37) bW hc o_ h63 k_;have o2:=λBs=>O5 (Bs:=Bs) (x:=.func 113) (o:=av f72 42) bW hc.neg o_ h63 k_;rw[hb.1]at o1;rw[hb.2]at o2;have ng:=HQ hc o_;have hs:∀ d:Bool,(s||!d)=(if s then true else !d):=λd=>by cases s<;>rfl
 cases s
 ·exact vu mixed 100 (hZ:=4) (HV hj hq bW hp hm false [.step 37 _ _ _ _ _ (o1 _),ng.at 41,.step 42 _ _ _ _ _ (o2 _),.sum 44 j 1 (j+1) rfl o_]) k_ rfl k_ (aCb _ 2) k_
 ·exact vu mixed 100 (hZ:=4) (HV hj hq bW hp hm true [.step 37 _ _ _ _ _ (o1 _),ng.at 41,.step 42 _ _ _ _ _ (o2 _),.sum 44 j 1 (j+1) rfl o_]) k_ rfl k_ (aCb _ 2) k_
theorem aLU{i j:Nat}{p q:HS K}{m:Nat}(hj:j<i)(hq:ps[j]?=some q)(bW:∀ p∈ps,bt m p)(hp:bt m p)(hm:100*m+1000<=aB)(h63:ps.length<9223372036854775807)(s:Bool)(hb:qa ps (ax p.n q.n)=true):
  ag prog Bs 47 (aF (af f72 2)) (BN ps.length i s j) (r7 ps p) 2 ⟨.ret,[(2,.bool false)],r7 ps p,4⟩:=by
 have UP:=bW q (cQ hq);have hc:=hp.1.ax UP.1;unfold qa at hb;have o1:=λBs=>O5 (Bs:=Bs) (x:=.func 113) (o:=av f72 37) bW hc o_ h63 k_;have o2:=λBs=>O5 (Bs:=Bs) (x:=.func 113) (o:=av f72 42) bW hc.neg o_ h63 k_;have ng:=HQ hc o_;cases h1:Dm ps (ax p.n q.n)with
 |true=>
  rw[h1]at o1;cases s
  ·exact aA (HV hj hq bW hp hm false [.step 37 _ _ _ _ _ (o1 _)])
  ·exact aA (HV hj hq bW hp hm true [.step 37 _ _ _ _ _ (o1 _)])
 |false=>
  rw[h1,yP]at hb;rw[h1]at o1;rw[hb]at o2;cases s
  ·exact aA (HV hj hq bW hp hm false [.step 37 _ _ _ _ _ (o1 _),ng.at 41,.step 42 _ _ _ _ _ (o2 _)])
  ·exact aA (HV hj hq bW hp hm true [.step 37 _ _ _ _ _ (o1 _),ng.at 41,.step 42 _ _ _ _ _ (o2 _)])
theorem aLV{i:Nat}{p:HS K}(s:Bool):ag prog Bs 47 (aF (af f72 2)) (BN ps.length i s i) (r7 ps p) 2 ⟨.exit 2,[(3,.bool s)],r7 ps p,2⟩:=
 aA [.lt 21 i i false s_]
theorem aLW{p q:HS K}{j:Nat}(hq:ps[j]?=some q):qb p (ps.take (j+1))=(qb p (ps.take j)||!decide (ax p.n q.n=0)):=by unfold qb;rw[tK,hq,List.any_append];simp
theorem aCc{i:Nat}{p:HS K}{m:Nat}(mT:i<=ps.length)(bW:∀ p∈ps,bt m p)(hp:bt m p)(hm:100*m+1000<=aB)(h63:ps.length<9223372036854775807)(s:Bool):
  ag prog Bs 47 (.block 2 (af f72 2)) (BN ps.length i s 0) (r7 ps p) 2 (if(ps.take i).any (λq=>qa ps (ax p.n q.n))=true then⟨.ret,[(2,.bool false)],r7 ps p,4⟩else⟨.normal,[(3,.bool (s||qb p (ps.take i)))],r7 ps p,2⟩):=by
 have at':∀{j:Nat},j<i->(ps.take i)[j]?=ps[j]?:=λhj=>by rw[ui,aw hj]
 have tH:∀ e,e<=i->(∀(j:Nat) y,j<e->(ps.take i)[j]?=some y->qa ps (ax p.n y.n)=false)->∀ j,j<e->
   ag prog Bs 47 (aF (af f72 2)) (BN ps.length i (s||qb p (ps.take j)) j) (r7 ps p) 2 ⟨.normal,BN ps.length i (s||qb p (ps.take (j+1))) (j+1),r7 ps p,2⟩:=λe he hb j hj=>by
  have hq:ps[j]?=some ps[j]:=bf o_;have:=aLT (Bs:=Bs) (p:=p) (show j<i by omega) hq bW hp hm h63 mT (s||qb p (ps.take j)) (hb j _ hj (by rw[at' o_];exact hq));rwa[Bool.or_assoc,<-aLW hq]at this
 have e0:(s||qb p (ps.take 0))=s:=by simp[qb]
 rcases FA (λq:HS K=>qa ps (ax p.n q.n)) (ps.take i)with hn|⟨e,q,h1,h2,h3⟩
 ·have:¬(ps.take i).any (λq=>qa ps (ax p.n q.n))=true:=by rw[O6,Jj];intro x hx;rw[hn x hx];simp
  rw[ao this];have:=cd (P:=prog) (B:=Bs) (N:=47) i (λj=>BN ps.length i (s||qb p (ps.take j)) j) (λ_=>r7 ps p) (λi k _=>Iff.rfl) (tH i (bj _) λj y _ hy=>hn y (cQ hy)) (aLV _) n_;rw[e0]at this;exact bT (id:=2) this
 ·have ha:(ps.take i).any (λq=>qa ps (ax p.n q.n))=true:=sY.2 ⟨q,cQ h1,h2⟩;rw[aw ha];have hei:e<i:=by have:=(ew.1 h1).1;rw[jw]at this;omega
  have:=cd (P:=prog) (B:=Bs) (N:=47) e (λj=>BN ps.length i (s||qb p (ps.take j)) j) (λ_=>r7 ps p) (λi k _=>Iff.rfl) (tH e o_ h3) (aLU hei (by rw[<-at' hei];exact h1) bW hp hm h63 _ h2) n_;rw[e0]at this;exact bT (id:=2) this
def FB(ps:List (HS K))(i:Nat):Bool:=match ps[i]? with
 |some p=>(ps.take i).any λq=>qa ps (ax p.n q.n)
 |none=>false
def O7(ps:List (HS K))(n:Nat):Bool:=(List.range n).any (FB ps)
theorem O8{i:Nat}{p:HS K}(h:ps[i]?=some p):FB ps i=(ps.take i).any λq=>qa ps (ax p.n q.n):=by unfold FB;rw[h]
theorem aCd{i:Nat}{p:HS K}(h:ps[i]?=some p):tJ ps (i+1)=(tJ ps i||qb p (ps.take i)):=by show(match ps[i]? with|some p=>tJ ps i||qb p (ps.take i)|none=>tJ ps i)=_;rw[h]
def qK(ps:List (HS K)):Bool:=!O7 ps ps.length&&tJ ps ps.length
def zE(n i:Nat)(s:Bool):aW:=[(11,vI i),(9,sl 0 n),(10,vI n),(0,sl 0 n),(3,.bool s)]
def qL(ps:List (HS K)):aH:=[(0,.view (aK ps))]
theorem aLX(m:Nat):∀ x∈qL ps,fN m x.2:=λx hx=>by simp only[qL,cx,jg,jh]at hx;subst hx;exact λv hv=>iI (bh.1 (cU ps) v hv)
noncomputable def coS{i:Nat}{p:HS K}(hi:i<ps.length)(hp:ps[i]?=some p)(more:bA prog Bs 47):bA prog Bs 47:=
 .lt 12 i ps.length true (aC hi)::.cY f72 14 0 ps.length i 40 hi k_::.ld f72 15 35 0 (i*40) (.view (aK ps)) (cC p) rfl (xE hp) k_::.upto f72 18 0 ps.length i 40 o_ k_::more
theorem aLY{i:Nat}{p:HS K}{m:Nat}(hi:i<ps.length)(hp:ps[i]?=some p)(bW:∀ p∈ps,bt m p)(hm:100*m+1000<=aB)(h63:ps.length<9223372036854775807)(s:Bool)(hb:(ps.take i).any (λq=>qa ps (ax p.n q.n))=false):
  ag prog Bs 47 (aF (af f72 0)) (zE ps.length i s) (qL ps) 1 ⟨.normal,zE ps.length (i+1) (s||qb p (ps.take i)),qL ps,1⟩:=by
 have lo:=aCc (Bs:=Bs) (show i<=ps.length by omega) bW (bW p (cQ hp)) hm h63 s;rw[hb,ao s_]at lo;generalize qb p (ps.take i)=t at *;exact vu mixed 100 (hZ:=2) (coS hi hp [.code 2 _ _ _ _ _ lo,.sum 45 i 1 (i+1) rfl o_]) k_ rfl k_ (aLX 1) k_
theorem aLZ{i:Nat}{p:HS K}{m:Nat}(hi:i<ps.length)(hp:ps[i]?=some p)(bW:∀ p∈ps,bt m p)(hm:100*m+1000<=aB)(h63:ps.length<9223372036854775807)(s:Bool)(hb:(ps.take i).any (λq=>qa ps (ax p.n q.n))=true):
  ag prog Bs 47 (aF (af f72 0)) (zE ps.length i s) (qL ps) 1 ⟨.ret,[(2,.bool false)],qL ps,4⟩:=by
 have lo:=aCc (Bs:=Bs) (show i<=ps.length by omega) bW (bW p (cQ hp)) hm h63 s;rw[aw hb]at lo;exact aA (coS hi hp [.code 2 _ _ _ _ _ lo])
theorem aL0(s:Bool):ag prog Bs 47 (aF (af f72 0)) (zE ps.length ps.length s) (qL ps) 1 ⟨.exit 0,[(3,.bool s)],qL ps,1⟩:=
 aA [.lt 12 ps.length ps.length false s_]
theorem aL1{m:Nat}(bW:∀ p∈ps,bt m p)(hm:100*m+1000<=aB)(h63:ps.length<9223372036854775807):cy prog 72 [fC ps] (.bool (qK ps)):=by
 have ay:([fC ps].all aR.ok)=true:=by simp only[dH,fp,fC,aR.ok,cU,iU]
 have tH:∀(B:aa) e,e<=ps.length->(∀(j:Nat) y,j<e->(List.range ps.length)[j]?=some y->FB ps y=false)->∀ i,i<e->
   ag prog B 47 (aF (af f72 0)) (zE ps.length i (tJ ps i)) (qL ps) 1 ⟨.normal,zE ps.length (i+1) (tJ ps (i+1)),qL ps,1⟩:=λB e he hb i hi=>by
  have ak:i<ps.length:=by omega
  have hp:ps[i]?=some ps[i]:=bf ak;rw[aCd hp];exact aLY ak hp bW hm h63 _ (by rw[<-O8 hp];exact hb i i hi (KO ak))
 unfold qK O7;rcases FA (FB ps) (List.range ps.length)with hn|⟨e,y,h1,h2,h3⟩
 ·have ha:(List.range ps.length).any (FB ps)=false:=by rw[Jj];intro x hx;rw[hn x hx];simp
  rw[ha];have lo:∀ B:aa,ag prog B 47 (.block 0 (af f72 0)) (zE ps.length 0 false) (qL ps) 1 ⟨.normal,[(3,.bool (tJ ps ps.length))],qL ps,1⟩:=λB=>
   bT (id:=0) (cd ps.length (λi=>zE ps.length i (tJ ps i)) (λ_=>qL ps) (λi k _=>Iff.rfl) (tH B ps.length (bj _) λj y _ hy=>hn y (cQ hy)) (aL0 _) n_)
  generalize tJ ps ps.length=t at *;exact dW func72 ay 47 (λw=>[.code 0 _ _ _ _ _ (lo _)])
 ·have ha:(List.range ps.length).any (FB ps)=true:=sY.2 ⟨y,cQ h1,h2⟩;rw[ha];have ak:e<ps.length:=by have:=(ew.1 h1).1;rwa[yG]at this
  have hy:y=e:=by rw[KO ak]at h1;injection h1 with h1;exact h1.symm
  subst hy;have hp:ps[y]?=some ps[y]:=bf ak;have lo:∀ B:aa,ag prog B 47 (.block 0 (af f72 0)) (zE ps.length 0 false) (qL ps) 1 ⟨.ret,[(2,.bool false)],qL ps,4⟩:=λB=>
   bT (id:=0) (cd y (λi=>zE ps.length i (tJ ps i)) (λ_=>qL ps) (λi k _=>Iff.rfl) (tH B y o_ h3) (aLZ ak hp bW hm h63 _ (by rw[<-O8 hp];exact h2)) n_)
  exact dW func72 ay 47 (λw=>[.code 0 _ _ _ _ _ (lo _)])
end
end
section
variable{P:Program}{B:aa}{N:Nat}
def UQ(o:Oper):Bool:=match o.op with|.nilCheck _=>true|_=>false
theorem aL2{o:Oper}(ho:UQ o=true)(k off:Nat):cB P B o [.pointer (some ⟨k,off,some 7⟩)] [] (.pointer (some ⟨k,off,some 7⟩)) []:=by
 unfold UQ at ho;split at ho
 ·rename_i x bP;refine gW.step λι c ρ w aO hm hn=>?_;rw[bP]at aO;obtain⟨u,hu,hc⟩:=lW aO;have hu:ρ x=u:=by simpa[Op.operands]using hu
  obtain⟨b,oo,cap,hb,he⟩:=hc.yo rfl;refine⟨ι,.pointer (some ⟨b,oo+off,none⟩),w,Map.le.refl _,.ptr hb,hm,.inl ?_⟩;simp only[execOp,bP,hu,he];simp[go_sem]
 ·cases ho
def aY.ck(fn:Func)(key k off:Nat)(ho:UQ (av fn key)=true):aY P B N:=.step key (av fn key) [.pointer (some ⟨k,off,some 7⟩)] [] (.pointer (some ⟨k,off,some 7⟩)) [] (aL2 ho k off)
end
section
open V3 (dot ax cL smul)
def UR:Option K->aj
 |some x=>(dU x).cs
 |none=>zN.cs
def qM(s:eR K)(b d:V3 K):aj:=UR s.lo++(UR s.hi++(.bool s.lo.isSome::.bool s.hi.isSome::((cD b).cs++(cD d).cs)))
def qN(s:eR K)(a b:K):eR K:=
 if OF.az a=0 then s
 else if OF.az a>0 then(match s.hi with|some h=>if OF.az (b*a⁻¹-h)<0 then⟨s.lo,some (b*a⁻¹)⟩else s|none=>⟨s.lo,some (b*a⁻¹)⟩)
 else(match s.lo with|some l=>if OF.az (b*a⁻¹-l)>0 then⟨some (b*a⁻¹),s.hi⟩else s|none=>⟨some (b*a⁻¹),s.hi⟩)
def aCe(s:eR K):Bool:=match s.lo,s.hi with
 |some l,some h=>decide (OF.az (l-h)<0)
 |_,_=>true
def r8(s:eR K)(a b:K):Bool:=if OF.az a=0 then decide (OF.az b>=0)else aCe (qN s a b)
def nL(n:Nat)(x:Option K):Prop:=∀ y,x=some y->Sz n y
theorem aL3{s:eR K}{p:HS K}{b d:V3 K}{m q z:Nat}(hp:bt m p)(hb:aD q b)(hd:aD q d)(dQ:nL z s.lo)(iq:nL z s.hi)(hn:1000*(m+q)+100*z+10000<=aB):
  xC prog 155 20 [bX 6,cC p] [(6,.aI (qM s b d) 160)] [] (.bool (r8 s (dot p.n d) (p.d-dot p.n b))) [(6,.aI (qM (qN s (dot p.n d) (p.d-dot p.n b)) b d) 160)]:=by
 have iQ:Sz (3*(m+q)+14) (dot p.n d):=hp.1.dot hd;have jz:Sz (m+(3*(m+q)+14)+1) (p.d-dot p.n b):=hp.2.sub (hp.1.dot hb);have d1:=uV hp.1 hd o_;have d2:=uV hp.1 hb o_;have sb:=Bu hp.2 (hp.1.dot hb) o_;have ou:=nJ iQ o_;have sgb:=nJ jz o_;unfold r8 qN;generalize p.d-dot p.n b=y at *;generalize dot p.n d=a at *;obtain⟨lo,hi⟩:=s;dsimp only at dQ iq ⊢;by_cases oC:a=0
 ·have e:OF.az a=0:=(OF.e8 a).2 oC;rw[aw e,aw e];have dv:=aJ8 jz o_;rw[<-oC]at dv;cases lo<;>cases hi<;>exact oq mixed func155 100 (N:=116) k_ (λ_=>[.ck f155 12 6 0 k_,d1.at 15,.ck f155 21 6 0 k_,d2.at 24,sb.at 25,dv.at 29,sgb.at 36]) (λ_=>k_)
 ·have e:OF.az a≠0:=λh=>oC ((OF.e8 a).1 h);rw[ao e,ao e];have dv:=HF oC jz iQ o_;have ht:=Sz.div oC jz iQ;generalize y*a⁻¹=t at *;by_cases h:OF.az a>0
  ·rw[aw h];rcases lo with _|lo
   ·rcases hi with _|hi
    ·exact oq mixed func155 100 (N:=116) k_ (λ_=>[.ck f155 12 6 0 k_,d1.at 15,.ck f155 21 6 0 k_,d2.at 24,sb.at 25,dv.at 29,ou.at 40,.rw 41 (.bool (decide (OF.az a>0))) (.bool true) (by rw[aC h]),.ck f155 44 6 0 k_,.ck f155 61 6 0 k_,.ck f155 63 6 0 k_,.ck f155 93 6 0 k_]) (λ_=>k_)
    ·dsimp only;by_cases hc:OF.az (t-hi)<0
     ·rw[aw hc];exact oq mixed func155 100 (N:=116) k_ (λ_=>[.ck f155 12 6 0 k_,d1.at 15,.ck f155 21 6 0 k_,d2.at 24,sb.at 25,dv.at 29,ou.at 40,.rw 41 (.bool (decide (OF.az a>0))) (.bool true) (by rw[aC h]),.ck f155 44 6 0 k_,.ck f155 51 6 0 k_,(ml ht (iq _ rfl) o_).at 54,.rw 55 (.bool (decide (OF.az (t-hi)<0))) (.bool true) (by rw[aC hc]),.ck f155 61 6 0 k_,.ck f155 63 6 0 k_,.ck f155 93 6 0 k_]) (λ_=>k_)
     ·rw[ao hc];exact oq mixed func155 100 (N:=116) k_ (λ_=>[.ck f155 12 6 0 k_,d1.at 15,.ck f155 21 6 0 k_,d2.at 24,sb.at 25,dv.at 29,ou.at 40,.rw 41 (.bool (decide (OF.az a>0))) (.bool true) (by rw[aC h]),.ck f155 44 6 0 k_,.ck f155 51 6 0 k_,(ml ht (iq _ rfl) o_).at 54,.rw 55 (.bool (decide (OF.az (t-hi)<0))) (.bool false) (by rw[aN hc]),ou.at 67,.rw 68 (.bool (decide (OF.az a<0))) (.bool false) (by rw[aN o_]),.ck f155 93 6 0 k_]) (λ_=>k_)
   ·rcases hi with _|hi
    ·exact oq mixed func155 100 (N:=116) k_ (λ_=>[.ck f155 12 6 0 k_,d1.at 15,.ck f155 21 6 0 k_,d2.at 24,sb.at 25,dv.at 29,ou.at 40,.rw 41 (.bool (decide (OF.az a>0))) (.bool true) (by rw[aC h]),.ck f155 44 6 0 k_,.ck f155 61 6 0 k_,.ck f155 63 6 0 k_,.ck f155 93 6 0 k_,.ck f155 99 6 0 k_,.ck f155 106 6 0 k_,.ck f155 110 6 0 k_,(ml (dQ _ rfl) ht o_).at 113]) (λ_=>k_)
    ·dsimp only;by_cases hc:OF.az (t-hi)<0
     ·rw[aw hc];exact oq mixed func155 100 (N:=116) k_ (λ_=>[.ck f155 12 6 0 k_,d1.at 15,.ck f155 21 6 0 k_,d2.at 24,sb.at 25,dv.at 29,ou.at 40,.rw 41 (.bool (decide (OF.az a>0))) (.bool true) (by rw[aC h]),.ck f155 44 6 0 k_,.ck f155 51 6 0 k_,(ml ht (iq _ rfl) o_).at 54,.rw 55 (.bool (decide (OF.az (t-hi)<0))) (.bool true) (by rw[aC hc]),.ck f155 61 6 0 k_,.ck f155 63 6 0 k_,.ck f155 93 6 0 k_,.ck f155 99 6 0 k_,.ck f155 106 6 0 k_,.ck f155 110 6 0 k_,(ml (dQ _ rfl) ht o_).at 113]) (λ_=>k_)
     ·rw[ao hc];exact oq mixed func155 100 (N:=116) k_ (λ_=>[.ck f155 12 6 0 k_,d1.at 15,.ck f155 21 6 0 k_,d2.at 24,sb.at 25,dv.at 29,ou.at 40,.rw 41 (.bool (decide (OF.az a>0))) (.bool true) (by rw[aC h]),.ck f155 44 6 0 k_,.ck f155 51 6 0 k_,(ml ht (iq _ rfl) o_).at 54,.rw 55 (.bool (decide (OF.az (t-hi)<0))) (.bool false) (by rw[aN hc]),ou.at 67,.rw 68 (.bool (decide (OF.az a<0))) (.bool false) (by rw[aN o_]),.ck f155 93 6 0 k_,.ck f155 99 6 0 k_,.ck f155 106 6 0 k_,.ck f155 110 6 0 k_,(ml (dQ _ rfl) (iq _ rfl) o_).at 113]) (λ_=>k_)
  ·rw[ao h];rcases lo with _|lo
   ·rcases hi with _|hi
    ·exact oq mixed func155 100 (N:=116) k_ (λ_=>[.ck f155 12 6 0 k_,d1.at 15,.ck f155 21 6 0 k_,d2.at 24,sb.at 25,dv.at 29,ou.at 40,.rw 41 (.bool (decide (OF.az a>0))) (.bool false) (by rw[aN h]),ou.at 67,.rw 68 (.bool (decide (OF.az a<0))) (.bool true) (by rw[aC o_]),.ck f155 71 6 0 k_,.ck f155 88 6 0 k_,.ck f155 90 6 0 k_,.ck f155 93 6 0 k_,.ck f155 99 6 0 k_]) (λ_=>k_)
    ·exact oq mixed func155 100 (N:=116) k_ (λ_=>[.ck f155 12 6 0 k_,d1.at 15,.ck f155 21 6 0 k_,d2.at 24,sb.at 25,dv.at 29,ou.at 40,.rw 41 (.bool (decide (OF.az a>0))) (.bool false) (by rw[aN h]),ou.at 67,.rw 68 (.bool (decide (OF.az a<0))) (.bool true) (by rw[aC o_]),.ck f155 71 6 0 k_,.ck f155 88 6 0 k_,.ck f155 90 6 0 k_,.ck f155 93 6 0 k_,.ck f155 99 6 0 k_,.ck f155 106 6 0 k_,.ck f155 110 6 0 k_,(ml ht (iq _ rfl) o_).at 113]) (λ_=>k_)
   ·rcases hi with _|hi
    ·dsimp only;by_cases hc:OF.az (t-lo)>0
     ·rw[aw hc];exact oq mixed func155 100 (N:=116) k_ (λ_=>[.ck f155 12 6 0 k_,d1.at 15,.ck f155 21 6 0 k_,d2.at 24,sb.at 25,dv.at 29,ou.at 40,.rw 41 (.bool (decide (OF.az a>0))) (.bool false) (by rw[aN h]),ou.at 67,.rw 68 (.bool (decide (OF.az a<0))) (.bool true) (by rw[aC o_]),.ck f155 71 6 0 k_,.ck f155 78 6 0 k_,(ml ht (dQ _ rfl) o_).at 81,.rw 82 (.bool (decide (OF.az (t-lo)>0))) (.bool true) (by rw[aC hc]),.ck f155 88 6 0 k_,.ck f155 90 6 0 k_,.ck f155 93 6 0 k_,.ck f155 99 6 0 k_]) (λ_=>k_)
     ·rw[ao hc];exact oq mixed func155 100 (N:=116) k_ (λ_=>[.ck f155 12 6 0 k_,d1.at 15,.ck f155 21 6 0 k_,d2.at 24,sb.at 25,dv.at 29,ou.at 40,.rw 41 (.bool (decide (OF.az a>0))) (.bool false) (by rw[aN h]),ou.at 67,.rw 68 (.bool (decide (OF.az a<0))) (.bool true) (by rw[aC o_]),.ck f155 71 6 0 k_,.ck f155 78 6 0 k_,(ml ht (dQ _ rfl) o_).at 81,.rw 82 (.bool (decide (OF.az (t-lo)>0))) (.bool false) (by rw[aN hc]),.ck f155 93 6 0 k_,.ck f155 99 6 0 k_]) (λ_=>k_)
    ·dsimp only;by_cases hc:OF.az (t-lo)>0
     ·rw[aw hc];exact oq mixed func155 100 (N:=116) k_ (λ_=>[.ck f155 12 6 0 k_,d1.at 15,.ck f155 21 6 0 k_,d2.at 24,sb.at 25,dv.at 29,ou.at 40,.rw 41 (.bool (decide (OF.az a>0))) (.bool false) (by rw[aN h]),ou.at 67,.rw 68 (.bool (decide (OF.az a<0))) (.bool true) (by rw[aC o_]),.ck f155 71 6 0 k_,.ck f155 78 6 0 k_,(ml ht (dQ _ rfl) o_).at 81,.rw 82 (.bool (decide (OF.az (t-lo)>0))) (.bool true) (by rw[aC hc]),.ck f155 88 6 0 k_,.ck f155 90 6 0 k_,.ck f155 93 6 0 k_,.ck f155 99 6 0 k_,.ck f155 106 6 0 k_,.ck f155 110 6 0 k_,(ml ht (iq _ rfl) o_).at 113]) (λ_=>k_)
     ·rw[ao hc];exact oq mixed func155 100 (N:=116) k_ (λ_=>[.ck f155 12 6 0 k_,d1.at 15,.ck f155 21 6 0 k_,d2.at 24,sb.at 25,dv.at 29,ou.at 40,.rw 41 (.bool (decide (OF.az a>0))) (.bool false) (by rw[aN h]),ou.at 67,.rw 68 (.bool (decide (OF.az a<0))) (.bool true) (by rw[aC o_]),.ck f155 71 6 0 k_,.ck f155 78 6 0 k_,(ml ht (dQ _ rfl) o_).at 81,.rw 82 (.bool (decide (OF.az (t-lo)>0))) (.bool false) (by rw[aN hc]),.ck f155 93 6 0 k_,.ck f155 99 6 0 k_,.ck f155 106 6 0 k_,.ck f155 110 6 0 k_,(ml (dQ _ rfl) (iq _ rfl) o_).at 113]) (λ_=>k_)
end
def HW(P:Program)(f:FuncId)(l:List aR)(ty:TypeId)(size n:Nat)(xs:aj)(u:Value):Prop:=
 ∀ w vs,rZ w l vs->Calls P f vs.toArray w λe w'=>∃ v,e=.returned (.tuple #[v,u])/\w'.ownsRow w.heap.size ty size v n xs/\Below w.heap.size w w'
section
variable{P:Program}{B:aa}{N:Nat}
theorem aL4{f:FuncId}{fn:Func}{l:List aR}{ty:TypeId}{size m:Nat}{xs:aj}{u:Value}{k:Nat}(gn:P.follows .mixedOrders=true)(hf:P.funcs[f]?=some fn)(hl:(l.all aR.ok)=true)(n:Nat){N:Nat}(hN:N=(eP 0 l).length+(fn.ntmps-(eP 0 l).length))
  (rs:∀ w,bA P (aa.at w) N) (h:∀ w,nA (fO (P:=P) fn n (eP 0 l) (js 0 l) (jG 0 l) (rs w)) [(k,.row xs ty size)]=nB (fO fn n (eP 0 l) (js 0 l) (jG 0 l) (rs w)) (.tuple #[.slice (some ⟨k,0,some 7⟩) m 0,u]) [(k,.row xs ty size)])
  (hx:(xs.all flat)=true) (hlen:xs.length=m*size) (hu:flat u=true):HW P f l ty size m xs u:=by
 intro w vs ct;obtain⟨ι,c,h1,h2,h3,h4,h5,h6,h7⟩:=vN ct (bh.1 hl) 0 _ _ (qx w) n_ (λ_ _=>rfl);refine rG gn hf hN n (h w) h6 h2 h4 h3 λau bY v' w' hle hc hm dy=>?_;obtain⟨cM,rfl,ht⟩:=hc.ug;have ht:bK (aG au) [.slice (some ⟨k,0,some 7⟩) m 0,u] cM.toList:=ht;cases aO:cM.toList with
 |nil=>rw[aO]at ht;cases ht
 |cons a t=>
  rw[aO]at ht;cases ht with
  |cons q1 q2=>
   cases q2 with
   |cons q3 q4=>
    cases q4;refine⟨a,?_,?_,hm.base⟩
    ·rw[q3.eU hu]at aO
     congr 2
     apply Gv;rw[aO]
    ·have:=vx hm (dy (k,_) (aV ..)) q1 o_ (bh.1 hx);rwa[<-hlen,mQ]at this
theorem US{f:FuncId}{l:List aR}{ty:TypeId}{size n:Nat}{xs:aj}{u:Value}{vs:aj}{nd:List (Nat×Option Obj)}{o:Oper}{x:Operand}(h:HW P f l ty size n xs u)(hs:fH B l vs nd)(ho:dw o.op=some x)(eK:gi P f=true)(hx:(xs.all flat)=true)(hu:flat u=true)(k:Nat):
  cB P B o (.func (.func f) #[] #[]::vs) ((k,none)::nd) (.tuple #[.slice (some ⟨k,0,some 7⟩) n 0,u]) [(k,.row xs ty size)]:=by
 have:=jB (P:=P) (B:=B) (o:=o) (x:=x) (f:=f) (fi:=[]) (args:=vs) (ca:=[]) (need:=(k,none)::nd) (val:=.tuple #[.slice (some ⟨k,0,some 7⟩) n 0,u]) (cR:=[(k,.row xs ty size)]) ho eK ?_
 ·simpa using this
 ·intro ι c w hm hn args' ha;rw[jo,je]at ha;refine(h w args' (BB hs hm (λp hp=>hn p (bF _ hp)) ha)).mono ?_
  rintro e w' ⟨v,rfl,h1,h2⟩
  obtain⟨au,q1,q2,q3⟩:=Ez hm h2 (k:=k) (hn (k,none) (aV ..)) h1 (bh.1 hx);exact⟨au,_,rfl,q1,.tup (.cons q3 (.cons (.same hu) .nil)),q2⟩
end
section
open V3 (dot ax cL smul)
def dZ(p q:HS K):V3 K:=ax p.n q.n
def vW(p q:HS K):V3 K:=smul (smul (ax q.n (dZ p q)) p.d+smul (ax (dZ p q) p.n) q.d) (kI 1*(dot (dZ p q) (dZ p q))⁻¹)
def ow(s:eR K)(b d:V3 K):List (HS K)->eR K
 |[]=>s
 |p::l=>ow (qN s (dot p.n d) (p.d-dot p.n b)) b d l
def vX(s:eR K)(b d:V3 K):List (HS K)->Bool
 |[]=>true
 |p::l=>r8 s (dot p.n d) (p.d-dot p.n b)&&vX (qN s (dot p.n d) (p.d-dot p.n b)) b d l
theorem aCf{b d:V3 K}{p:HS K}:∀(l:List (HS K)) (s:eR K),ow s b d (l++[p])=qN (ow s b d l) (dot p.n d) (p.d-dot p.n b)
 |[],s=>rfl
 |q::l,s=>aCf l _
def KP(ps:List (HS K))(p q:HS K):eR K:=ow ⟨none,none⟩ (vW p q) (dZ p q) ps
def FC(ps:List (HS K))(p q:HS K):Option (V3 K×V3 K):=
 if dZ p q=0 then none
 else if vX ⟨none,none⟩ (vW p q) (dZ p q) ps then(match (KP ps p q).lo,(KP ps p q).hi with
  |some l,some h=>some (vW p q+smul (dZ p q) l,vW p q+smul (dZ p q) h)
  |_,_=>none)
 else none
theorem UT{p q:HS K}{m:Nat}(hp:bt m p)(hq:bt m q):aD (4*m+9) (dZ p q):=(hp.1.ax hq.1).mono o_
theorem aCg{p q:HS K}{m:Nat}(hp:bt m p)(hq:bt m q)(h:dZ p q≠0)(hd:dot (dZ p q) (dZ p q)≠0):aD (300*m+1000) (vW p q):=by have hc:=UT hp hq;have h1:=(hq.1.ax hc).smul hp.2;have h2:=(hc.ax hp.1).smul hq.2;have h3:=Sz.div (m:=1) hd (qE (z:=1) d_ d_) (hc.dot hc);exact((h1.add h2).smul h3).mono o_
theorem aL5{s:eR K}{a b:K}{z A C:Nat}(dQ:nL z s.lo)(iq:nL z s.hi)(ha:Sz A a)(hb:Sz C b)(hz:C+7*A+28<=z):nL z (qN s a b).lo/\nL z (qN s a b).hi:=by
 unfold qN;by_cases h0:OF.az a=0
 ·rw[aw h0];exact⟨dQ,iq⟩
 ·rw[ao h0];have oC:a≠0:=λe=>h0 ((OF.e8 a).2 e);have ht:Sz z (b*a⁻¹):=(Sz.div oC hb ha).mono hz;have O9:nL z (some (b*a⁻¹)):=λy e=>by injection e with e;subst e;exact ht
  obtain⟨lo,hi⟩:=s;dsimp only at dQ iq ⊢;split
  ·split
   ·split
    ·exact⟨dQ,O9⟩
    ·exact⟨dQ,iq⟩
   ·exact⟨dQ,O9⟩
  ·split
   ·split
    ·exact⟨O9,iq⟩
    ·exact⟨dQ,iq⟩
   ·exact⟨O9,iq⟩
theorem Pa{b d:V3 K}{m q z:Nat}(hb:aD q b)(hd:aD q d)(hz:m+(3*(m+q)+14)+1+7*(3*(m+q)+14)+28<=z):∀(l:List (HS K)) (s:eR K),(∀ p∈l,bt m p)->nL z s.lo->nL z s.hi->nL z (ow s b d l).lo/\nL z (ow s b d l).hi
 |[],s,_,h1,h2=>⟨h1,h2⟩
 |p::l,s,hl,h1,h2=>by have hp:=hl p (aV ..);obtain⟨q1,q2⟩:=aL5 h1 h2 (hp.1.dot hd) (hp.2.sub (hp.1.dot hb)) hz;exact Pa hb hd hz l _ (λr hr=>hl r (bF _ hr)) q1 q2
theorem aL6{s:eR K}{b d:V3 K}{t:K}{q z:Nat}(hb:aD q b)(hd:aD q d)(ht:Sz z t)(hn:10*q+10*z+100<=aB):
  xC prog 156 20 ([bZ t]++[bX 7,bX 3]) [(6,.aI (qM s b d) 160),(7,.aI [bX 6] 158),(3,.aI (cD d).cs 33)] [] (bB (b+smul d t)) [(6,.aI (qM s b d) 160),(7,.aI [bX 6] 158),(3,.aI (cD d).cs 33)]:=by
 have h1:=tE hd ht o_;have h2:=BK hb (hd.smul ht) o_;obtain⟨lo,hi⟩:=s;cases lo<;>cases hi<;>exact oq mixed func156 100 (N:=13) k_ (λ_=>[.ck f156 6 6 0 k_,h1.at 11,h2.at 12]) (λ_=>k_)
theorem aCh(x:Option K):∀ v∈UR x,flat v=true:=by
 cases x with
 |none=>exact RN.nH zN
 |some y=>exact RN.nH _
theorem Pb(s:eR K)(b d:V3 K):∀ v∈qM s b d,flat v=true:=λv hv=>by
 simp only[qM,ee,cx]at hv;rcases hv with h|h|rfl|rfl|h|h
 ·exact aCh _ v h
 ·exact aCh _ v h
 ·rfl
 ·rfl
 ·exact RV.nH _ v h
 ·exact RV.nH _ v h
theorem zF{m k:Nat}{x:Obj}(h:∀ v∈x.cells,flat v=true):om m (k,x)=true:=bh.2 λv hv=>iI (h v hv)
section
variable{Bs:aa}{ps:List (HS K)}
theorem UU{b d:V3 K}:∀(l:List (HS K)) (s:eR K),vX s b d l=true↔∀(i:Nat) (p:HS K),l[i]?=some p->r8 (ow s b d (l.take i)) (dot p.n d) (p.d-dot p.n b)=true
 |[],s=>by simp[vX]
 |q::l,s=>by
  unfold vX;rw[da,UU l];constructor
  ·rintro⟨h1,h2⟩ i p hp
   cases i with
   |zero=>simp at hp;subst hp;exact h1
   |succ i=>exact h2 i p (by simpa using hp)
  ·intro h;exact⟨h 0 q rfl,λi p hp=>h (i+1) p (by simpa using hp)⟩
def eI(n i:Nat):aW:=[(54,vI i),(52,sl 0 n),(53,vI n),(0,sl 0 n),(12,bX 7),(8,bX 3)]
def eJ(ps:List (HS K))(s:eR K)(b d:V3 K):aH:=[(0,.view (aK ps)),(6,.aI (qM s b d) 160),(7,.aI [bX 6] 158)]
theorem aL7{s:eR K}{b d:V3 K}:∀ x∈eJ ps s b d,fN 8 x.2:=λx hx=>by
 simp only[eJ,cx,jg,jh]at hx;rcases hx with rfl|rfl|rfl
 ·exact λv hv=>iI (bh.1 (cU ps) v hv)
 ·exact λv hv=>iI (Pb _ _ _ v hv)
 ·exact Da (p:=(7,.aI [bX 6] 158)) k_
theorem aL8{s:eR K}{p:HS K}{b d:V3 K}{m q z:Nat}(hp:bt m p)(hb:aD q b)(hd:aD q d)(dQ:nL z s.lo)(iq:nL z s.hi)(hn:1000*(m+q)+100*z+10000<=aB){o:Oper}{x:Operand}(ho:dw o.op=some x):
  cB prog Bs o [.func (.func 155) #[] #[],bX 6,cC p] [(6,some (.aI (qM s b d) 160))] (.bool (r8 s (dot p.n d) (p.d-dot p.n b))) [(6,.aI (qM (qN s (dot p.n d) (p.d-dot p.n b)) b d) 160)]:=
 OZ (K:=20) (args:=[bX 6,cC p]) (ca:=[]) (Os:=[(6,.aI (qM s b d) 160)]) (Vs:=[]) (aL3 hp hb hd dQ iq hn) ho k_ k_ k_ (by simp only[je,dH,fp,iU];rw[zF (x:=.aI (qM s b d) 160) (Pb _ _ _)];rfl)
  (by simp only[dH,fp,iU];exact zF (x:=.aI (qM (qN s (dot p.n d) (p.d-dot p.n b)) b d) 160) (Pb _ _ _)) rfl rfl rfl rfl
noncomputable def eS{s:eR K}{i:Nat}{p:HS K}{b d:V3 K}{m q z:Nat}{t:Bool}(hi:i<ps.length)(iW:ps[i]?=some p)(hp:bt m p)(hb:aD q b)(hd:aD q d)(dQ:nL z s.lo)(iq:nL z s.hi)(hn:1000*(m+q)+100*z+10000<=aB)(ht:r8 s (dot p.n d) (p.d-dot p.n b)=t)(more:bA prog Bs 89):bA prog Bs 89:=
 .lt 55 i ps.length true (aC hi)::.cY f115 56 0 ps.length i 40 hi k_::.ld f115 57 35 0 (i*40) (.view (aK ps)) (cC p) rfl (xE iW) k_::
  .step 60 (av f115 60) _ _ (.bool t) _ (ht▸aL8 (x:=.func 155) hp hb hd dQ iq hn k_)::more
theorem aL9{s:eR K}{i:Nat}{p:HS K}{b d:V3 K}{m q z:Nat}(hi:i<ps.length)(iW:ps[i]?=some p)(hp:bt m p)(hb:aD q b)(hd:aD q d)(dQ:nL z s.lo)(iq:nL z s.hi)(hn:1000*(m+q)+100*z+10000<=aB)(h63:ps.length<9223372036854775807)
  (ht:r8 s (dot p.n d) (p.d-dot p.n b)=true):ag prog Bs 89 (aF (af f115 0)) (eI ps.length i) (eJ ps s b d) 8 ⟨.normal,eI ps.length (i+1),eJ ps (qN s (dot p.n d) (p.d-dot p.n b)) b d,8⟩:=
 vu mixed 100 (hZ:=9) (eS hi iW hp hb hd dQ iq hn ht [.sum 62 i 1 (i+1) rfl o_]) k_ rfl k_ aL7 k_
theorem aMa{s:eR K}{i:Nat}{p:HS K}{b d:V3 K}{m q z:Nat}(hi:i<ps.length)(iW:ps[i]?=some p)(hp:bt m p)(hb:aD q b)(hd:aD q d)(dQ:nL z s.lo)(iq:nL z s.hi)(hn:1000*(m+q)+100*z+10000<=aB)
  (ht:r8 s (dot p.n d) (p.d-dot p.n b)=false):ag prog Bs 89 (aF (af f115 0)) (eI ps.length i) (eJ ps s b d) 8 ⟨.ret,[(6,.slice none 0 0),(7,.bool false)],eJ ps (qN s (dot p.n d) (p.d-dot p.n b)) b d,9⟩:=
 aA (eS hi iW hp hb hd dQ iq hn ht [])
theorem aMb{s:eR K}{b d:V3 K}:ag prog Bs 89 (aF (af f115 0)) (eI ps.length ps.length) (eJ ps s b d) 8 ⟨.exit 0,[(12,bX 7),(8,bX 3)],eJ ps s b d,8⟩:=
 aA [.lt 55 ps.length ps.length false s_]
theorem aCi{b d:V3 K}(s s':eR K)(k:Nat):ah (eJ ps s b d) k=none↔ah (eJ ps s' b d) k=none:=Fk (L':=eJ ps s b d) (L:=eJ ps s' b d) rfl k
theorem aMc{b d:V3 K}{m q z:Nat}(bW:∀ p∈ps,bt m p)(hb:aD q b)(hd:aD q d)(hz:m+(3*(m+q)+14)+1+7*(3*(m+q)+14)+28<=z)(hn:1000*(m+q)+100*z+10000<=aB)(h63:ps.length<9223372036854775807):
  (vX ⟨none,none⟩ b d ps=true->ag prog Bs 89 (.block 0 (af f115 0)) (eI ps.length 0) (eJ ps ⟨none,none⟩ b d) 8 ⟨.normal,[(12,bX 7),(8,bX 3)],eJ ps (ow ⟨none,none⟩ b d ps) b d,8⟩)/\
  (vX ⟨none,none⟩ b d ps=false->∃ s,ag prog Bs 89 (.block 0 (af f115 0)) (eI ps.length 0) (eJ ps ⟨none,none⟩ b d) 8 ⟨.ret,[(6,.slice none 0 0),(7,.bool false)],eJ ps s b d,9⟩):=by
 have Pc:∀ i,nL z (ow ⟨none,none⟩ b d (ps.take i)).lo/\nL z (ow ⟨none,none⟩ b d (ps.take i)).hi:=λi=>Pa hb hd hz (ps.take i) _ (λp hp=>bW p (FD hp)) n_ n_;have tk:∀{i:Nat} {p:HS K},ps[i]?=some p->ps.take (i+1)=ps.take i++[p]:=λh=>by rw[tK,h];rfl
 let KQ:Nat->Bool:=λi=>match ps[i]? with|some p=>r8 (ow ⟨none,none⟩ b d (ps.take i)) (dot p.n d) (p.d-dot p.n b)|none=>true
 have Pd:∀{i:Nat} {p:HS K},ps[i]?=some p->KQ i=r8 (ow ⟨none,none⟩ b d (ps.take i)) (dot p.n d) (p.d-dot p.n b):=λh=>by simp only[KQ,h]
 have tH:∀ e,e<=ps.length->(∀ i,i<e->KQ i=true)->∀ i,i<e->
   ag prog Bs 89 (aF (af f115 0)) (eI ps.length i) (eJ ps (ow ⟨none,none⟩ b d (ps.take i)) b d) 8 ⟨.normal,eI ps.length (i+1),eJ ps (ow ⟨none,none⟩ b d (ps.take (i+1))) b d,8⟩:=λe he ay i hi=>by
  have ak:i<ps.length:=by omega
  have hp:ps[i]?=some ps[i]:=bf ak;have h:=ay i hi;rw[Pd hp]at h;rw[tk hp,aCf];exact aL9 ak hp (bW _ (dM ak)) hb hd (Pc i).1 (Pc i).2 hn h63 h
 refine⟨λbd=>?_,λgE=>?_⟩
 ·have ay:∀ i,i<ps.length->KQ i=true:=λi hi=>by have hp:ps[i]?=some ps[i]:=bf hi;rw[Pd hp];exact(UU ps _).1 bd i _ hp
  have:=cd (P:=prog) (B:=Bs) (N:=89) ps.length (λi=>eI ps.length i) (λi=>eJ ps (ow ⟨none,none⟩ b d (ps.take i)) b d) (λi k _=>aCi _ _ k) (tH ps.length (bj _) ay) aMb n_;rw[mQ]at this;exact bT (id:=0) this
 ·rcases FA (λi=>!KQ i) (List.range ps.length)with Cj|⟨e,y,h1,h2,h3⟩
  ·exfalso;have:vX ⟨none,none⟩ b d ps=true:=(UU ps _).2 λi p hp=>by have ak:=(ew.1 hp).1;have:=Cj i (kh.2 ak);rw[Pd hp]at this;simpa using this
   rw[this]at gE;cases gE
  ·have ak:e<ps.length:=by have:=(ew.1 h1).1;rwa[yG]at this
   have hy:y=e:=by rw[KO ak]at h1;injection h1 with h1;exact h1.symm
   subst hy;have hp:ps[y]?=some ps[y]:=bf ak;rw[Pd hp]at h2
   have:=cd (P:=prog) (B:=Bs) (N:=89) y (λi=>eI ps.length i) (λi=>eJ ps (ow ⟨none,none⟩ b d (ps.take i)) b d) (λi k _=>aCi _ _ k)
    (tH y o_ λi hi=>by have:=h3 i i hi (KO o_);simpa using this) (aMa ak hp (bW _ (dM ak)) hb hd (Pc y).1 (Pc y).2 hn (by simpa using h2)) n_
   exact⟨_,bT (id:=0) this⟩
end
theorem aCj{Bs:aa}{s:eR K}{b d:V3 K}{t:K}{q z:Nat}(hb:aD q b)(hd:aD q d)(ht:Sz z t)(hn:10*q+10*z+100<=aB){o:Oper}{x:Operand}(ho:dw o.op=some x):
  cB prog Bs o [.func (.func 156) #[] #[bX 7,bX 3],bZ t] [(6,some (.aI (qM s b d) 160)),(7,some (.aI [bX 6] 158)),(3,some (.aI (cD d).cs 33))] (bB (b+smul d t)) []:=by
 have l6:om 20 (6,.aI (qM s b d) 160)=true:=zF (x:=.aI (qM s b d) 160) (Pb _ _ _);have l7:om 20 (7,.aI [bX 6] 158)=true:=k_;have l3:om 20 (3,.aI (cD d).cs 33)=true:=k_
 exact aB6 (K:=20) (args:=[bZ t]) (ca:=[bX 7,bX 3]) (Os:=[(6,.aI (qM s b d) 160),(7,.aI [bX 6] 158),(3,.aI (cD d).cs 33)]) (Vs:=[]) (aL6 hb hd ht hn) ho k_ k_ k_
  (by simp only[je,dH,fp,iU,l6,l7,l3];rfl) (by simp only[dH,fp,iU,l6,l7,l3]) rfl rfl
set_option maxRecDepth 8000 in
theorem aMd{ps:List (HS K)}{p q:HS K}{m:Nat}(bW:∀ p∈ps,bt m p)(hp:bt m p)(hq:bt m q)(hm:10000000*(m+10)<=aB)(h63:ps.length<9223372036854775807)(lH:dZ p q≠0->dot (dZ p q) (dZ p q)≠0):
  match FC ps p q with
  |some (u,v)=>HW prog 115 [fC ps,.p (cC p),.p (cC q)] 33 30 2 (aL [u,v]) (.bool true)
  |none=>cy prog 115 [fC ps,.p (cC p),.p (cC q)] (.tuple #[.slice none 0 0,.bool false]):=by
 have ay:([fC ps,.p (cC p),.p (cC q)].all aR.ok)=true:=by simp only[dH,fp,fC,aR.ok,cU,iU,kD];rfl
 have c1:aE prog 112 [bB p.n,bB q.n] (bB (dZ p q)):=vS hp.1 hq.1 o_;have hD:=UT hp hq;have z1:=Dj hD o_;unfold FC;by_cases h0:dZ p q=0
 ·rw[aw h0];rw[aC h0]at z1;exact dW func115 ay 89 (λ_=>[c1.at 20,z1.at 22])
 ·rw[ao h0];rw[aN h0]at z1;have kf:=lH h0;obtain⟨r,hr⟩:∃ r,r=300*m+1000:=⟨_,rfl⟩;obtain⟨z,hz⟩:∃ z,z=30*(m+r)+500:=⟨_,rfl⟩;have hB:aD r (vW p q):=hr▸aCg hp hq h0 kf;have FE:aD r (dZ p q):=hD.mono o_;have c2:=vS hq.1 hD o_;have s2:=tE (hq.1.ax hD) hp.2 o_;have c3:=vS hD hp.1 o_;have s3:=tE (hD.ax hp.1) hq.2 o_;have a1:=BK ((hq.1.ax hD).smul hp.2) ((hD.ax hp.1).smul hq.2) o_;have o1:=rX (z:=1) d_;have dd:=uV hD hD o_;have one:Sz 1 (kI 1):=qE d_ d_;have hDD:=hD.dot hD;have dv:=HF kf one hDD o_;have mL:=Sz.div kf one hDD;have s4:=tE (((hq.1.ax hD).smul hp.2).add ((hD.ax hp.1).smul hq.2)) mL o_;have lo:=λBs=>aMc (Bs:=Bs) (ps:=ps) (m:=m) (q:=r) (z:=z) bW hB FE o_ o_ h63;have zs:=Pa (m:=m) (q:=r) (z:=z) hB FE o_ ps ⟨none,none⟩ bW n_ n_;unfold KP;have e1:smul (smul (ax q.n (dZ p q)) p.d+smul (ax (dZ p q) p.n) q.d) (kI 1*(dot (dZ p q) (dZ p q))⁻¹)=vW p q:=rfl;rw[e1]at s4;generalize vW p q=eb at *;generalize dZ p q=ed at *;by_cases hs:vX ⟨none,none⟩ eb ed ps=true
  ·rw[aw hs];have Cn:=λBs=>(lo Bs).1 hs;clear lo;obtain⟨zl,zh⟩:=zs;generalize ow ⟨none,none⟩ eb ed ps=sg at *;obtain⟨l,h⟩:=sg;rcases l with _|l
   ·cases h<;>exact dW func115 ay 89 (λw=>[c1.at 20,z1.at 22,c2.at 26,s2.at 29,c3.at 33,s3.at 36,a1.at 37,o1.at 39,dd.at 42,dv.at 43,s4.at 48,.code 0 _ _ _ _ _ (Cn _),.ck f115 64 6 0 k_])
   ·rcases h with _|h
    ·exact dW func115 ay 89 (λw=>[c1.at 20,z1.at 22,c2.at 26,s2.at 29,c3.at 33,s3.at 36,a1.at 37,o1.at 39,dd.at 42,dv.at 43,s4.at 48,.code 0 _ _ _ _ _ (Cn _),.ck f115 64 6 0 k_,.ck f115 70 6 0 k_])
    ·exact aL4 (k:=8) mixed func115 ay 100 (N:=89) k_ (λw=>[c1.at 20,z1.at 22,c2.at 26,s2.at 29,c3.at 33,s3.at 36,a1.at 37,o1.at 39,dd.at 42,dv.at 43,s4.at 48,.code 0 _ _ _ _ _ (Cn _),.ck f115 64 6 0 k_,.ck f115 70 6 0 k_,.ck f115 78 6 0 k_,.step 81 (av f115 81) _ _ _ _ (aCj (s:=⟨some l,some h⟩) (x:=.tmp 76) hB FE (zl l rfl) o_ k_),.ck f115 84 6 0 k_,.step 87 (av f115 87) _ _ _ _ (aCj (s:=⟨some l,some h⟩) (x:=.tmp 82) hB FE (zh h rfl) o_ k_),.bs f115 88 8 2 33 30 [0,1] zV.v [bB (eb+smul ed l),bB (eb+smul ed h)] (aL [eb+smul ed l,eb+smul ed h]).toArray (.row (aL [eb+smul ed l,eb+smul ed h]) 33 30) rfl (bh.1 k_) (bh.1 (dJ _)) k_ k_ d_ d_ k_]) (λ_=>k_) (dJ _) k_ k_
  ·rw[ao hs];have Cn:=λBs=>(lo Bs).2 (by simpa using hs);exact dW func115 ay 89 (λw=>[c1.at 20,z1.at 22,c2.at 26,s2.at 29,c3.at 33,s3.at 36,a1.at 37,o1.at 39,dd.at 42,dv.at 43,s4.at 48,.code 0 _ _ _ _ _ (Cn _).choose_spec])
def pq(p q:Int):K:=(Fr.mk p 0 0 0 q).val
theorem UW{p q:Int}(hq:q≠0):bZ (pq p q)=gG (Fr.mk p 0 0 0 q).low:=by show(rW (bJ (Fr.mk p 0 0 0 q).val)).v=(rW _).v;rw[E6 (x:=Fr.mk p 0 0 0 q) hq]
theorem KR{p q:Int}{n:Nat}(hq:q≠0)(h1:p.natAbs<2^n)(h2:q.natAbs<2^n):Sz n (pq p q):=by unfold Sz pq;rw[E6 (x:=Fr.mk p 0 0 0 q) hq];have hp:0<2^n:=cG d_;exact dD.low ⟨h1,hp,hp,hp,h2⟩ hq
def sj(l:List (V3 K)):V3 K:=l.foldl (·+·) ⟨kI 0,kI 0,kI 0⟩
def tL(l:List (V3 K)):V3 K:=smul (sj l) (pq 1 l.length)
theorem aCk(l:List (V3 K))(v:V3 K):sj (l++[v])=sj l+v:=by unfold sj;rw[UX];rfl
theorem KS{m:Nat}(l:List (V3 K))(hl:∀ v∈l,aD m v):aD (1+l.length*(m+1)) (sj l):=by
 have key:∀(l:List (V3 K)) (u:V3 K) (n:Nat),(∀ v∈l,aD m v)->aD n u->aD (n+l.length*(m+1)) (l.foldl (·+·) u):=by
  intro l;induction l with
  |nil=>intro u n _ h;exact h.mono o_
  |cons v l ih=>
   intro u n hl h;have:=ih (u+v) (n+m+1) (λx hx=>hl x (bF _ hx)) (h.add (hl v (aV ..)));refine this.mono ?_;rw[oA,yH];omega
 exact key l _ 1 hl KI
def qc(ps:List (HS K))(vs:List (V3 K)):Bool:=!decide (vs.length=0)&&!ps.any λp=>decide (OF.az (dot p.n (tL vs)-p.d)>=0)
section
variable{Bs:aa}{ps:List (HS K)}{vs:List (V3 K)}
def KT(n i:Nat):aW:=[(17,vI i),(15,sl 1 n),(16,vI n),(5,bX 2)]
def tO(vs:List (V3 K))(s:V3 K):aH:=[(1,.view (aL vs)),(2,.aI (cD s).cs 33)]
theorem aMe{s:V3 K}:∀ x∈tO vs s,fN 3 x.2:=λx hx=>by
 simp only[tO,cx,jg,jh]at hx;rcases hx with rfl|rfl
 ·exact λv hv=>iI (bh.1 (dJ vs) v hv)
 ·exact λv hv=>iI (RV.nH _ v hv)
theorem aMf{i:Nat}{v s:V3 K}{m n:Nat}(hi:i<vs.length)(hv:vs[i]?=some v)(hs:aD n s)(hm:aD m v)(cS:m+n<aB)(h63:vs.length<9223372036854775807):
  ag prog Bs 38 (aF (af f74 0)) (KT vs.length i) (tO vs s) 3 ⟨.normal,KT vs.length (i+1),tO vs (s+v),3⟩:=
 vu mixed 100 (hZ:=4) [.lt 18 i vs.length true (aC hi),.cY f74 19 1 vs.length i 30 hi k_,.ld f74 20 33 1 (i*30) (.view (aL vs)) (bB v) rfl (lf hv) k_,(BK hs hm o_).at 23,.sum 24 i 1 (i+1) rfl o_] k_ rfl k_ aMe k_
theorem aMg{s:V3 K}:ag prog Bs 38 (aF (af f74 0)) (KT vs.length vs.length) (tO vs s) 3 ⟨.exit 0,[(5,bX 2)],tO vs s,3⟩:=
 aA [.lt 18 vs.length vs.length false s_]
theorem aMh(s s':V3 K)(k:Nat):ah (tO vs s) k=none↔ah (tO vs s') k=none:=Fk (L':=tO vs s) (L:=tO vs s') rfl k
theorem aMi{m:Nat}(aO:∀ v∈vs,aD m v)(hm:m+(1+vs.length*(m+1))<aB)(h63:vs.length<9223372036854775807):
  ag prog Bs 38 (.block 0 (af f74 0)) (KT vs.length 0) (tO vs ⟨kI 0,kI 0,kI 0⟩) 3 ⟨.normal,[(5,bX 2)],tO vs (sj vs),3⟩:=by
 have:=cd (P:=prog) (B:=Bs) (N:=38) vs.length (λi=>KT vs.length i) (λi=>tO vs (sj (vs.take i))) (λi k _=>aMh _ _ k) (λi hi=>by have hv:vs[i]?=some vs[i]:=bf hi;have hs:=KS (m:=m) (vs.take i) λv hv=>aO v (FD hv);have hle:(vs.take i).length*(m+1)<=vs.length*(m+1):=e6 _ (by rw[jw];omega);rw[tK,hv];show ag _ _ _ _ _ _ _ ⟨_,_,tO vs (sj (vs.take i++[vs[i]])),_⟩;rw[aCk];exact aMf hi hv hs (aO _ (dM hi)) o_ h63) (by rw[mQ];exact aMg) n_
 exact bT (id:=0) this
theorem aMj{m q:Nat}(bW:∀ p∈ps,bt m p/\p.n≠0)(aO:∀ v∈vs,aD q v)(hm:100*(m+vs.length*(q+1))+10000<=aB)(h63:vs.length<2^40)(aMk:ps.length<9223372036854775807):cy prog 74 [fC ps,uX vs] (.bool (qc ps vs)):=by
 have ay:([fC ps,uX vs].all aR.ok)=true:=by simp only[dH,fp,fC,uX,aR.ok,cU,dJ,iU]
 unfold qc;by_cases h0:vs.length=0
 ·rw[aC h0];exact dW func74 ay 38 (λw=>[.fk 13 vs.length 0 true (by simp[h0])])
 ·rw[aN h0];have tt:q+1<=vs.length*(q+1):=Pe _ o_;have lo:=λBs=>aMi (Bs:=Bs) aO o_ o_;have aU:(vs.length:Int)≠0:=by omega
  have rt:=N4 (p:=1) (q:=(vs.length:Int)) (n:=40) aU d_ (by simpa using h63) d_;rw[<-UW aU]at rt;have hr:=KR (p:=1) (q:=(vs.length:Int)) (n:=40) aU d_ (by simpa using h63);have hs:=KS vs aO;have sc:=tE hs hr o_;have vY:aD (1+vs.length*(q+1)+40+4) (tL vs):=hs.smul hr;have hc:=UO (g:=122) (caps:=(cD (tL vs)).cs) (ps:=ps) (b:=λp=>decide (OF.az (dot p.n (tL vs)-p.d)>=0)) k_ (bh.2 (RV.nH _)) aMk λp hp=>aLQ (bW p hp).1 vY o_ (bW p hp).2;have e:smul (sj vs) (pq 1 (vs.length:Int))=tL vs:=rfl;rw[e]at sc;generalize (ps.any λp=>decide (OF.az (dot p.n (tL vs)-p.d)>=0))=t at *;generalize tL vs=mv at *;exact dW func74 ay 38 (λw=>[.fk 13 vs.length 0 false (by simp[h0]),(uU (a:=0) (b:=0) (c:=0) d_ d_ d_).at 14,.code 0 _ _ _ _ _ (lo _),rt.at 28,sc.at 33,.step 36 (av f74 36) [.func (.func 70) #[] #[],sl 0 ps.length,.func (.func 122) #[] #[bX 4]] [(0,some (.view (aK ps))),(4,some (.aI (cD mv).cs 33))] (.bool t) []
   (dz hc (.w (x:=.view (aK ps)) rfl (cU ps) iD (.f (x:=.aI (cD mv).cs 33) rfl (bh.2 (RV.nH _)) .nil)) (x:=.func 70) k_ k_ rfl)])
end
def qO(ps:List (HS K))(p q:HS K):List (V3 K):=match FC ps p q with|some (u,v)=>[u,v]|none=>[]
def lg(ps:List (HS K))(p:HS K)(l:List (HS K)):List (V3 K):=l.flatMap (qO ps p)
theorem aMl{ps:List (HS K)}{p q:HS K}(l:List (HS K)):lg ps p (l++[q])=lg ps p l++qO ps p q:=by unfold lg;rw[UI];simp
theorem aMm(ps:List (HS K))(p q:HS K):(qO ps p q).length<=2:=by
 unfold qO;split
 ·exact bj _
 ·exact kT _
theorem UY(ps:List (HS K))(p:HS K):∀ l:List (HS K),(lg ps p l).length<=2*l.length
 |[]=>kT _
 |q::l=>by have h1:=UY ps p l;have h2:=aMm ps p q;show(qO ps p q++lg ps p l).length<=_;rw[iZ,oA];omega
theorem sk(l:List (V3 K)):(aL l).length=l.length*30:=by unfold aL;rw[tF ga,eY]
theorem UZ(l m:List (V3 K)):aL l++aL m=aL (l++m):=by unfold aL cF;rw[sW,HT]
theorem KU(l:List (V3 K)):∀ v∈aL l,v.oneCell'=true:=λv hv=>by unfold aL cF dc at hv;rw[BM]at hv;obtain⟨x,_,hx⟩:=hv;exact ga.one x v hx
section
variable{Bs:aa}{ps:List (HS K)}
def KV(n i j L:Nat):aW:=[(21,vI j),(19,sl 0 i),(20,vI i),(0,sl 0 n),(5,bX 2),(3,sl 3 L)]
def zG(ps:List (HS K))(p:HS K):aH:=[(0,.view (aK ps)),(2,.aI (cH p).cs 35)]
def qP(acc:List (V3 K)):List Obj:=[.row (aL acc) 33 30]
theorem aMn{i j m:Nat}{p q:HS K}{acc:List (V3 K)}(hj:j<i)(mT:i<=ps.length)(hq:ps[j]?=some q)(bW:∀ p∈ps,bt m p)(hp:bt m p)(hm:10000000*(m+10)<=aB)(h63:ps.length<1000)(U0:acc.length<=1000000)(lH:dZ p q≠0->dot (dZ p q) (dZ p q)≠0):
  ∃ σ hZ,(∀ BO:List (V3 K),CL (zG ps p++dT [some 1] (qP BO)) 3 σ (KV ps.length i (j+1) (acc++qO ps p q).length) (zG ps p) (qP (acc++qO ps p q))=true)/\
   ag prog Bs 42 (aF (af f73 2)) (KV ps.length i j acc.length) (zG ps p++marks 3 (qP acc)) 4 ⟨.normal,gQ 3 σ (KV ps.length i (j+1) (acc++qO ps p q).length),zG ps p++dT σ (qP (acc++qO ps p q)),hZ⟩:=by
 have he:=aMd bW hp (bW q (cQ hq)) hm o_ lH;unfold qO;cases hk:FC ps p q with
 |none=>
  rw[hk]at he;dsimp only at he ⊢;rw[je];refine⟨[some 3],5,λBO=>k_,?_⟩;exact aA [.lt 22 j i true (aC hj),.cY f73 23 0 i j 40 hj k_,.ld f73 24 35 0 (j*40) (.view (aK ps)) (cC q) rfl (xE hq) k_,.step 29 (av f73 29) [.func (.func 115) #[] #[],sl 0 ps.length,cC p,cC q] [(0,some (.view (aK ps)))] (.tuple #[.slice none 0 0,.bool false]) []
    (dz he (.w (x:=.view (aK ps)) rfl (cU ps) iD (.p k_ (.p k_ .nil))) (x:=.func 115) k_ k_ k_),.sum 36 j 1 (j+1) rfl o_]
 |some uv=>
  obtain⟨u,v⟩:=uv;rw[hk]at he;dsimp only at he ⊢;have hl:(acc++[u,v]).length=acc.length+2:=by simp
  rw[hl];refine⟨[some 6],7,λBO=>k_,?_⟩;exact aA [.lt 22 j i true (aC hj),.cY f73 23 0 i j 40 hj k_,.ld f73 24 35 0 (j*40) (.view (aK ps)) (cC q) rfl (xE hq) k_,.step 29 (av f73 29) [.func (.func 115) #[] #[],sl 0 ps.length,cC p,cC q] [(5,none),(0,some (.view (aK ps)))] (.tuple #[sl 5 2,.bool true]) [(5,.row (aL [u,v]) 33 30)]
    (US he (.w (x:=.view (aK ps)) rfl (cU ps) iD (.p k_ (.p k_ .nil))) (x:=.func 115) k_ k_ (dJ _) k_ 5),
   .pa f73 35 6 3 acc.length 2 (acc.length+2) 33 30 360 (aL acc) 5 (.row (aL [u,v]) 33 30) (aL (acc++[u,v])) rfl rfl (sk _) (sk _) (UZ _ _) (KU _) d_ (by simp[maxLen];omega) o_ k_,
   .sum 36 j 1 (j+1) rfl o_]
theorem aMo{p:HS K}:∀ x∈zG ps p,fN 3 x.2:=λx hx=>by
 simp only[zG,cx,jg,jh]at hx;rcases hx with rfl|rfl
 ·exact λv hv=>iI (bh.1 (cU ps) v hv)
 ·exact λv hv=>iI (iC.flat _ v hv)
theorem aCl{m:Nat}{acc:List (V3 K)}:∀ x∈qP acc,fN m x:=λx hx=>by simp only[qP,cx,jg,jh]at hx;subst hx;exact λv hv=>iI (bh.1 (dJ acc) v hv)
theorem aMp{i m:Nat}{p:HS K}{acc:List (V3 K)}(mT:i<=ps.length)(bW:∀ p∈ps,bt m p)(hp:bt m p)(hm:10000000*(m+10)<=aB)(h63:ps.length<=500)(U0:acc.length+2*i<=1000000)
  (lH:∀ p q:HS K,dZ p q≠0->dot (dZ p q) (dZ p q)≠0) :
  ag prog Bs 42 (.block 2 (af f73 2)) (gQ 3 [some 1] (KV ps.length i 0 acc.length)) (zG ps p++dT [some 1] (qP acc)) 3
   ⟨.normal,[(3,sl 3 (acc++lg ps p (ps.take i)).length)],zG ps p++marks 3 (qP (acc++lg ps p (ps.take i))),4⟩:=by
 have hlen:∀ j,j<=i->(acc++lg ps p (ps.take j)).length<=1000000:=λj hj=>by have:=UY ps p (ps.take j);rw[jw]at this;rw[iZ];omega
 have:=rQ (P:=prog) (B:=Bs) (N:=42) (b:=aF (af f73 2)) (next:=3) (p:=1) (r:=⟨.exit 2,[(3,sl 3 (acc++lg ps p (ps.take i)).length)],zG ps p++marks 3 (qP (acc++lg ps p (ps.take i))),4⟩) i
  (λj=>KV ps.length i j (acc++lg ps p (ps.take j)).length) (λ_=>zG ps p) (λj=>qP (acc++lg ps p (ps.take j))) [some 1] (λ_ _=>rfl) (λj _=>⟨aMo,aCl⟩) k_ k_
  (λj hj=>by
   have hq:ps[j]?=some ps[j]:=bf o_;have e:acc++lg ps p (ps.take (j+1))=(acc++lg ps p (ps.take j))++qO ps p ps[j]:=by
    rw[tK,hq,Ep]
    congr 1
    exact aMl _
   obtain⟨σ,hZ,h1,h2⟩:=aMn (Bs:=Bs) (acc:=acc++lg ps p (ps.take j)) hj mT hq bW hp hm o_ (hlen j o_) (lH p ps[j]);rw[e];exact⟨σ,hZ,h1 _,h2⟩)
  (by generalize acc++lg ps p (ps.take i)=a;exact aA [.lt 22 i i false s_]) n_
 have e0:acc++lg ps p (ps.take 0)=acc:=by simp[lg]
 rw[e0]at this;exact bT (id:=2) this
def KW(ps:List (HS K))(i:Nat):List (V3 K):=match ps[i]? with|some p=>lg ps p (ps.take i)|none=>[]
def mU(ps:List (HS K))(n:Nat):List (V3 K):=(List.range n).flatMap (KW ps)
theorem Pf{i:Nat}{p:HS K}(h:ps[i]?=some p):KW ps i=lg ps p (ps.take i):=by unfold KW;rw[h]
theorem aCm(n:Nat):mU ps (n+1)=mU ps n++KW ps n:=by unfold mU;rw[HB,UI];simp
theorem Pg:∀ n,n<=ps.length->(mU ps n).length<=n*(2*ps.length)
 |0,_=>by simp[mU]
 |n+1,h=>by have h1:=Pg n o_;have hp:ps[n]?=some ps[n]:=bf o_;have h2:=UY ps ps[n] (ps.take n);rw[jw]at h2;rw[aCm,Pf hp,iZ,yH];omega
def Ph(n i L:Nat):aW:=[(12,vI i),(10,sl 0 n),(11,vI n),(0,sl 0 n),(3,sl 1 L)]
def Dn(ps:List (HS K)):aH:=[(0,.view (aK ps))]
theorem aMq{m:Nat}:∀ x∈Dn ps,fN m x.2:=λx hx=>by simp only[Dn,cx,jg,jh]at hx;subst hx;exact λv hv=>iI (bh.1 (cU ps) v hv)
theorem aMr{i m:Nat}{p:HS K}{acc:List (V3 K)}(hi:i<ps.length)(iW:ps[i]?=some p)(bW:∀ p∈ps,bt m p)(hm:10000000*(m+10)<=aB)(h63:ps.length<=500)(U0:acc.length+2*i<=1000000)
  (lH:∀ p q:HS K,dZ p q≠0->dot (dZ p q) (dZ p q)≠0) :
  ag prog Bs 42 (aF (af f73 0)) (Ph ps.length i acc.length) (Dn ps++marks 1 (qP acc)) 2
   ⟨.normal,gQ 1 [some 3] (Ph ps.length (i+1) (acc++lg ps p (ps.take i)).length),Dn ps++dT [some 3] (qP (acc++lg ps p (ps.take i))),4⟩:=by
 have lo:=aMp (Bs:=Bs) (acc:=acc) (p:=p) (show i<=ps.length by omega) bW (bW p (cQ iW)) hm h63 U0 lH;generalize acc++lg ps p (ps.take i)=a at *;exact aA [.lt 13 i ps.length true (aC hi),.cY f73 15 0 ps.length i 40 hi k_,.ld f73 16 35 0 (i*40) (.view (aK ps)) (cC p) rfl (xE iW) k_,.upto f73 19 0 ps.length i 40 o_ k_,.code 2 _ _ _ _ _ lo,.sum 37 i 1 (i+1) rfl o_]
theorem aMs{m:Nat}(bW:∀ p∈ps,bt m p)(hm:10000000*(m+10)<=aB)(h63:ps.length<=500)(lH:∀ p q:HS K,dZ p q≠0->dot (dZ p q) (dZ p q)≠0):
  ag prog Bs 42 (.block 0 (af f73 0)) (gQ 1 [none] (Ph ps.length 0 0)) (Dn ps++dT [none] (qP [])) 1 ⟨.normal,[(3,sl 1 (mU ps ps.length).length)],Dn ps++marks 1 (qP (mU ps ps.length)),2⟩:=by
 have:=rQ (P:=prog) (B:=Bs) (N:=42) (b:=aF (af f73 0)) (next:=1) (p:=1) (r:=⟨.exit 0,[(3,sl 1 (mU ps ps.length).length)],Dn ps++marks 1 (qP (mU ps ps.length)),2⟩) ps.length
  (λi=>Ph ps.length i (mU ps i).length) (λ_=>Dn ps) (λi=>qP (mU ps i)) [none] (λ_ _=>rfl) (λj _=>⟨aMq,aCl⟩) k_ k_
  (λi hi=>by have hp:ps[i]?=some ps[i]:=bf hi;have hl:=Pg i (by omega:i<=ps.length);have jv:i*(2*ps.length)<=500*1000:=wY o_ o_;refine⟨[some 3],4,k_,?_⟩;rw[aCm,Pf hp];exact aMr hi hp bW hm h63 o_ lH)
  (by generalize mU ps ps.length=a;exact aA [.lt 13 ps.length ps.length false s_]) n_
 exact bT (id:=0) this
end
end
section
open Go Go.RowKit
deriving instance DecidableEq for RI
deriving instance DecidableEq for RN
deriving instance DecidableEq for RV
deriving instance DecidableEq for RP
theorem Dp{α:Type}[DecidableEq α]:∀(a b:List α),a.length=b.length->a=b\/∃(e:Nat) (x y:α),a[e]?=some x/\b[e]?=some y/\x≠y/\∀(j:Nat) (u v:α),j<e->a[j]?=some u->b[j]?=some v->u=v
 |[],[],_=>.inl rfl
 |[],_::_,h=>by cases h
 |_::_,[],h=>by cases h
 |x::a,y::b,h=>by
  by_cases kj:x=y
  ·subst kj;rcases Dp a b (by simpa using h)with h|⟨e,u,v,h1,h2,h3,h4⟩
   ·exact .inl (by rw[h])
   ·refine .inr ⟨e+1,u,v,by simpa using h1,by simpa using h2,h3,λj p q hj hp hq=>?_⟩;cases j with
    |zero=>simp at hp hq;rw[<-hp,<-hq]
    |succ j=>exact h4 j p q o_ (by simpa using hp) (by simpa using hq)
  ·exact .inr ⟨0,x,y,rfl,rfl,kj,λj u v hj=>by omega⟩
section
variable{Bs:aa}{a b:List RV}
def Dq(n i:Nat):aW:=[(13,vI i),(11,sl 0 n),(12,vI n),(0,sl 0 n),(1,sl 1 n)]
def v7(a b:List RV):aH:=[(0,.view (cF a)),(1,.view (cF b))]
noncomputable def aCn{n i:Nat}{x y:RV}{t:Bool}(hi:i<n)(hx:a[i]?=some x)(hy:b[i]?=some y)(kL:x.Sm)(xF:y.Sm)(ht:(!t)=true↔x=y)(more:bA prog Bs 26):bA prog Bs 26:=
 .lt 14 i n true (aC hi)::.cY f65 18 0 n i 30 hi k_::.ld f65 19 33 0 (i*30) (.view (cF a)) x.v rfl (r6 hx) k_::.cY f65 22 1 n i 30 hi k_::.ld f65 23 33 1 (i*30) (.view (cF b)) y.v rfl (r6 hy) k_::
  .step 24 (av f65 24) [x.v,y.v] [] (.bool t) [] (Fb (neg:=false) k_ x y kL xF ht)::more
theorem aCo{n i:Nat}{x:RV}(hi:i<n)(hx:a[i]?=some x)(hy:b[i]?=some x)(kL:x.Sm)(h63:n<9223372036854775807):
  ag prog Bs 26 (aF (af f65 0)) (Dq n i) (v7 a b) 2 ⟨.normal,Dq n (i+1),v7 a b,2⟩:=
 aA (aCn (t:=false) hi hx hy kL kL s_ [.sum 25 i 1 (i+1) rfl o_])
theorem aMt{n i:Nat}{x y:RV}(hi:i<n)(hx:a[i]?=some x)(hy:b[i]?=some y)(kL:x.Sm)(xF:y.Sm)(aU:x≠y):
  ag prog Bs 26 (aF (af f65 0)) (Dq n i) (v7 a b) 2 ⟨.ret,[(4,.bool false)],v7 a b,2⟩:=
 aA (aCn (t:=true) hi hx hy kL xF (by simp[aU]) [])
theorem aMu{n:Nat}:ag prog Bs 26 (aF (af f65 0)) (Dq n n) (v7 a b) 2 ⟨.exit 0,[],v7 a b,2⟩:=
 aA [.lt 14 n n false s_]
theorem aMv(ha:∀ x∈a,x.Sm)(hb:∀ x∈b,x.Sm)(h63:a.length<9223372036854775807):cy prog 65 [.r a.length (cF a),.r b.length (cF b)] (.bool (decide (a=b))):=by
 have ay:([aR.r a.length (cF a),.r b.length (cF b)].all aR.ok)=true:=by simp only[dH,fp,aR.ok,gT ga,iU]
 by_cases hl:a.length=b.length
 ·have aU:(Value.bool (!((a.length:Int)==(b.length:Int))))=.bool false:=by rw[hl];simp
  rcases Dp a b hl with h|⟨e,x,y,h1,h2,h3,h4⟩
  ·rw[aC h];subst h;have lo:∀ B:aa,ag prog B 26 (.block 0 (af f65 0)) (Dq a.length 0) (v7 a a) 2 ⟨.normal,[],v7 a a,2⟩:=λB=>
    bT (id:=0) (cd a.length (λi=>Dq a.length i) (λ_=>v7 a a) (λi k _=>Iff.rfl) (λi hi=>by have hx:a[i]?=some a[i]:=bf hi;exact aCo hi hx hx (ha _ (dM hi)) h63) aMu n_)
   exact dW func65 ay 26 (λw=>[.rw 10 _ _ aU,.code 0 _ _ _ _ _ (lo _)])
  ·have b9:a≠b:=λh=>by subst h;rw[h1]at h2;injection h2 with h2;exact h3 h2
   rw[aN b9];have ak:=(ew.1 h1).1;have lo:∀ B:aa,ag prog B 26 (.block 0 (af f65 0)) (Dq a.length 0) (v7 a b) 2 ⟨.ret,[(4,.bool false)],v7 a b,2⟩:=λB=>
    bT (id:=0) (cd e (λi=>Dq a.length i) (λ_=>v7 a b) (λi k _=>Iff.rfl) (λi hi=>by have hx:a[i]?=some a[i]:=bf o_;have hy:b[i]?=some b[i]:=bf o_;have:=h4 i _ _ hi hx hy;rw[<-this]at hy;exact aCo o_ hx hy (ha _ (dM _)) h63) (aMt ak h1 h2 (ha _ (cQ h1)) (hb _ (cQ h2)) h3) n_)
   have Bx:([aR.r a.length (cF a),.r a.length (cF b)].all aR.ok)=true:=by simp only[dH,fp,aR.ok,gT ga,iU]
   rw[<-hl]at aU ⊢;exact dW func65 Bx 26 (λw=>[.rw 10 _ _ aU,.code 0 _ _ _ _ _ (lo _)])
 ·have b9:a≠b:=λh=>hl (by rw[h]);rw[aN b9];exact dW func65 ay 26 (λw=>[.rw 10 (.bool (!((a.length:Int)==(b.length:Int)))) (.bool true) (by congr 1;simp;omega)])
end
end
section
variable{P:Program}{B:aa}{N:Nat}
theorem aCp{ι:Map}{off:Nat}:∀{l l':aj},bK (aG ι) l l'->∀(k:Nat) {cs bC:Array Value},bK (aG ι) cs.toList bC.toList->
  bK (aG ι) ((l.zipIdx k).foldl (λ(cs:Array Value) p=>cs.setIfInBounds (off+p.2) p.1) cs).toList ((l'.zipIdx k).foldl (λ(cs:Array Value) p=>cs.setIfInBounds (off+p.2) p.1) bC).toList
 |_,_,.nil,k,cs,bC,h=>h
 |_,_,.cons (a:=a) (b:=b) b9 ht,k,cs,bC,h=>by simp only[List.zipIdx_cons,uu];refine aCp ht (k+1) ?_;simp only[aG1];exact h.set b9 _
theorem Pj{ι:Map}{place:Nat->Option (Nat×Nat)}:∀(idx:List Nat) {vs cM:aj} {cs bC r:Array Value},bK (aG ι) vs cM->bK (aG ι) cs.toList bC.toList->Instr.fill place cs (idx.zip vs)=some r->
  ∃ r',Instr.fill place bC (idx.zip cM)=some r'/\bK (aG ι) r.toList r'.toList
 |[],vs,cM,cs,bC,r,_,hc,h=>by simp only[List.zip_nil_left,Instr.fill]at h ⊢;injection h with h;subst h;exact⟨bC,rfl,hc⟩
 |i::idx,_,_,cs,bC,r,.nil,hc,h=>by simp only[List.zip_nil_right,Instr.fill]at h ⊢;injection h with h;subst h;exact⟨bC,rfl,hc⟩
 |i::idx,_,_,cs,bC,r,.cons (a:=v) (b:=v') hv ht,hc,h=>by
  simp only[List.zip_cons_cons,Instr.fill]at h ⊢;split at h
  ·cases h
  ·rename_i off size hp;have iY:=hv.cells;have bH:v'.cells.size=v.cells.size:=by have:=iY.length;simpa using this.symm
   have fV:bC.size=cs.size:=by have:=hc.length;simpa using this.symm
   split at h
   ·cases h
   ·rename_i pI;rw[bH,fV,ao pI];refine Pj idx ht ?_ h;have:=aCp (off:=off) iY 0 hc;rw[<-aA5,<-aA5,Array.toList_zipIdx,Array.toList_zipIdx];exact this
def aCq(o:Oper):Option (TypeId×List Nat):=match o.op with
 |.build t parts=>some (t,parts.toList.map (·.1))
 |_=>none
theorem Pk{o:Oper}{t:TypeId}{idx:List Nat}(ho:aCq o=some (t,idx)){vs:aj}{cells:Array Value}(hz:∀ it z,P.info? t=some it->it.zero=some z->∀ v∈z.cells.toList,flat v=true)(h:P.built t (idx.zip vs)=some cells):
  cB P B o vs [] (.agg cells) []:=by
 unfold aCq at ho;split at ho
 ·rename_i t' parts bP;injection ho with ho;injection ho with h1 h2;subst h1;subst h2;refine gW.step λι c ρ w aO hm hn=>?_;rw[bP]at aO;have aO:bK (aG ι) vs ((parts.toList.map (·.2)).map ρ):=by simpa[Op.operands]using aO
  have hex:∃ cells',P.built t' ((parts.toList.map (·.1)).zip ((parts.toList.map (·.2)).map ρ))=some cells'/\bK (aG ι) cells.toList cells'.toList:=by
   unfold Program.built at h ⊢;split at h
   ·rename_i it n e hi hu;split at h
    ·rename_i z ie U1 hz2;exact Pj _ aO (ke (hz it z hi U1)) h
    ·cases h
   ·rename_i it fields hi hu;split at h
    ·rename_i z places U1 hz2;exact Pj _ aO (ke (hz it z hi U1)) h
    ·cases h
   ·cases h
  obtain⟨cells',e1,e2⟩:=hex;refine⟨ι,.agg cells',w,Map.le.refl _,?_,hm,.inl ?_⟩
  ·have:=aG.agg (ι:=ι) e2;simpa using this
  ·have bW:(parts.map λ(i,x)=>(i,ρ x)).toList=(parts.toList.map (·.1)).zip ((parts.toList.map (·.2)).map ρ):=by rw[<-Nb parts.toList rfl];simp
   have:=run_build (P:=P) w t' (parts.map λ(i,x)=>(i,ρ x)) cells' (by rw[bW];exact e1);simp only[execOp,bP];simp[this]
 ·cases ho
end
def iE:Value->Option Nat
 |.slice (some a) _ _=>some a.block
 |_=>none
def xG(w w':World)(b:Nat):Prop:=∀ cs ty f,w.heap[b]?=some (Go.Obj.cells cs ty f)->w'.heap[b]?=some (Go.Obj.cells cs ty f)
theorem U2{w w':World}{b o:Nat}{u:Value}(h:xG w w' b)(hc:w.cell? ⟨b,o,none⟩=some u):w'.cell? ⟨b,o,none⟩=some u:=by
 unfold World.cell? at hc ⊢;dsimp only at hc ⊢;split at hc
 ·rename_i cs ty f he;rw[h _ _ _ he];exact hc
 ·cases hc
theorem cK.kept{w w':World}{v:Value}{n:Nat}{xs:aj}(h:cK w v n xs)(hs:w.heap.size<=w'.heap.size)(hk:∀ b,iE v=some b->xG w w' b):cK w' v n xs:=by
 rcases h with h|⟨b,o,c,h1,h2,h3,h4⟩
 ·exact .inl h
 ·exact .inr ⟨b,o,c,h1,h2,cv h3 hs,λj u hj=>U2 (hk b (by rw[h1];rfl)) (h4 j u hj)⟩
theorem cK.lt{w:World}{v:Value}{n:Nat}{xs:aj}(h:cK w v n xs){b:Nat}(hb:iE v=some b):b<w.heap.size:=by
 rcases h with ⟨h,_⟩|⟨b',o,c,h1,h2,h3,h4⟩
 ·rw[h]at hb;cases hb
 ·rw[h1]at hb;injection hb with hb;subst hb;exact h3
def ai(l:List Nat):aj:=l.map vI
def iV(z:Int):Value:=.int .i64 z
def eD(l:List Int):aj:=l.map iV
inductive ku(w:World):List (Int×List Int)->aj->Prop
 |nil:ku w [] []
 |cons {i:Int} {l:List Int} {u:Value} {fs:List (Int×List Int)} {cs:aj}:cK w u l.length (eD l)->flat u=true->ku w fs cs->ku w ((i,l)::fs) (iV i::u::cs)
theorem ku.length{w:World}{fs:List (Int×List Int)}{cs:aj}(h:ku w fs cs):cs.length=fs.length*2:=by
 induction h with
 |nil=>rfl
 |cons _ _ _ ih=>simp only[oA,ih];omega
theorem ku.flat{w:World}{fs:List (Int×List Int)}{cs:aj}(h:ku w fs cs):∀ v∈cs,Go.Proofs.YtjjefbkbljlgdaaGreatDoor.flat v=true:=by
 induction h with
 |nil=>intro v hv;cases hv
 |cons _ hu _ ih=>
  intro v hv;rcases cx.1 hv with rfl|hv
  ·rfl
  ·rcases cx.1 hv with rfl|hv
   ·exact hu
   ·exact ih v hv
theorem ku.kept{w w':World}{fs:List (Int×List Int)}{cs:aj}(h:ku w fs cs)(hs:w.heap.size<=w'.heap.size)(hk:∀ u∈cs,∀ b,iE u=some b->xG w w' b):ku w' fs cs:=by
 induction h with
 |nil=>exact .nil
 |cons h1 h2 _ ih=>exact .cons (h1.kept hs (hk _ (bF _ (aV ..)))) h2 (ih λu hu=>hk u (bF _ (bF _ hu)))
theorem ku.lt{w:World}{fs:List (Int×List Int)}{cs:aj}(h:ku w fs cs):∀ u∈cs,∀ b,iE u=some b->b<w.heap.size:=by
 induction h with
 |nil=>intro u hu;cases hu
 |cons h1 _ _ ih=>
  intro u hu b hb;rcases cx.1 hu with rfl|hu
  ·cases hb
  ·rcases cx.1 hu with rfl|hu
   ·exact h1.lt hb
   ·exact ih u hu b hb
def KX(w:World)(v:Value)(fs:List (Int×List Int)):Prop:=∃ cs,cK w v fs.length cs/\ku w fs cs
def Pl(n:Nat)(v:Value)(w:World)(k:Nat):Prop:=
 iE v=some k\/∃ b o c j u,v=.slice (some ⟨b,o,none⟩) n c/\j<n*2/\w.cell? ⟨b,o+j,none⟩=some u/\iE u=some k
theorem Pm{w:World}{v:Value}{fs:List (Int×List Int)}{cs:aj}(h1:cK w v fs.length cs)(h2:ku w fs cs){b o c j:Nat}{u:Value}(hv:v=.slice (some ⟨b,o,none⟩) fs.length c)(hj:j<fs.length*2)(hu:w.cell? ⟨b,o+j,none⟩=some u):u∈cs:=by
 rcases h1 with ⟨h,_⟩|⟨b',o',c',e,_,_,h4⟩
 ·rw[h]at hv;cases hv
 ·rw[e]at hv;injection hv with hv _ _;injection hv with hv;injection hv with e1 e2 _;subst e1;subst e2;have ak:j<cs.length:=by rw[h2.length];exact hj
  have po:cs[j]?=some cs[j]:=bf ak;have:=h4 j _ po;rw[hu]at this;injection this with this;rw[this];exact dM ak
theorem aCr{w w':World}{v:Value}{fs:List (Int×List Int)}(h:KX w v fs)(hs:w.heap.size<=w'.heap.size)(hk:∀ k,Pl fs.length v w k->xG w w' k):
  KX w' v fs/\∀ k,Pl fs.length v w' k->Pl fs.length v w k:=by
 obtain⟨cs,h1,h2⟩:=h;have HX:∀ b,iE v=some b->xG w w' b:=λb hb=>hk b (.inl hb);have Pn:∀ u∈cs,∀ b,iE u=some b->xG w w' b:=λu hu b hb=>by
  rcases h1 with ⟨_,_,h⟩|⟨b',o',c',e,_,_,h4⟩
  ·rw[h]at hu;cases hu
  ·obtain⟨j,hj,rfl⟩:=kM hu;refine hk b (.inr ⟨b',o',c',j,_,e,by rw[<-h2.length];exact hj,h4 j _ (bf hj),hb⟩)
 refine⟨⟨cs,h1.kept hs HX,h2.kept hs Pn⟩,λk hF=>?_⟩;rcases hF with hF|⟨b,o,c,j,u,e,hj,hc,hb⟩
 ·exact .inl hF
 ·have:=Pm (h1.kept hs HX) (h2.kept hs Pn) e hj hc;rcases h1 with ⟨h,_⟩|⟨b',o',c',e',_,_,h4⟩
  ·rw[h]at e;cases e
  ·rw[e']at e;injection e with e1 _ e3;injection e1 with e1;injection e1 with e1 e2 _;subst e1;subst e2;subst e3;have ak:j<cs.length:=by rw[h2.length];exact hj
   have h5:=h4 j _ (bf ak);have h6:=U2 (HX b' (by rw[e'];rfl)) h5;rw[hc]at h6;injection h6 with h6;exact .inr ⟨b',o',c',j,u,e',hj,by rw[h6];exact h5,hb⟩
def dq(fs:List (Int×List Int)):Fact where
 G v w:=KX w v fs
 cO v w k:=Pl fs.length v w k
 lt v w k h hF:=by
  obtain⟨cs,h1,h2⟩:=h;rcases hF with hF|⟨b,o,c,j,u,e,hj,hc,hb⟩
  ·exact h1.lt hF
  ·exact h2.lt u (Pm h1 h2 e hj hc) k hb
 dep v w w' h hs hk:=aCr h hs λk hF cs ty f hc=>(hk k hF).trans hc
 soft _ v w w' h hs hk:=aCr h hs hk
theorem aCs(l:List Int):(eD l).all flat=true:=by rw[bh];intro v hv;obtain⟨z,_,rfl⟩:=dj.1 hv;rfl
theorem FF(cells:aj)(i:Nat):du prog 3 cells i=cells[i]?:=by kernel_rfl
theorem Po{l:List Int}{i:Nat}{z:Int}(h:l[i]?=some z):du prog 3 (eD l) i=some (iV z):=by rw[FF];show(l.map iV)[i]?=_;rw[Ce,h];rfl
section
variable{Bs:aa}{a b:List Int}
def Dr(n i:Nat):aW:=[(13,vI i),(11,sl 0 n),(12,vI n),(0,sl 0 n),(1,sl 1 n)]
def v8(a b:List Int):aH:=[(0,.view (eD a)),(1,.view (eD b))]
noncomputable def aCt{n i:Nat}{x y:Int}{t:Bool}(hi:i<n)(hx:a[i]?=some x)(hy:b[i]?=some y)(ht:(!(x==y))=t)(more:bA prog Bs 26):bA prog Bs 26:=
 .lt 14 i n true (aC hi)::.ix f64 18 0 n i hi k_::.ld f64 19 3 0 i (.view (eD a)) (iV x) rfl (Po hx) k_::.ix f64 22 1 n i hi k_::.ld f64 23 3 1 i (.view (eD b)) (iV y) rfl (Po hy) k_::
  .rw 24 (.bool (!(x==y))) (.bool t) (by rw[ht])::more
theorem aCu{n i:Nat}{x:Int}(hi:i<n)(hx:a[i]?=some x)(hy:b[i]?=some x)(h63:n<9223372036854775807):
  ag prog Bs 26 (aF (af f64 0)) (Dr n i) (v8 a b) 2 ⟨.normal,Dr n (i+1),v8 a b,2⟩:=
 aA (aCt (t:=false) hi hx hy s_ [.sum 25 i 1 (i+1) rfl o_])
theorem aMw{n i:Nat}{x y:Int}(hi:i<n)(hx:a[i]?=some x)(hy:b[i]?=some y)(aU:x≠y):
  ag prog Bs 26 (aF (af f64 0)) (Dr n i) (v8 a b) 2 ⟨.ret,[(4,.bool false)],v8 a b,2⟩:=
 aA (aCt (t:=true) hi hx hy (by simp[aU]) [])
theorem aMx{n:Nat}:ag prog Bs 26 (aF (af f64 0)) (Dr n n) (v8 a b) 2 ⟨.exit 0,[],v8 a b,2⟩:=
 aA [.lt 14 n n false s_]
theorem aMy(h63:a.length<9223372036854775807):cy prog 64 [.r a.length (eD a),.r b.length (eD b)] (.bool (decide (a=b))):=by
 have ay:([aR.r a.length (eD a),.r b.length (eD b)].all aR.ok)=true:=by simp only[dH,fp,aR.ok,aCs,iU]
 by_cases hl:a.length=b.length
 ·have aU:(Value.bool (!((a.length:Int)==(b.length:Int))))=.bool false:=by rw[hl];simp
  rcases Dp a b hl with h|⟨e,x,y,h1,h2,h3,h4⟩
  ·rw[aC h];subst h;have lo:∀ B:aa,ag prog B 26 (.block 0 (af f64 0)) (Dr a.length 0) (v8 a a) 2 ⟨.normal,[],v8 a a,2⟩:=λB=>
    bT (id:=0) (cd a.length (λi=>Dr a.length i) (λ_=>v8 a a) (λi k _=>Iff.rfl) (λi hi=>by have hx:a[i]?=some a[i]:=bf hi;exact aCu hi hx hx h63) aMx n_)
   exact dW func64 ay 26 (λw=>[.rw 10 _ _ aU,.code 0 _ _ _ _ _ (lo _)])
  ·have b9:a≠b:=λh=>by subst h;rw[h1]at h2;injection h2 with h2;exact h3 h2
   rw[aN b9];have ak:=(ew.1 h1).1;have lo:∀ B:aa,ag prog B 26 (.block 0 (af f64 0)) (Dr a.length 0) (v8 a b) 2 ⟨.ret,[(4,.bool false)],v8 a b,2⟩:=λB=>
    bT (id:=0) (cd e (λi=>Dr a.length i) (λ_=>v8 a b) (λi k _=>Iff.rfl) (λi hi=>by have hx:a[i]?=some a[i]:=bf o_;have hy:b[i]?=some b[i]:=bf o_;have:=h4 i _ _ hi hx hy;rw[<-this]at hy;exact aCu o_ hx hy h63) (aMw ak h1 h2 h3) n_)
   have Bx:([aR.r a.length (eD a),.r a.length (eD b)].all aR.ok)=true:=by simp only[dH,fp,aR.ok,aCs,iU]
   rw[<-hl]at aU ⊢;exact dW func64 Bx 26 (λw=>[.rw 10 _ _ aU,.code 0 _ _ _ _ _ (lo _)])
 ·have b9:a≠b:=λh=>hl (by rw[h]);rw[aN b9];exact dW func64 ay 26 (λw=>[.rw 10 (.bool (!((a.length:Int)==(b.length:Int)))) (.bool true) (by congr 1;simp;omega)])
end
section
variable{P:Program}{B:aa}{N:Nat}
def aCv(P:Program)(o:Oper):Bool:=match o.op with
 |.binOp .eql t _ _ _=>(match P.underlying t with|some (.slice _)=>true|_=>false)
 |_=>false
theorem aCw{o:Oper}(ho:aCv P o=true){k off n cc:Nat}(kf:0<n):cB P B o [.slice (some ⟨k,off,some 7⟩) n cc,.slice none 0 0] [] (.bool false) []:=by
 unfold aCv at ho;split at ho
 ·rename_i t x y ty bP;split at ho
  ·rename_i e ht;refine gW.step λι c ρ w aO hm hn=>?_;rw[bP]at aO;obtain⟨u,v,Pp,hu,hv⟩:=jx aO;have Pp:ρ x=u/\ρ y=v:=by simpa[Op.operands]using Pp
   have qo:=hv.eU rfl;rcases hu.gV rfl with ⟨_,h0,_⟩|⟨b,oo,cap,c',hb,lq,mC,he⟩
   ·omega
   ·refine⟨ι,.bool false,w,Map.le.refl _,.same rfl,hm,.inl ?_⟩;simp only[execOp,bP,Pp.1,Pp.2,he,qo];have h2:=Lib.run_eql_slice_nil (P:=P) w t e (some ⟨b,oo+off,none⟩) n c' 0 0 ht;simp only[Option.isNone_some]at h2;simp[eqGuard,h2]
  ·cases ho
 ·cases ho
end
abbrev bz:Nat:=16777216
theorem kv(l:List Nat):∀ u∈ai l,flat u=true:=λu hu=>by obtain⟨x,_,rfl⟩:=dj.1 hu;rfl
theorem gU(l:List Nat):(ai l).all flat=true:=bh.2 (kv l)
theorem lN(l:List Nat):(ai l).length=l.length:=by simp[ai]
theorem dO{l:List Nat}{i x:Nat}(h:l[i]?=some x):du prog 3 (ai l) i=some (vI x):=by rw[FF];simp[ai,h]
theorem Pq(cells:aj)(i:Nat)(z:Int)(h:i<cells.length):eW prog 3 cells i (.int .i64 z)=some (cells.set i (.int .i64 z)):=by
 have e:eW prog 3 cells i (.int .i64 z)=if(Nat.ble (i+1) cells.length&&true)then some (iO cells i [.int .i64 z])else none:=by kernel_rfl
 rw[e,Mp h];rfl
theorem Pr(l:List Nat)(i d:Nat):(ai l).set i (vI d)=ai (l.set i d):=by simp[ai,List.map_set]
theorem wb{l:List Nat}{i d:Nat}(h:i<l.length):eW prog 3 (ai l) i (vI d)=some (ai (l.set i d)):=by rw[<-Pr];exact Pq _ _ _ (by rw[lN];exact h)
theorem KY(n:Nat):List.replicate n (vI 0)=ai (List.replicate n 0):=by simp[ai]
def cJ(a:Nat):aj:=ai (ae bz (nd bz a) a)
def jt(a:Nat):aR:=.r (nd bz a) (cJ a)
theorem U3(a:Nat):(cJ a).length=nd bz a:=by unfold cJ;rw[lN,oE]
theorem sn(a:Nat):(cJ a).all flat=true:=gU _
theorem aMz{a:Nat}(h:nd bz a=0):cJ a=[]:=lv (by rw[U3,h])
theorem aMA{a n:Nat}:a/bz^n%bz<bz:=cE _ d_
theorem aMB{Bs:aa}{n a m:Nat}(hm:m+1<=n)(ha:a<bz^m)(h63:n<=9223372036854775807):
  ag prog Bs 21 (aF (af f139 0)) [(0,sl 0 (m+1))] [(0,.view (ai (ae bz n a)))] 1 ⟨.normal,[(0,sl 0 m)],[(0,.view (ai (ae bz n a)))],1⟩:=by
 have hd:a/bz^m%bz=0:=(GD d_ (cv ha (cZ d_ (yw m)))).2 ha;exact aA [.gt 5 (m+1) 0 true s_,.eX 10 (m+1) 1 m rfl o_,.ix f139 11 0 (m+1) m o_ k_,.ld f139 12 3 0 m (.view (ai (ae bz n a))) (vI (a/bz^m%bz)) rfl (dO (ek o_)) k_,.fk 13 (a/bz^m%bz) 0 true (by simp[hd]),.eX 18 (m+1) 1 m rfl o_,.upto f139 19 0 (m+1) m 1 o_ k_]
theorem aMC{Bs:aa}{n a m:Nat}(hm:m<=n)(ha:a<bz^m)(hl:m=nd bz a)(h63:n<=9223372036854775807):
  ag prog Bs 21 (aF (af f139 0)) [(0,sl 0 m)] [(0,.view (ai (ae bz n a)))] 1 ⟨.exit 0,[(0,sl 0 m)],[(0,.view (ai (ae bz n a)))],1⟩:=by
 cases m with
 |zero=>exact aA [.gt 5 0 0 false s_]
 |succ m=>
  have hd:a/bz^m%bz≠0:=λe=>by have:=ja (B:=bz) d_ ((GD d_ ha).1 e);omega
  exact aA [.gt 5 (m+1) 0 true s_,.eX 10 (m+1) 1 m rfl o_,.ix f139 11 0 (m+1) m o_ k_,.ld f139 12 3 0 m (.view (ai (ae bz n a))) (vI (a/bz^m%bz)) rfl (dO (ek o_)) k_,.fk 13 (a/bz^m%bz) 0 false (by simp[hd])]
theorem aMD{Bs:aa}{n a:Nat}(ha:a<bz^n)(h63:n<=9223372036854775807):
  ag prog Bs 21 (.block 0 (af f139 0)) [(0,sl 0 n)] [(0,.view (ai (ae bz n a)))] 1 ⟨.normal,[(0,sl 0 (nd bz a))],[(0,.view (ai (ae bz n a)))],1⟩:=by
 have hle:=ja (B:=bz) d_ ha;have ak:=dS (B:=bz) d_ a
 have:=cd (P:=prog) (B:=Bs) (N:=21) (b:=aF (af f139 0)) (next:=1) (n-nd bz a) (λi=>[(0,sl 0 (n-i))]) (λ_=>[(0,.view (ai (ae bz n a)))])
  (r:=⟨.exit 0,[(0,sl 0 (nd bz a))],[(0,.view (ai (ae bz n a)))],1⟩) (λ_ _ _=>Iff.rfl)
  (λi hi=>by
   have e:n-i=(n-(i+1))+1:=by omega
   simp only[e];exact aMB o_ (cv ak (cZ d_ o_)) h63)
  (by
   have e:n-(n-nd bz a)=nd bz a:=by omega
   simp only[e];exact aMC hle ak rfl h63) n_
 exact bT this
theorem aCx{w:World}{v:Value}{n a:Nat}(hv:cK w v n (ai (ae bz n a)))(ha:a<bz^n)(h63:n<=9223372036854775807):
  Calls prog 139 #[v] w λe w'=>e=.returned (MX v (nd bz a))/\Below w.heap.size w w':=by
 refine lD (Q:=λe w'=>e=.returned (MX v (nd bz a))/\Below w.heap.size w w') mixed func139 [.row v n (ai (ae bz n a))] (λs hs=>by simp at hs;subst hs;exact⟨hv,kv _⟩) 100 (N:=21) k_
  (rs:=[.code 0 _ _ _ _ _ (aMD ha h63)]) (v:=sl 0 (nd bz a)) (ms:=[]) k_ λau bY v' w' hc hm _ df=>⟨?_,hm.base⟩
 cases df with
 |cons h1 _=>
 congr 1
 rcases hc.gV rfl with ⟨q1,q2,_,_,q5⟩|⟨b,o,cap,c',q1,q2,q3,q5⟩<;>rcases h1.gV rfl with ⟨p1,p2,_,_,p5⟩|⟨b2,o2,rk,c2,p1,p2,p3,p5⟩
 ·have p5:v=.slice none 0 0:=p5;rw[q5,p5,q2];rfl
 ·rw[q1]at p1;cases p1
 ·rw[q1]at p1;cases p1
 ·rw[q1]at p1;injection p1 with p1;injection p1 with e1 e2 e3;subst e1;subst e2;subst e3;have p5:v=_:=p5;rw[q5,p5,show c'=c2 by omega];rfl
theorem aME{Bs:aa}{o:Oper}{y:Operand}(ho:dw o.op=some y){k off n a:Nat}{x:Obj}(hx:x.reads=true)(cN:(x.cells.all flat)=true)(hc:(x.cells.drop off).take n=ai (ae bz n a))(ha:a<bz^n)(h63:n<=9223372036854775807)(yu:n=0->off=0\/True):
  cB prog Bs o [.func (.func 139) #[] #[],.slice (some ⟨k,off,some 7⟩) n 0] [(k,some x)] (.slice (some ⟨k,off,some 7⟩) (nd bz a) 0) []:=by
 refine jB (fi:=[]) (ca:=[]) ho k_ λι c w hm hn args' df=>?_;obtain⟨v,rfl,h1⟩:=lW df;have hk:c k=some x:=hn _ (aV ..);have hr:=oD (len:=n) hm hk hx (bh.1 cN) (λh=>h) h1;rw[hc]at hr;refine(aCx hr ha h63).mono ?_
 rintro e w' ⟨rfl,hb⟩
 refine⟨ι,_,rfl,Map.le.refl _,?_,hm.call hb⟩;have jQ:=ja (B:=bz) d_ ha;rcases h1.gV rfl with ⟨q1,q2,_,q4,q5⟩|⟨b,oo,cap,c',q1,q2,q3,q5⟩
 ·rw[q5];have:nd bz a=0:=by omega
  dsimp only at q4;rw[this,q4];exact .slcN q1
 ·rw[q5];exact .slc q1 o_ q3
def aY.Ds{Bs:aa}{N:Nat}(fn:Func)(key k n a:Nat)(x:Obj)(hx:x.reads=true)(hc:x.cells=ai (ae bz n a))(ha:a<bz^n)(h63:n<=9223372036854775807)(ho:dw (av fn key).op=some (.func 139)):aY prog Bs N:=
 .step key (av fn key) [.func (.func 139) #[] #[],sl k n] [(k,some x)] (sl k (nd bz a)) [] (aME ho hx (by rw[hc];exact gU _) (by rw[hc,l9,ki (by simp[ai,oE])]) ha h63 (λ_=>.inr trivial))
section
open Go.Sort (flatK putRowK HoldsK putRow putCells Holds mapBlock grow ahead PermIn SortedIn SWO swp)
section
variable{α:Type}[Inhabited α]{enc:α->aj}{s:Nat}
omit [Inhabited α] in
theorem aCy(h:qJ enc s){l:List α}{i r:Nat}{x:α}(hx:l[i]?=some x)(hr:r<s):(dc enc l)[i*s+r]?=(enc x)[r]?:=by have e:=O0 h hx;rw[<-e,ui,aw hr,D8]
theorem aCz(h:qJ enc s)(hs:0<s)(d:Array α):(flatK enc s d).toList=dc enc d.toList:=by
 apply SG;intro t;by_cases ht:t<d.size*s
 ·have hi:t/s<d.size:=(iv hs).2 ht;have hr:t%s<s:=cE _ hs;have hx:d.toList[t/s]?=some d[t/s]:=by simp[hi]
  have e:=aCy h hx hr;rw[cP,jb]at e;rw[e];have hl:t%s<(enc d[t/s]).length:=by rw[h.len];exact hr
  have e2:=Go.Sort.get_flatK enc s d t ht;have bH:t<(flatK enc s d).size:=by rw[U4];exact ht
  rw[BP (flatK enc s d) t bH,BP d (t/s) hi,BP (enc d[t/s]) (t%s) hl]at e2;rw[Array.getElem?_toList,yx bH,e2,bf hl]
 ·rw[Ay (by simp;omega),Ay (by rw[tF h];simp;omega)]
def aCA(P:Program)(f:FuncId)(g:Value)(enc:α->aj)(s:Nat)(lt:α->α->Bool)(l:List α):Prop:=
 ∀(aI cap:Nat) (w:World),HoldsK enc s w aI 0 l.toArray->aI<w.heap.size->Calls P f #[.slice (some ⟨aI,0,none⟩) l.length cap,g] w λe w'=>
  e=.returned (.tuple #[])/\∃ d' n os,PermIn 0 l.length l.toArray d'/\SortedIn lt 0 l.length d'/\w'=Go.Proofs.sortWorldK enc s w aI 0 n d' os
theorem aMF{P:Program}{g:FuncId}{cf:α->α->Int}(h:∀ x y:α,aE P g [.agg (enc x).toArray,.agg (enc y).toArray] (.int .i64 (cf x y)))(aI off size:Nat)(w:World):Go.Proofs.CmpLays P g #[] enc s cf aI off size w:=by
 intro m os dk _ x y;refine(h x y _).mono ?_
 rintro e w' ⟨rfl,hb⟩
 generalize Go.Proofs.sortWorldK enc s w aI off m dk os=W at *;refine⟨rfl,w'.drawn-W.drawn,w'.heap.extract W.heap.size w'.heap.size,?_⟩;obtain⟨heap,tape,drawn,osW,out⟩:=W;obtain⟨aMG,aUU,aUV,os',aUW⟩:=w';obtain⟨⟨h1,h2⟩,h3,h4,h5,h6⟩:=hb;dsimp only at h1 h2 h3 h4 h5 h6;subst h1;subst h3;subst h4;unfold grow World.drewN;dsimp only
 congr 1
 ·apply Array.ext_getElem?;intro k;by_cases hk:k<heap.size
  ·rw[h6 k hk,aCB hk]
  ·rw[Array.getElem?_append_right o_,Array.getElem?_extract];by_cases fE:k<aMG.size
   ·rw[aw o_];congr 1;omega
   ·rw[ao o_,Ym o_]
 ·omega
theorem aMH{P:Program}{B:aa}{f:FuncId}{g:Value}{lt:α->α->Bool}{l l':List α}{o:Oper}{x:Operand}{ty:TypeId}(h:qJ enc s)(hs:0<s)(hso:aCA P f g enc s lt l)(hg:flat g=true)(ho:dw o.op=some x)(eK:gi P f=true)(k:Nat)
  (aMI:l=[]->aE P f [.slice none 0 0,g] (.tuple #[])) (ch:∀ d:List α,d.Perm l->(∀ i j,i<j->j<d.length->∀ x y,d[i]?=some x->d[j]?=some y->lt y x=false)->d=l') :
  cB P B o [.func (.func f) #[] #[],.slice (some ⟨k,0,some 7⟩) l.length 0,g] [(k,some (.row (dc enc l) ty s))] (.tuple #[]) [(k,.row (dc enc l') ty s)]:=by
 refine jB (fi:=[]) (ca:=[]) ho eK λι c w hm hn args' df=>?_;obtain⟨v,u,rfl,h1,h2⟩:=jx (by simpa using df);have hu:=h2.eU hg;subst hu;have hk:=hn (k,_) (aV ..);rcases h1.gV rfl with ⟨q1,q2,_,_,q5⟩|⟨b,oo,cap,c',q1,q2,q3,q5⟩
 ·have hl:l=[]:=lv q2;subst hl;have e:l'=[]:=(ch [] (.refl _) λi j _ hj=>by simp at hj).symm;subst e;rw[q5];refine(aMI rfl w).mono ?_
  rintro e w' ⟨rfl,hb⟩
  refine⟨ι,_,rfl,Map.le.refl _,.same rfl,((hm.call hb).ext λj=>?_)⟩;show ba c k _ j=c j;unfold ba;by_cases hj:j=k
  ·rw[aw hj,hj];exact hk.symm
  ·rw[ao hj]
 ·obtain⟨lo,p1,p2⟩:=hm.born k _ hk;dsimp only at q1;rw[q1]at p1;injection p1 with p1;subst p1;rcases p2 with p2|⟨b',aT,cur,e1,lY,dC,fV,iY⟩
  ·cases p2.1
  injection e1 with e1 e2 e3;subst e1;subst e2;subst e3;have fJ:=(hm.own k _ b 0 cap hk rfl q1).1;have aCC:cur.toList.take (dc enc l).length=dc enc l:=nr iY (KN h l);have hlen:(dc enc l).length=l.length*s:=tF h l;have hle:l.length*s<=cur.size:=by have:=cI List.length aCC;rw[jw,hlen]at this;simp at this;omega
  have mF:(flatK enc s l.toArray).toList=dc enc l:=aCz h hs l.toArray;have hold:HoldsK enc s w b 0 l.toArray:=by
   intro j hj;rw[U4]at hj;simp only[Mh]at hj;have Ps:j<cur.size:=by omega
   have bH:j<(flatK enc s l.toArray).size:=by rw[U4];simpa using hj
   have e:cur[j]=(flatK enc s l.toArray)[j]:=by
    have e1:(cur.toList.take (dc enc l).length)[j]?=(dc enc l)[j]?:=by rw[aCC]
    rw[ui,aw (by rw[hlen];exact hj),<-mF]at e1;rw[Array.getElem?_toList,Array.getElem?_toList,yx Ps,yx bH]at e1;injection e1
   refine⟨?_,?_⟩
   ·rw[BP _ j bH];simp[World.cell?,lY,Ps,e]
   ·simp[World.frozen?,lY]
  rw[q5];refine(hso b c' w hold fJ).mono ?_
  rintro e w' ⟨rfl,d',n,os,hp,FG,rfl⟩
  obtain⟨gY,wI,HY⟩:=hp;have NZ:d'.toList=l':=by
   refine ch _ ?_ λi j mB hj x y hx hy=>?_
   ·have e1:d'.extract 0 l.length=d':=by rw[<-Mh,<-gY];exact Array.extract_size
    have e2:l.toArray.extract 0 l.length=l.toArray:=by rw[<-Mh];exact Array.extract_size
    rw[e1,e2]at HY;simpa using HY
   ·have il:j<d'.size:=by simpa using hj
    have hz:d'.size=l.length:=by rw[gY];simp
    have:=FG i j (kT _) mB o_;rw[BP d' i o_,BP d' j il]at this;rw[Array.getElem?_toList,yx o_]at hx;rw[Array.getElem?_toList,yx il]at hy;injection hx with hx;injection hy with hy;rw[hx,hy]at this;exact this
  have hz:d'.size=l.length:=by rw[gY];simp
  have Bc:l'.length=l.length:=by rw[<-NZ];simpa using hz
  refine⟨ι,_,rfl,Map.le.refl _,.same rfl,?_⟩;have AW:(flatK enc s d').toList=dc enc l':=by rw[aCz h hs,NZ]
  have hF:(flatK enc s d').size=l.length*s:=by rw[U4,hz]
  show aQ B ι (ba c k (.row (dc enc l') ty s)) _;have hW:(Go.Proofs.sortWorldK enc s w b 0 n d' os).heap=w.heap.modify b (Go.Sort.onCells (putCells id 0 (flatK enc s d')))++os:=rfl;have aMJ:(Go.Proofs.sortWorldK enc s w b 0 n d' os).heap[b]?=some (.cells (putCells id 0 (flatK enc s d') cur) ty (0,0)):=by rw[hW,aCB (by simpa using fJ),XR,aw rfl,lY];rfl
  have hcz:(putCells id 0 (flatK enc s d') cur).size=cur.size:=by simp[putCells]
  refine hm.write hk rfl q1 ⟨rfl,JI _ _⟩ rfl rfl ?_ (λj hj EG=>?_) (.inr ⟨b,cap,_,rfl,aMJ,dC,by rw[hcz,fV],?_⟩) n_ rfl
  ·rw[hW];simp
  ·rw[hW,aCB (by simpa using hj),XR,ao (λe=>EG e.symm)]
  ·have e:(putCells id 0 (flatK enc s d') cur).toList.take (dc enc l').length=dc enc l':=by
    rw[tF h,Bc,<-AW];apply SG;intro j;rw[ui];by_cases hj:j<l.length*s
    ·rw[aw hj];have Ps:j<cur.size:=by omega
     have bH:j<(flatK enc s d').size:=by rw[hF];exact hj
     rw[Array.getElem?_toList,Array.getElem?_toList,yx bH];unfold putCells;rw[Array.getElem?_mapIdx,yx Ps];simp only[Q7,GB,id_eq];rw[aw ⟨kT _,by rw[hF];omega⟩,BP _ j bH]
    ·rw[ao hj,Ay (by simp[hF];omega)]
   rw[e];exact ke (KN h l')
end
end
section
variable{P:Program}{B:aa}{N:Nat}
def Pt(P:Program)(o:Oper):Option (TypeId×Nat×Value):=match o.op with
 |.call c=>match c.callee,c.args.toList,c.argTypes.toList with
  |.builtin .clear,[_],[t]=>(match P.underlying t with
   |some (.slice e)=>(match P.info? e with|some i=>(match i.zero with|some z=>some (e,i.size,z)|none=>none)|none=>none)
   |_=>none)
  |_,_,_=>none
 |_=>none
theorem aMK{o:Oper}{e s:Nat}{z:Value}(ho:Pt P o=some (e,s,z)):∃ x t i,o.op=.call { callee:=.builtin .clear,args:=#[x],argTypes:=#[t]}/\P.underlying t=some (.slice e)/\P.info? e=some i/\i.zero=some z/\i.size=s:=by
 unfold Pt at ho;split at ho
 ·rename_i c bP;split at ho
  ·rename_i x t h1 h2 h3;split at ho
   ·rename_i e' ht;split at ho
    ·rename_i i hi;split at ho
     ·rename_i z' hz;injection ho with ho;injection ho with q1 ho;injection ho with q2 q3;subst q1;subst q2;subst q3;refine⟨x,t,i,?_,ht,hi,hz,rfl⟩;rw[bP];obtain⟨ce,ar,at'⟩:=c;dsimp only at h1 h2 h3;subst h1;have e1:ar=#[x]:=by rw[<-xu (xs:=ar),h2]
      have e2:at'=#[t]:=by rw[<-xu (xs:=at'),h3]
      rw[e1,e2]
     ·cases ho
    ·cases ho
   ·cases ho
  ·cases ho
 ·cases ho
theorem aML{o:Oper}{e s:Nat}{z:Value}(ho:Pt P o=some (e,s,z))(h1:∀ v∈z.cells.toList,v.oneCell'=true/\flat v=true){k off n cc:Nat}{cells new:aj}(hn:0<n)(hlen:off+n*z.cells.size<=cells.length)
  (kS:iO cells off (Builtin.zeroCells z.cells n).toList=new):cB P B o [.slice (some ⟨k,off,some 7⟩) n cc] [(k,some (.row cells e s))] (.tuple #[]) [(k,.row new e s)]:=by
 subst kS;obtain⟨x,t,i,bP,ht,hi,hz,rfl⟩:=aMK ho;refine gW.step λι c ρ w aO hm oB=>?_;have hk:c k=some (.row cells e i.size):=oB _ (aV ..);rw[bP]at aO;obtain⟨u,hu,hc⟩:=lW aO;have hu:ρ x=u:=by simpa[Op.operands,Call.operands]using hu
 rcases hc.gV rfl with ⟨_,q2,_⟩|⟨b,oo,cap,c',hb,lq,mC,he⟩
 ·omega
 dsimp only at hb he;have Bc:((Builtin.zeroCells z.cells n).toList).length=n*z.cells.size:=by rw[yr,Md]
 have HZ:∀ v∈(Builtin.zeroCells z.cells n).toList,v.oneCell'=true/\flat v=true:=by
  intro v hv;unfold Builtin.zeroCells at hv;rw[Array.toList_map,dj]at hv;obtain⟨j,hj,rfl⟩:=hv;have hjs:j<n*z.cells.size:=by simpa using hj
  have h0:0<z.cells.size:=by
   rcases ob z.cells.size with h|h
   ·rw[h]at hjs;omega
   ·exact h
  rw[BP z.cells _ (cE _ h0)];exact h1 _ s_
 obtain⟨h0,bL,bC,ty,lY,uj⟩:=hm.store hk rfl hb (ke λv hv=>(HZ v hv).2) (o:=off) (by rw[Bc];exact hlen);subst h0;rw[jY]at he;refine⟨ι,.tuple #[],_,Map.le.refl _,.same rfl,bL,.inl ?_⟩
 have run:=run_storeCells_cells (P:=P) b off (Builtin.zeroCells z.cells n).toList 0 w
  (λj hj=>by
   have:j+off<bC.length:=by omega
   simp[World.cell?,lY];omega)
  (λj hj=>by simp[World.frozen?,lY]) λv hv=>(HZ v hv).1
 simp only[jn]at run;obtain⟨m,rfl⟩:∃ m,n=m+1:=⟨n-1,by omega⟩;have iF:(Builtin.clear_ #[t] o.type #[.slice (some ⟨b,off,none⟩) (m+1) c']).run P w=.ok (.tuple #[]) (w.setCells b off (Builtin.zeroCells z.cells (m+1)).toList):=by simp[Builtin.clear_,iG ht,zeroValue,typeInfo,hi,hz,run]
 simp[execOp,bP,resolve,invoke,builtin,hu,he,iF]
theorem aMM{α:Type}{enc:α->aj}{s:Nat}(h:qJ enc s){x:α}{z:Array Value}(hz:z.toList=enc x)(hs:0<s)(n:Nat):(Builtin.zeroCells z n).toList=dc enc (List.replicate n x):=by
 have bH:z.size=s:=by rw[<-yr,hz,h.len]
 apply SG;intro t;by_cases ht:t<n*s
 ·have hi:t/s<n:=(iv hs).2 ht;have hr:t%s<s:=cE _ hs;have e:=aCy h (l:=List.replicate n x) (i:=t/s) (x:=x) (by simp[hi]) hr;rw[cP,jb]at e;rw[e,<-hz];unfold Builtin.zeroCells;rw[Array.toList_map,Ce];have:(Array.range (n*z.size)).toList[t]?=some t:=by rw[bH];simp[ht]
  rw[this,Q7,bH,BP z _ o_,Array.getElem?_toList,yx o_]
 ·rw[Ay (by rw[yr,Md,bH];omega),Ay (by rw[tF h];simp;omega)]
def aY.pr(fn:Func)(key k a n cc i j s:Nat)(hi:i<n)(hj:a+i=j)(ho:AR P (av fn key)=some s):aY P B N:=
 .step key (av fn key) [.slice (some ⟨k,a*s,some 7⟩) n cc,vI i] [] (.pointer (some ⟨k,j*s,some 7⟩)) [] (by have:=MK (B:=B) ho (k:=k) (off:=a*s) (cc:=cc) (kd:=.i64) hi;rw[<-fA,hj]at this;exact this)
def aY.behind(fn:Func)(key k n a m s:Nat)(hm:a+m=n)(h0:0<m)(ho:rJ P (av fn key)=some (true,false,s)):aY P B N:=
 .step key (av fn key) [.slice (some ⟨k,0,some 7⟩) n 0,vI a] [] (.slice (some ⟨k,a*s,some 7⟩) m a) [] (by have:=GC (B:=B) ho (k:=k) (off:=0) (n:=n) (cc:=0) (l:=a) (h:=n) n_ (λ_=>rfl) o_ (bj _) (.inl o_);rw[show n-a=m by omega]at this;simpa using this)
def aY.clear(fn:Func)(key k off n cc e s:Nat)(z:Value)(cells new:aj)(h1:∀ v∈z.cells.toList,v.oneCell'=true/\flat v=true)(hn:0<n)(hlen:off+n*z.cells.size<=cells.length)(kS:iO cells off (Builtin.zeroCells z.cells n).toList=new)
  (ho:Pt P (av fn key)=some (e,s,z)):aY P B N:=
 .step key (av fn key) [.slice (some ⟨k,off,some 7⟩) n cc] [(k,some (.row cells e s))] (.tuple #[]) [(k,.row new e s)] (aML ho h1 hn hlen kS)
end
def aa.gB(B:aa)(ks:List (Value×aj)):aa where
 G w:=B.G w/\∀ p∈ks,cK w p.1 p.2.length p.2
 cO k:=B.cO k\/∃ p∈ks,iE p.1=some k
 ds:=B.ds
 Fa:=B.Fa
 mp:=B.mp
 lt w k h hk:=by
  rcases hk with hk|⟨p,hp,hb⟩
  ·exact B.lt w k h.1 hk
  ·exact(h.2 p hp).lt hb
 dep w w' h h1 h2 h3 h4 h5:=⟨B.dep w w' h.1 h1 h2 h3 h4 λk hk=>h5 k (.inl hk),λp hp=>(h.2 p hp).kept h4 λb hb _ _ _ e=>(h5 b (.inr ⟨p,hp,hb⟩)).trans e⟩
theorem aCD{B:aa}{ι:Map}{c:Nat->Option Obj}{w:World}(h:aQ B ι c w):aQ (B.gB []) ι c w:=
 ⟨⟨h.base,λp hp=>by cases hp⟩,h.dr,h.born,λk x b o cap e hx hl=>⟨(h.own k x b o cap e hx hl).1,λhF=>by
  rcases hF with hF|⟨p,hp,_⟩
  ·exact(h.own k x b o cap e hx hl).2 hF
  ·cases hp⟩,h.inj,h.apart,h.seen,h.fa,h.one,h.oz⟩
theorem Pu{B:aa}{ks:List (Value×aj)}{ι:Map}{c:Nat->Option Obj}{w:World}(h:aQ (B.gB ks) ι c w){m:Nat}{xs:aj}{ty:TypeId}{u:Value}(hm:c m=some (.row xs ty 1))(cN:∀ v∈xs,flat v=true)
  (hu:aG ι (.slice (some ⟨m,0,some 7⟩) xs.length 0) u):aQ (B.gB ((u,xs)::ks)) ι (ba c m .dead) w/\flat u=true/\∀ b,iE u=some b->¬B.cO b:=by
 have jm:=oD (len:=xs.length) h hm rfl cN (λe=>e) hu;have jm:cK w u xs.length xs:=by
  have e:((Obj.row xs ty 1).cells.drop 0).take xs.length=xs:=by rw[l9];exact mQ
  rwa[e]at jm
 have hk:=h.kill m (by rw[hm];exact n_);have hb:∀ b,iE u=some b->∃ o cap,ι m=some (.at b o cap):=by
  intro b hb;rcases hu.gV rfl with ⟨_,_,_,_,q5⟩|⟨b',oo,cap,c',q1,_,_,q5⟩
  ·rw[q5]at hb;cases hb
  ·rw[q5]at hb;injection hb with hb;subst hb;exact⟨oo,cap,q1⟩
 have cW:∀ j z,j≠m->ba c m .dead j=some z->c j=some z:=λj z hj e=>by unfold ba at e;rwa[ao hj]at e
 refine⟨⟨⟨h.base.1,λp hp=>?_⟩,hk.dr,hk.born,λk x b o cap e hx hl=>⟨(hk.own k x b o cap e hx hl).1,λhF=>?_⟩,hk.inj,hk.apart,hk.seen,hk.fa,hk.one,hk.oz⟩,?_,λb hbu hF=>?_⟩
 ·rcases cx.1 hp with rfl|hp
  ·exact jm
  ·exact h.base.2 p hp
 ·rcases hF with hF|⟨p,hp,JU⟩
  ·exact(hk.own k x b o cap e hx hl).2 (.inl hF)
  ·rcases cx.1 hp with rfl|hp
   ·obtain⟨o',aT,ch⟩:=hb b JU;by_cases H0:k=m
    ·subst H0;unfold ba at e;rw[aw rfl]at e;injection e with e;subst e;cases hx
    ·exact H0 (h.inj k m x _ b o cap o' aT (cW k x H0 e) hx hm rfl hl ch)
   ·exact(hk.own k x b o cap e hx hl).2 (.inr ⟨p,hp,JU⟩)
 ·rcases hu.gV rfl with ⟨_,_,_,_,q5⟩|⟨b',oo,cap,c',q1,_,_,q5⟩
  ·rw[q5];rfl
  ·rw[q5];rfl
 ·obtain⟨o,cap,hl⟩:=hb b hbu;exact(h.own m _ b o cap hm rfl hl).2 (.inl hF)
def kx:List (Nat×Nat)->Nat->Option Nat
 |[],_=>none
 |(j,m)::l,k=>if Nat.beq j k then some m else kx l k
def qQ(ι:Map)(r:List (Nat×Nat)):Map:=λj=>(kx r j).bind ι
def KZ:List (Nat×Nat)->Bool
 |[]=>true
 |(_,m)::l=>(l.all λp=>!Nat.beq m p.2)&&KZ l
theorem U5:∀{r:List (Nat×Nat)} {j m:Nat},kx r j=some m->(j,m)∈r
 |(i,q)::l,j,m,h=>by
  unfold kx at h;split at h
  ·rename_i hb;injection h with h;subst h;rw[jZ hb];exact aV ..
  ·exact bF _ (U5 h)
theorem U6:∀{r:List (Nat×Nat)},KZ r=true->∀ i j m:Nat,kx r i=some m->kx r j=some m->i=j
 |(a,q)::l,h,i,j,m,h1,h2=>by
  unfold KZ at h;rw[da,bh]at h;have ih:=U6 h.2;have no:∀ k,kx l k=some q->False:=λk hk=>by have:=h.1 _ (U5 hk);simp at this
  unfold kx at h1 h2;split at h1<;>split at h2
  ·rename_i e1 e2;rw[<-jZ e1,<-jZ e2]
  ·injection h1 with h1;subst h1;exact(no j h2).elim
  ·injection h2 with h2;subst h2;exact(no i h1).elim
  ·exact ih i j m h1 h2
 |[],_,i,j,m,h,_=>by cases h
def H2(a:Addr):Bool:=match a.spot with|some s=>Nat.beq s 7||Nat.beq s 9|none=>false
def xH(r:List (Nat×Nat)):Value->Value
 |.slice (some ad) n c=>if nk ad then(match kx r ad.block with|some m=>.slice (some ⟨m,ad.off,some 7⟩) n c|none=>.slice (some ad) n c)else .slice (some ad) n c
 |.pointer (some ad)=>if H2 ad then(match kx r ad.block with|some m=>.pointer (some ⟨m,ad.off,ad.spot⟩)|none=>.pointer (some ad))else .pointer (some ad)
 |v=>v
def zH(r:List (Nat×Nat)):Value->Value
 |.func f fi ca=>.func f (fi.toList.map (xH r)).toArray (ca.toList.map (xH r)).toArray
 |v=>xH r v
def FH(r:List (Nat×Nat)):Value->Bool
 |.slice (some ad) _ _=>if nk ad then(kx r ad.block).isSome else mA ad
 |.pointer (some ad)=>if H2 ad then(kx r ad.block).isSome else mA ad
 |v=>flat v&&!lS v
def tP(r:List (Nat×Nat)):Value->Bool
 |.func _ fi ca=>fi.toList.all (FH r)&&ca.toList.all (FH r)
 |v=>FH r v
theorem aCE{a:Addr}(h:H2 a=true):mA a=false:=by
 unfold H2 at h;unfold mA;cases hs:a.spot with
 |none=>rw[hs]at h;cases h
 |some s=>rfl
theorem aMN{r:List (Nat×Nat)}{v:Value}(h:flat v=true):xH r v=v:=by
 unfold xH;split
 ·rename_i ad n c;split
  ·rename_i ho;have:mA ad=true:=h;rw[Q4 ho]at this;cases this
  ·rfl
 ·rename_i ad;split
  ·rename_i ho;have:mA ad=true:=h;rw[aCE ho]at this;cases this
  ·rfl
 ·rfl
theorem aCF{ι:Map}{r:List (Nat×Nat)}{v v':Value}(ay:FH r v=true)(h:aG ι (xH r v) v'):aG (qQ ι r) v v':=by
 have fl:∀ v:Value,flat v=true->aG ι (xH r v) v'->aG (qQ ι r) v v':=λv hv hc=>by rw[aMN hv]at hc;rw[hc.eU hv];exact .same hv
 unfold FH at ay;split at ay
 ·rename_i ad n c;split at ay
  ·rename_i ho;cases hr:kx r ad.block with
   |none=>rw[hr]at ay;cases ay
   |some m=>
    have K0:xH r (.slice (some ad) n c)=.slice (some ⟨m,ad.off,some 7⟩) n c:=by show(if nk ad=true then(match kx r ad.block with|some m=>Value.slice (some ⟨m,ad.off,some 7⟩) n c|none=>.slice (some ad) n c)else .slice (some ad) n c)=_;rw[aw ho,hr]
    rw[K0]at h;have hm:qQ ι r ad.block=ι m:=by unfold qQ;rw[hr];rfl
    obtain⟨bl,off,sp⟩:=ad;have zJ:=I3 ho;dsimp only at zJ;subst zJ;rcases h.gV rfl with ⟨q1,q2,q3,q4,q5⟩|⟨b,oo,cap,c',q1,q2,q3,q5⟩
    ·dsimp only at q1 q4 hm;rw[q5,q2,q3,q4];exact .slcN (hm.trans q1)
    ·dsimp only at q1 hm q5;rw[q5];exact .slc (hm.trans q1) q2 q3
  ·exact fl _ ay h
 ·rename_i ad;split at ay
  ·rename_i ho;cases hr:kx r ad.block with
   |none=>rw[hr]at ay;cases ay
   |some m=>
    have K0:xH r (.pointer (some ad))=.pointer (some ⟨m,ad.off,ad.spot⟩):=by show(if H2 ad=true then(match kx r ad.block with|some m=>Value.pointer (some ⟨m,ad.off,ad.spot⟩)|none=>.pointer (some ad))else .pointer (some ad))=_;rw[aw ho,hr]
    rw[K0]at h;have hm:qQ ι r ad.block=ι m:=by unfold qQ;rw[hr];rfl
    obtain⟨bl,off,sp⟩:=ad;dsimp only at hm h;generalize hp:Value.pointer (some ⟨m,off,sp⟩)=p at h;cases h with
    |same hf=>subst hp;have:mA ⟨m,off,sp⟩=true:=hf;rw[aCE (a:=⟨m,off,sp⟩) ho]at this;cases this
    |ptr q=>injection hp with hp;injection hp with hp;injection hp with h1 h2 h3;subst h1;subst h2;subst h3;exact .ptr (hm.trans q)
    |slc q=>cases hp
    |slcN q=>cases hp
    |opq q1 q2 q3=>injection hp with hp;injection hp with hp;injection hp with h1 h2 h3;subst h1;subst h2;subst h3;exact .opq (hm.trans q1) q2 q3
    |fn=>cases hp
    |agg=>cases hp
    |tup=>cases hp
  ·exact fl _ ay h
 ·rw[da]at ay;exact fl _ ay.1 h
theorem U7{ι:Map}{r:List (Nat×Nat)}:∀{l l':aj},(l.all (FH r))=true->bK (aG ι) (l.map (xH r)) l'->bK (aG (qQ ι r)) l l'
 |[],_,_,h=>by cases h;exact .nil
 |v::l,_,ay,h=>by
  rw[dH,da]at ay;cases h with
  |cons h1 h2=>exact .cons (aCF ay.1 h1) (U7 ay.2 h2)
theorem aCG{ι:Map}{r:List (Nat×Nat)}{v v':Value}(ay:tP r v=true)(h:aG ι (zH r v) v'):aG (qQ ι r) v v':=by
 unfold tP at ay;split at ay
 ·rename_i f fi ca;rw[da]at ay;obtain⟨j9,eZ,rfl,h1,h2⟩:=h.B8;have g1:=U7 ay.1 h1;have g2:=U7 ay.2 h2;have:=aG.fn (f:=f) g1 g2;simpa using this
 ·rename_i hn;have:zH r v=xH r v:=by
   unfold zH;split
   ·exact absurd rfl (hn _ _ _)
   ·rfl
  rw[this]at h;exact aCF ay h
theorem aMO(r:List (Nat×Nat)){v:Value}(h:lS v=false):lS (zH r v)=false:=by
 cases v with
 |slice a n c=>
  cases a with
  |none=>rfl
  |some ad=>
   show lS (if nk ad=true then(match kx r ad.block with|some m=>Value.slice (some ⟨m,ad.off,some 7⟩) n c|none=>.slice (some ad) n c)else .slice (some ad) n c)=false;split
   ·split<;>rfl
   ·rfl
 |pointer a=>
  cases a with
  |none=>rfl
  |some ad=>
   show lS (if H2 ad=true then(match kx r ad.block with|some m=>Value.pointer (some ⟨m,ad.off,ad.spot⟩)|none=>.pointer (some ad))else .pointer (some ad))=false;split
   ·split<;>rfl
   ·rfl
 |func f fi ca=>rfl
 |_=>exact h
theorem aCH{ι:Map}{r:List (Nat×Nat)}:∀{l l':aj},(l.all (tP r))=true->bK (aG ι) (l.map (zH r)) l'->bK (aG (qQ ι r)) l l'
 |[],_,_,h=>by cases h;exact .nil
 |v::l,_,ay,h=>by
  rw[dH,da]at ay;cases h with
  |cons h1 h2=>exact .cons (aCG ay.1 h1) (aCH ay.2 h2)
def Dt(r:List (Nat×Nat)):Obj->Obj
 |.aI cs ty=>.aI (cs.map (zH r)) ty
 |x=>x
def FI(r:List (Nat×Nat)):Obj->Prop
 |.aI cs _=>(cs.all (tP r))=true
 |.fact _=>True
 |.dead=>True
 |x=>∀ v∈x.cells,flat v=true
theorem H3(r:List (Nat×Nat))(x:Obj):(Dt r x).owns=x.owns/\(Dt r x).gh=x.gh:=by cases x<;>exact⟨rfl,rfl⟩
theorem aMP{ι:Map}{w:World}{l:oY}{r:List (Nat×Nat)}{x:Obj}(ay:FI r x)(h:ju ι w l (Dt r x)):ju (qQ ι r) w l x:=by
 have fl:∀{cs bC:aj},(∀ v∈cs,flat v=true)->bK (aG ι) cs bC->bK (aG (qQ ι r)) cs bC:=λhf h=>by rw[nr h hf];exact ke hf
 cases x with
 |aI cells ty=>
  obtain⟨b,bC,e1,e2,e3⟩:=h;exact⟨b,bC,e1,aCH ay e2,e3⟩
 |row cells ty size=>
  rcases h with h|⟨b,cap,cur,e1,e2,e3,e4,e5⟩
  ·exact .inl h
  ·exact .inr ⟨b,cap,cur,e1,e2,e3,e4,fl ay e5⟩
 |view cells=>
  rcases h with h|⟨b,o,cap,cs,e1,e2,e3⟩
  ·exact .inl h
  ·exact .inr ⟨b,o,cap,cs,e1,fl ay e2,e3⟩
 |fact F=>exact h
 |dead=>trivial
theorem aMQ{B:aa}{ι:Map}{c:Nat->Option Obj}{w:World}(h:aQ B ι c w)(pc:∀ k,B.mp k=none){r:List (Nat×Nat)}{L:aH}(jQ:KZ r=true)(jO:∀ j,ah L j=none↔kx r j=none)
  (hL:∀ j x m,ah L j=some x->kx r j=some m->FI r x/\c m=some (Dt r x)):aQ B (qQ ι r) (ah L) w:=by
 have src:∀ j x,ah L j=some x->∃ m,kx r j=some m/\FI r x/\c m=some (Dt r x)/\qQ ι r j=ι m:=λj x e=>by
  cases hr:kx r j with
  |none=>rw[(jO j).2 hr]at e;cases e
  |some m=>
   obtain⟨h1,h2⟩:=hL j x m e hr;exact⟨m,rfl,h1,h2,by unfold qQ;rw[hr];rfl⟩
 refine⟨h.base,λk e=>?_,λk x e=>?_,λk x b o cap e hx hl=>?_,λk j x y b o cap o' aT e hx e' hy hl ch=>?_,λk j x F b o cap v e hx hl e' hv=>?_,λk x b o cap e hx hl=>?_,λj F e=>?_,λj k F F' e e' h1 h2=>?_,λk l e=>?_⟩
 ·unfold qQ;rw[(jO k).1 e];rfl
 ·obtain⟨m,_,h2,h3,h4⟩:=src k x e;obtain⟨l,q1,q2⟩:=h.born m _ h3;exact⟨l,h4.trans q1,aMP h2 q2⟩
 ·obtain⟨m,_,_,h3,h4⟩:=src k x e;exact h.own m _ b o cap h3 ((H3 r x).1.trans hx) (h4▸hl)
 ·obtain⟨m,h1,_,h3,h4⟩:=src k x e;obtain⟨m',pG,_,FJ,K1⟩:=src j y e';have:=h.inj m m' _ _ b o cap o' aT h3 ((H3 r x).1.trans hx) FJ ((H3 r y).1.trans hy) (h4▸hl) (K1▸ch);subst this;exact U6 jQ k j m h1 pG
 ·obtain⟨m,_,_,h3,h4⟩:=src k x e;obtain⟨m',_,_,FJ,K1⟩:=src j _ e';exact h.apart m m' _ F b o cap v h3 ((H3 r x).1.trans hx) (h4▸hl) FJ (K1▸hv)
 ·obtain⟨m,_,_,h3,h4⟩:=src k x e;obtain⟨p1,p2⟩:=h.seen m _ b o cap h3 ((H3 r x).2.trans hx) (h4▸hl);refine⟨p1,λj y o' aT e' hy ch=>?_⟩;obtain⟨m',_,_,FJ,K1⟩:=src j y e';exact p2 m' _ o' aT FJ ((H3 r y).1.trans hy) (K1▸ch)
 ·obtain⟨m,_,_,h3,_⟩:=src j _ e;exact h.fa m F h3
 ·obtain⟨m,q1,_,h3,_⟩:=src j _ e;obtain⟨m',qm,_,FJ,_⟩:=src k _ e';have:=h.one m m' F F' h3 FJ h1 h2;subst this;exact U6 jQ j k m q1 qm
 ·rw[pc k]at e;cases e
def St(B:aa)(N:Nat)(fr:aW)(M:aH)(next:Nat)(a:Act)(w:World):Prop:=∃ ι cc,fh B ι (bI fr) N a/\aQ B ι cc w/\cT cc M/\eG cc next
section
variable{P:Program}{B:aa}{N:Nat}
theorem lh{c:Code}{fr:aW}{M:aH}{next:Nat}{r:l5}{a:Act}{w:World}{Q:Exit->Act->World->Prop}(g:ag P B N c fr M next r)(h:St B N fr M next a w)
  (hQ:∀ a' w',St B N r.fr r.M r.next a' w'->Q r.ex.AG a' w'):c.wpIn (FW none) 0 P Q a w:=by
 obtain⟨ι,cc,h1,h2,h3,h4⟩:=h;exact g none ι cc a w Q h1 h2 h3 h4 λau bY a' w' _ q2 q3 q4 q5 _ _=>hQ a' w' ⟨au,bY,q2,q3,q4,q5⟩
theorem U8{b:Code}{Q:Exit->Act->World->Prop}{a:Act}{w:World}(n:Nat)(Inv:Nat->Act->World->Prop)(h0:Inv 0 a w)
  (body:∀ i,i<n->∀ a w,Inv i a w->∀ K:Act->World->Prop,(∀ a' w',Inv (i+1) a' w'->K a' w')->b.wpIn (FW none) 0 P (Exit.then K Q) a w)
  (last:∀ a w,Inv n a w->b.wpIn (FW none) 0 P (Exit.then (λ_ _=>False) Q) a w):(Code.loop b).wpIn (FW none) 0 P Q a w:=by
 refine RO (n+1) ?_;have key:∀ d i,i+d=n->∀ a w,Inv i a w->Code.roundsIn (FW none) 0 P b Q (d+1) a w:=by
  intro d;induction d with
  |zero=>
   intro i hi a w h;have:i=n:=by omega
   subst this;rw[Et];exact last a w h
  |succ d ih=>
   intro i hi a w h;rw[Et];exact body i o_ a w h _ λa' w' h'=>ih (i+1) o_ a' w' h'
 exact key n 0 o_ a w h0
theorem St.H4{fr su:aW}{M L:aH}{next aCI:Nat}{a:Act}{w:World}(h:St B N fr M next a w)(pc:∀ k,B.mp k=none)(r:List (Nat×Nat))(jQ:KZ r=true)(jO:L.map (·.1)=r.map (·.1))
  (ay:∀ p∈L,FI r p.2) (hL:(r.map λp=>ah M p.2)=L.map λp=>some (Dt r p.2)) (YK:(L.map λp=>ah L p.1)=L.map λp=>some p.2) (mF:(su.all λp=>tP r p.2)=true) (hs:(su.map λp=>bI fr p.1)=su.map λp=>zH r p.2) (hn:(r.all λp=>Nat.blt p.1 aCI)=true):St B N su L aCI a w:=by
 obtain⟨ι,cc,h1,h2,h3,h4⟩:=h;have hk:∀{L:aH} {r:List (Nat×Nat)},L.map (·.1)=r.map (·.1)->∀ j,ah L j=none↔kx r j=none:=by
  intro L;induction L with
  |nil=>intro r e j;cases r with
   |nil=>exact⟨λ_=>rfl,λ_=>rfl⟩
   |cons p r=>cases e
  |cons q L ih=>intro r e j;cases r with
   |nil=>cases e
   |cons p r=>
    injection e with e1 e2;obtain⟨q1,q2⟩:=q;obtain⟨p1,p2⟩:=p;dsimp only at e1;subst e1;unfold ah kx;cases Nat.beq q1 j with
    |true=>simp
    |false=>simpa using ih e2 j
 have aMR:∀{L:aH} {r':List (Nat×Nat)},L.map (·.1)=r'.map (·.1)->(r'.map λp=>ah M p.2)=L.map (λp=>some (Dt r p.2))->∀ j x m,ah L j=some x->kx r' j=some m->ah M m=some (Dt r x):=by
  intro L;induction L with
  |nil=>intro r' _ _ j x m e;cases e
  |cons q L ih=>intro r' e e' j x m hx hm;cases r' with
   |nil=>cases e
   |cons p r'=>
    injection e with e1 e2;injection e' with e3 e4;obtain⟨q1,q2⟩:=q;obtain⟨p1,p2⟩:=p;dsimp only at e1 e3;subst e1;unfold ah at hx;unfold kx at hm;cases hb:Nat.beq q1 j with
    |true=>
     rw[hb]at hx hm;simp only[ql]at hx hm;injection hx with hx;injection hm with hm;subst hx;subst hm;exact e3
    |false=>
     rw[hb]at hx hm;simp only[uE,uF]at hx hm;exact ih e2 e4 j x m hx hm
 refine⟨qQ ι r,ah L,⟨h1.defers,h1.size,λt=>?_⟩,aMQ h2 pc jQ (hk jO) (λj x m e hr=>⟨ay _ (j0 e),h3 m _ (aMR jO hL j x m e hr)⟩),λk x e=>e,λk mG=>?_⟩
 ·have bd:∀{su:aW},(su.all λp=>tP r p.2)=true->(su.map λp=>bI fr p.1)=(su.map λp=>zH r p.2)->(lS (bI su t)=true)\/(tP r (bI su t)=true/\bI fr t=zH r (bI su t)):=by
   intro su;induction su with
   |nil=>exact λ_ _=>.inl rfl
   |cons p l ih=>
    intro ho he;rw[dH,da]at ho;injection he with e1 e2;obtain⟨p1,p2⟩:=p;rw[show bI ((p1,p2)::l) t=if Nat.beq p1 t=true then p2 else bI l t from rfl];by_cases hb:Nat.beq p1 t=true
    ·have:=jZ hb;subst this;rw[aw hb];exact .inr ⟨ho.1,e1⟩
    ·rw[ao hb];exact ih ho.2 e2
  rcases bd mF hs with h|⟨q1,q2⟩
  ·exact .inl h
  ·have sV:=h1.slot t;rw[q2]at sV;have EY:lS (zH r (bI su t))=false:=by
    refine aMO r ?_;generalize bI su t=v at *;unfold tP at q1;split at q1
    ·rfl
    ·unfold FH at q1;split at q1
     ·rfl
     ·rfl
     ·rw[da]at q1;simpa using q1.2
   exact .inr (aCG q1 (sV.Aw EY))
 ·refine(hk jO k).2 ?_;cases e:kx r k with
  |none=>rfl
  |some m=>
   have:=bh.1 hn _ (U5 e);simp at this;omega
theorem U9{f:FuncId}{fn:Func}{c:Code}{args args':aj}{M:aH}{next:Nat}{ι:Map}{cc:Nat->Option Obj}{w:World}{Q:Ending->World->Prop}
  (hf:P.funcs[f]?=some fn) (hb:fn.body=some c) (hN:N=args.length+(fn.ntmps-args.length)) (df:bK (aG ι) args args') (hm:aQ B ι cc w) (ha:cT cc M) (hu:eG cc next) (mH:B.ds=[])
  (h:∀ a,St B N (jA 0 args) M next a w->c.wpIn (FW none) 0 P (bodyPost P fn Q) a w):Calls P f args'.toArray w Q:=by
 refine calls_of_wp hf hb (YV (h _ ⟨ι,cc,⟨mH.symm,by simp[hN,df.length],λt=>?_⟩,hm,ha,hu⟩));rcases MG df 0 t (List.replicate (fn.ntmps-args'.length) undef)with h|h
 ·simp only[kT,ql,GB]at h;have e:(args'.toArray++Array.replicate (fn.ntmps-args'.toArray.size) undef).getD t undef=(args'++List.replicate (fn.ntmps-args'.length) undef).getD t undef:=by simp[pK,Eg,<-Array.getElem?_toList]
  dsimp only;rw[e];exact h
 ·exact .inl h
theorem Va{fn:Func}{fr:aW}{M:aH}{next:Nat}{v:Value}{a:Act}{w:World}{Q:Ending->World->Prop}(h:St B N fr M next a w)(mH:B.ds=[])(hv:AQ P fn fr M=some v)
  (hQ:∀ ι cc v',aQ B ι cc w->cT cc M->aG ι v v'->Q (.returned v') w):bodyPost P fn Q .ret a w/\bodyPost P fn Q .normal a w:=by
 obtain⟨ι,cc,h1,h2,h3,_⟩:=h;obtain⟨v',hc,pH⟩:=MF (fn:=fn) h1 h2 h3 hv;have:=hQ ι cc v' h2 h3 hc;exact⟨⟨h1.defers.trans mH,v',pH,this⟩,⟨h1.defers.trans mH,v',pH,this⟩⟩
end
section
variable{P:Program}{B:aa}{N:Nat}
theorem aMS{o:Oper}{e size:Nat}{z:Value}(ho:A0 P o=some (0,[],e,size,z))(k:Nat):cB P B o [] [(k,none)] (.slice (some ⟨k,0,some 7⟩) 0 0) [(k,.row [] e size)]:=by
 unfold A0 at ho;split at ho
 ·rename_i t lE parts bP;split at ho
  ·rename_i e' ht;split at ho
   ·rename_i i hi;split at ho
    ·rename_i z' hz;injection ho with ho;injection ho with h1 ho;injection ho with h2 ho;injection ho with h3 ho;injection ho with h4 h5;subst h1;subst h3;subst h4;subst h5;refine gW.step λι c ρ w aO hm hn=>?_;have hk:c k=none:=hn _ (aV ..);have hp:parts=#[]:=by
      have:parts.toList=[]:=by simpa using h2
      exact HI.1 this
     subst hp;have uj:Map.le ι _:=gC (l:=.at w.heap.size 0 0) (hm.dr k hk);have kS:=Gs (ty:=e') (size:=i.size) (cap:=0) (rest:=#[]) hm hk (.nil:bK (aG ι) [] []) (kT _) s_;refine⟨_,.slice (some ⟨w.heap.size,0,none⟩) 0 0,_,uj,.slc (o:=0) (off:=0) (fD _ _ _) (bj _) rfl,kS,.inl ?_⟩;simp only[execOp,bP];simp[Instr.buildSlice,iG ht,sizeOf,typeInfo,hi,newRow,Instr.fill,newObj,Sem.run];have e0:∀ f:Nat->Value,Array.map f (Array.range 0)=#[]:=λf=>HI.1 (by rw[Array.toList_map,Array.toList_range];rfl);rw[e0]
    ·cases ho
   ·cases ho
  ·cases ho
 ·cases ho
theorem aMT{o:Oper}{len e size:Nat}{idx:List Nat}{z:Value}(ho:A0 P o=some (len,idx,e,size,z)){vs:aj}{cells:Array Value}(HZ:∀ v∈z.cells.toList,flat v=true)(AB:0<z.cells.size)
  (CE:JK size len z (idx.zip vs)=some cells) (bH:cells.size=len*size) (yU:0<len*size) (hle:len*size<=16777216) (k:Nat) :
  cB P B o vs [(k,none)] (.slice (some ⟨k,0,some 7⟩) len 0) [(k,.row cells.toList e size)]:=by
 unfold A0 at ho;split at ho
 ·rename_i t lE parts bP;split at ho
  ·rename_i e' ht;split at ho
   ·rename_i i hi;split at ho
    ·rename_i z' hz;injection ho with ho;injection ho with h1 ho;injection ho with h2 ho;injection ho with h3 ho;injection ho with h4 h5;subst h1;subst h2;subst h3;subst h4;subst h5;refine gW.step λι c ρ w aO hm hn=>?_;have hk:c k=none:=hn _ (aV ..);rw[bP]at aO;obtain⟨cM,aCJ⟩:∃ cM,List.map ρ (parts.toList.map (·.2))=cM:=⟨_,rfl⟩;have sV:bK (aG ι) vs cM:=by rw[<-aCJ];simpa[Op.operands]using aO
     have bW:List.map (λx=>(x.fst,ρ x.snd)) parts.toList=(parts.toList.map (·.1)).zip cM:=Nb parts.toList aCJ;have h0z:bK (aG ι) ((Array.range (lE*i.size)).map (z'.cells[·%z'.cells.size]!)).toList ((Array.range (lE*i.size)).map (z'.cells[·%z'.cells.size]!)).toList:=ke λv hv=>by rw[Array.toList_map,dj]at hv;obtain⟨j,_,rfl⟩:=hv;rw[BP z'.cells _ (cE _ AB)];exact HZ _ s_
     obtain⟨cells',aMU,iY⟩:=Pj (ι:=ι) (place:=λj=>some (j*i.size,i.size)) (parts.toList.map λp:Nat×Operand=>p.1) sV h0z CE;have aMV:cells'.size=lE*i.size:=by rw[<-yr,<-iY.length,yr,bH]
     have Nc:lE<=maxLen:=by have:lE<=lE*i.size:=EK _ (Nat.pos_of_mul_pos_left yU);simp[maxLen];omega
     have uj:Map.le ι _:=gC (l:=.at w.heap.size 0 lE) (hm.dr k hk);have kS:=Gs (ty:=e') (size:=i.size) (cap:=lE) (rest:=#[]) hm hk iY Nc (by simpa using aMV);refine⟨_,.slice (some ⟨w.heap.size,0,none⟩) lE lE,_,uj,.slc (o:=0) (off:=0) (fD _ _ _) (bj _) o_,kS,.inl ?_⟩;have h0:¬(lE*i.size=0):=by omega
     have h1:¬(16777216<lE*i.size):=by omega
     simp only[execOp,bP];simp[Instr.buildSlice,iG ht,sizeOf,typeInfo,hi,zeroValue,hz,h0,h1,newRow];rw[bW,aMU];simp[newObj,Sem.run]
    ·cases ho
   ·cases ho
  ·cases ho
 ·cases ho
def aY.K3(fn:Func)(key k e size:Nat)(z:Value)(ho:A0 P (av fn key)=some (0,[],e,size,z)):aY P B N:=
 .step key (av fn key) [] [(k,none)] (.slice (some ⟨k,0,some 7⟩) 0 0) [(k,.row [] e size)] (aMS ho k)
def aY.bsM(fn:Func)(key k len e size:Nat)(idx:List Nat)(z:Value)(vs:aj)(cells:Array Value)(x:Obj)(hx:Obj.row cells.toList e size=x)(HZ:∀ v∈z.cells.toList,flat v=true)(AB:0<z.cells.size)
  (CE:JK size len z (idx.zip vs)=some cells) (bH:cells.size=len*size) (yU:0<len*size) (hle:len*size<=16777216) (ho:A0 P (av fn key)=some (len,idx,e,size,z)):aY P B N:=
 .step key (av fn key) vs [(k,none)] (.slice (some ⟨k,0,some 7⟩) len 0) [(k,x)] (by subst hx;exact aMT ho HZ AB CE bH yU hle k)
def aY.ap0(fn:Func)(key k m e size bytes q:Nat)(x:Obj)(new:aj)(hx:x.reads=true)(hlen:x.cells.length=m*size)(kS:x.cells=new)
  (bH:0<size) (h63:m<=maxLen) (hb:m*bytes<=140737488355328) (ho:EL P (av fn key)=some (e,size,bytes,size,true)):aY P B N:=
 .step key (av fn key) [.slice none 0 0,.slice (some ⟨q,0,some 7⟩) m 0] [(k,none),(q,some x)] (.slice (some ⟨k,0,some 7⟩) m 0) [(k,.row new e size)] (by
  subst kS;have hs:Cb B (.slice (some ⟨q,0,some 7⟩) m 0) m x.cells [(q,some x)]:=by have:=Mb (B:=B) (k:=q) (off:=0) (m:=m) (cc:=0) hx (len:=m*size) (λh=>by rw[h,lC]);rw[l9,ki (vj hlen)]at this;exact this
  exact aIh (B:=B) ho bH hs hlen h63 hb k)
theorem aCK{f:FuncId}{l:List aR}{ty:TypeId}{size n:Nat}{xs:aj}{vs ca:aj}{nd:List (Nat×Option Obj)}{o:Oper}{x:Operand}(h:lM P f l ty size n xs)(hs:fH B l (vs++ca) nd)(ho:dw o.op=some x)(eK:gi P f=true)(hx:(xs.all flat)=true)(k:Nat):
  cB P B o (.func (.func f) #[] ca.toArray::vs) ((k,none)::nd) (.slice (some ⟨k,0,some 7⟩) n 0) [(k,.row xs ty size)]:=by
 have:=jB (P:=P) (B:=B) (o:=o) (x:=x) (f:=f) (fi:=[]) (args:=vs) (ca:=ca) (need:=(k,none)::nd) (val:=.slice (some ⟨k,0,some 7⟩) n 0) (cR:=[(k,.row xs ty size)]) ho eK ?_
 ·simpa using this
 ·intro ι c w hm hn args' ha;rw[jo]at ha;refine(h w args' (BB hs hm (λp hp=>hn p (bF _ hp)) ha)).mono ?_
  rintro e w' ⟨v,rfl,h1,h2⟩
  obtain⟨au,q1,q2,q3⟩:=Ez hm h2 (k:=k) (hn (k,none) (aV ..)) h1 (bh.1 hx);exact⟨au,v,rfl,q1,q3,q2⟩
def FK(P:Program)(o:Oper):Bool:=match o.op with
 |.call c=>match c.callee,c.args.toList,c.argTypes.toList with
  |.builtin .len,[_],[t]=>(match P.underlying t with|some (.slice _)=>true|_=>false)
  |_,_,_=>false
 |_=>false
theorem Pv{o:Oper}(ho:FK P o=true):∃ x t e,o.op=.call { callee:=.builtin .len,args:=#[x],argTypes:=#[t]}/\P.underlying t=some (.slice e):=by
 unfold FK at ho;split at ho
 ·rename_i c bP;split at ho
  ·rename_i x t h1 h2 h3;split at ho
   ·rename_i e ht;refine⟨x,t,e,?_,ht⟩;rw[bP];obtain⟨ce,ar,at'⟩:=c;dsimp only at h1 h2 h3;subst h1;have e1:ar=#[x]:=by rw[<-xu (xs:=ar),h2]
    have e2:at'=#[t]:=by rw[<-xu (xs:=at'),h3]
    rw[e1,e2]
   ·cases ho
  ·cases ho
 ·cases ho
theorem aMW{o:Oper}(ho:FK P o=true){v:Value}{n:Nat}{xs:aj}(hv:flat v=true)(hB:∀ w,B.G w->cK w v n xs):cB P B o [v] [] (vI n) []:=by
 obtain⟨x,t,e,bP,ht⟩:=Pv ho;refine gW.step λι c ρ w aO hm oB=>?_;rw[bP]at aO;obtain⟨u,hu,hc⟩:=lW aO;have hu:ρ x=u:=by simpa[Op.operands,Call.operands]using hu
 have:=hc.eU hv;subst this;refine⟨ι,vI n,w,Map.le.refl _,.same rfl,hm,.inl ?_⟩;rcases hB w hm.base with ⟨q1,q2,_⟩|⟨b,o',c',q1,_⟩
 ·subst q1;simp[execOp,bP,resolve,invoke,builtin,Builtin.len_,hu,iG ht,goInt,q2,vI]
 ·subst q1;simp[execOp,bP,resolve,invoke,builtin,Builtin.len_,hu,iG ht,goInt,vI]
theorem aQ.less{ι:Map}{c:Nat->Option Obj}{w:World}(hm:aQ B ι c w){k s:Nat}{cells:aj}{ty:TypeId}(hk:c k=some (.row cells ty s))(m:Nat):aQ B ι (ba c k (.row (cells.take m) ty s)) w:=by
 obtain⟨l,h1,h2⟩:=hm.born k _ hk;rcases h2 with ⟨h2,h3⟩|⟨b,cap,cur,e1,e2,e3,e4,e5⟩
 ·subst h3;refine hm.ext λj=>?_;unfold ba;by_cases hj:j=k
  ·rw[aw hj,hj,hk,List.take_nil]
  ·rw[ao hj]
 ·subst e1;refine hm.write hk rfl h1 (.refl w) rfl rfl (bj _) (λ_ _ _=>rfl) (.inr ⟨b,cap,cur,rfl,e2,e3,e4,?_⟩) n_ rfl;have:=e5.take m;rw[Mf]at this;rw[jw];exact this
theorem aMX{o:Oper}{s:Nat}(ho:rJ P o=some (false,true,s)){k n h m sz:Nat}{cells:aj}{ty:TypeId}(hh:h<=n):
  cB P B o [.slice (some ⟨k,0,some 7⟩) n 0,vI h] [(k,some (.row cells ty sz))] (.slice (some ⟨k,0,some 7⟩) h 0) [(k,.row (cells.take m) ty sz)]:=by
 have:=GC (B:=B) ho (k:=k) (off:=0) (n:=n) (cc:=0) (l:=0) (h:=h) (λ_=>rfl) n_ (kT _) hh (.inr rfl);have h0:cB P B o [.slice (some ⟨k,0,some 7⟩) n 0,vI h] [] (.slice (some ⟨k,0,some 7⟩) h 0) []:=by simpa using this
 intro R ι c a w hv hm hn K Q hK;refine h0 R ι c a w hv hm n_ K Q λau v' w' h1 h2 h3=>hK au v' w' h1 h2 ?_;exact aQ.less h3 (hn (k,_) (aV ..)) m
def aY.cut(fn:Func)(key k n h m s sz ty:Nat)(cells new:aj)(hh:h<=n)(kS:cells.take m=new)(ho:rJ P (av fn key)=some (false,true,s)):aY P B N:=
 .step key (av fn key) [.slice (some ⟨k,0,some 7⟩) n 0,vI h] [(k,some (.row cells ty sz))] (.slice (some ⟨k,0,some 7⟩) h 0) [(k,.row new ty sz)] (by subst kS;exact aMX ho hh)
end
def qR:Code->Code|.seq a _=>a|c=>c
def mV:Code->Code|.seq _ b=>b|c=>c
def eO(fn:Func):Code:=match fn.body with|some c=>c|none=>.skip
theorem aMY(l:List Nat):ai l=eD (l.map λx:Nat=>(x:Int)):=by simp[ai,eD];intro _ _;rfl
theorem ku.snoc{w:World}{fs:List (Int×List Int)}{cs:aj}{i:Int}{l:List Int}{u:Value}(h:ku w fs cs)(hr:cK w u l.length (eD l))(hu:Go.Proofs.YtjjefbkbljlgdaaGreatDoor.flat u=true):ku w (fs++[(i,l)]) (cs++[iV i,u]):=by
 induction h with
 |nil=>exact .cons hr hu .nil
 |cons h1 h2 _ ih=>exact .cons h1 h2 ih
section
variable{P:Program}{B:aa}{N:Nat}
theorem aQ.aMZ{ι:Map}{c:Nat->Option Obj}{w:World}(hm:aQ B ι c w){k s:Nat}{cells cells':aj}{ty:TypeId}(hk:c k=some (.row cells ty s))(hl:cells'.length=cells.length)(h:∀ bC,bK (aG ι) cells bC->bK (aG ι) cells' bC):aQ B ι (ba c k (.row cells' ty s)) w:=by
 obtain⟨l,h1,h2⟩:=hm.born k _ hk;rcases h2 with ⟨h2,h3⟩|⟨b,cap,cur,e1,e2,e3,e4,e5⟩
 ·subst h3;have:cells'=[]:=lv hl;subst this;refine hm.ext λj=>?_;unfold ba;by_cases hj:j=k
  ·rw[aw hj,hj,hk]
  ·rw[ao hj]
 ·subst e1;refine hm.write hk rfl h1 (.refl w) rfl rfl (bj _) (λ_ _ _=>rfl) (.inr ⟨b,cap,cur,rfl,e2,e3,e4,?_⟩) n_ rfl;rw[hl];exact h _ e5
theorem aM0{ι:Map}{c:Nat->Option Obj}{w:World}(hm:aQ B ι c w){k:Nat}{cells:aj}{ty:TypeId}(hk:c k=some (.row cells ty 1)):∃ u,aG ι (.slice (some ⟨k,0,some 7⟩) cells.length 0) u:=by
 obtain⟨l,h1,h2⟩:=hm.born k _ hk;rcases h2 with ⟨h2,h3⟩|⟨b,cap,cur,e1,e2,e3,e4,e5⟩
 ·subst h2;subst h3;exact⟨_,.slcN h1⟩
 ·subst e1;have hl:=e5.length;simp only[jw,yr,fX]at hl e4;exact⟨_,.slc (c:=0) (c':=cap) h1 o_ o_⟩
theorem St.nil{fr:aW}{M:aH}{next:Nat}{a:Act}{w:World}(h:St B N fr M next a w)(t:Nat)(ht:bI fr t=.slice none 0 0)(ty:TypeId)(s:Nat):
  St B N ((t,.slice (some ⟨next,0,some 7⟩) 0 0)::fr) ((next,.row [] ty s)::M) (next+1) a w:=by
 obtain⟨ι,cc,h1,h2,h3,h4⟩:=h;have hn:=h4 next (bj _);have hle:Map.le ι (dF ι next .nil):=gC (h2.dr next hn);refine⟨dF ι next .nil,ba cc next (.row [] ty s),⟨h1.defers,h1.size,λt'=>?_⟩,h2.add hn (.inl ⟨rfl,rfl⟩) n_ n_ n_,λk x e=>?_,λk hk=>?_⟩
 ·have h0:=h1.slot t';rw[show bI ((t,Value.slice (some ⟨next,0,some 7⟩) 0 0)::fr) t'=if Nat.beq t t'=true then .slice (some ⟨next,0,some 7⟩) 0 0 else bI fr t' from rfl];by_cases hb:Nat.beq t t'=true
  ·rw[aw hb];have:=jZ hb;subst this;rw[ht]at h0;rw[(h0.Aw rfl).eU rfl];exact .inr (.slcN (fD _ _ _))
  ·rw[ao hb];exact h0.mono hle
 ·unfold ah at e;split at e
  ·rename_i hb;injection e with e;subst e;unfold ba;rw[aw (jZ hb).symm]
  ·have:=h3 k x e;have aU:k≠next:=λe'=>by subst e';rw[hn]at this;cases this
   unfold ba;rw[ao aU];exact this
 ·unfold ba;rw[ao o_];exact h4 k o_
theorem St.Pu{ks:List (Value×aj)}{fr:aW}{M:aH}{next m k:Nat}{a:Act}{w:World}{xs pre:aj}{ty FL:TypeId}{v0:Value}(h:St (B.gB ks) N fr M next a w)
  (hm:ah M m=some (.row xs ty 1)) (cN:(xs.all flat)=true) (hk:ah M k=some (.row (pre++[v0,.slice (some ⟨m,0,some 7⟩) xs.length 0]) FL 2)) (hmk:m≠k) :
  ∃ u,flat u=true/\(∀ b,iE u=some b->¬B.cO b)/\St (B.gB ((u,xs)::ks)) N fr ((k,.row (pre++[v0,u]) FL 2)::(m,.dead)::M) next a w:=by
 obtain⟨ι,cc,h1,h2,h3,h4⟩:=h;obtain⟨u,hu⟩:=aM0 h2 (h3 m _ hm);obtain⟨g1,g2,g3⟩:=Go.Proofs.YtjjefbkbljlgdaaGreatDoor.Pu h2 (h3 m _ hm) (bh.1 cN) hu;have we:ba cc m .dead k=some (.row (pre++[v0,.slice (some ⟨m,0,some 7⟩) xs.length 0]) FL 2):=by unfold ba;rw[ao (λe=>hmk e.symm)];exact h3 k _ hk
 have g4:=g1.aMZ (cells':=pre++[v0,u]) we s_ λbC hc=>by
  have hl:(pre++[v0,Value.slice (some ⟨m,0,some 7⟩) xs.length 0]).length=bC.length:=hc.length;have c1:=hc.take (pre.length+1);have c2:=hc.drop (pre.length+1);rw[iZ]at hl;have e1:(pre++[v0,Value.slice (some ⟨m,0,some 7⟩) xs.length 0]).take (pre.length+1)=pre++[v0]:=by rw[aB7];simp[ki]
  have e2:(pre++[v0,Value.slice (some ⟨m,0,some 7⟩) xs.length 0]).drop (pre.length+1)=[.slice (some ⟨m,0,some 7⟩) xs.length 0]:=by rw[List.drop_append];simp[List.drop_eq_nil_of_le]
  rw[e1]at c1;rw[e2]at c2;obtain⟨x,hx,hxc⟩:=lW c2;have:=Jo hxc hu;subst this;rw[<-H5 (pre.length+1) bC,hx,show pre++[v0,x]=(pre++[v0])++[x]by simp];exact c1.append (.cons (.same g2) .nil)
 refine⟨u,g2,g3,ι,_,⟨h1.defers,h1.size,h1.slot⟩,g4,λj x e=>?_,λj hj=>?_⟩
 ·unfold ah at e;split at e
  ·rename_i hb;injection e with e;subst e;unfold ba;rw[aw (jZ hb).symm]
  ·rename_i hb;have bN:j≠k:=λe'=>hb (by rw[e'];exact Es k);unfold ah at e;split at e
   ·rename_i gp;injection e with e;subst e;unfold ba;rw[ao bN,aw (jZ gp).symm]
   ·rename_i gp;have hjm:j≠m:=λe'=>gp (by rw[e'];exact Es m);unfold ba;rw[ao bN,ao hjm];exact h3 j x e
 ·have mG:k<next:=by
   rcases eF k next with h|h
   ·exact h
   ·have:=h4 k h;rw[h3 k _ hk]at this;cases this
  have cS:m<next:=by
   rcases eF m next with h|h
   ·exact h
   ·have:=h4 m h;rw[h3 m _ hm]at this;cases this
  unfold ba;rw[ao o_,ao o_];exact h4 j hj
def aCL(P:Program)(f:FuncId)(l:List aR)(F:Fact):Prop:=
 ∀ w vs,rZ w l vs->Calls P f vs.toArray w λe w'=>∃ v,e=.returned v/\Dc w' v F/\(∀ b,F.cO v w' b->w.heap.size<=b)/\Below w.heap.size w w'
end
def Fact.jT(F:Fact)(S:Nat):Fact where
 G v w:=F.G v w/\∀ b,F.cO v w b->S<=b
 cO:=F.cO
 lt v w k h hk:=F.lt v w k h.1 hk
 dep v w w' h hs hk:=by obtain⟨h1,h2⟩:=F.dep v w w' h.1 hs hk;exact⟨⟨h1,λb hb=>h.2 b (h2 b hb)⟩,h2⟩
 rc:=F.rc
 soft hr v w w' h hs hk:=by obtain⟨h1,h2⟩:=F.soft hr v w w' h.1 hs hk;exact⟨⟨h1,λb hb=>h.2 b (h2 b hb)⟩,h2⟩
section
variable{P:Program}{B:aa}{N:Nat}
theorem aM1{f:FuncId}{l:List aR}{F:Fact}{vs:aj}{nd:List (Nat×Option Obj)}{o:Oper}{x:Operand}{S:Nat}(h:aCL P f l F)(hs:fH B l vs nd)(ho:dw o.op=some x)(eK:gi P f=true)(wE:F.rc=false)(hS:∀ w,B.G w->S<=w.heap.size)(k:Nat):
  cB P B o (.func (.func f) #[] #[]::vs) ((k,none)::nd) (.pointer (some ⟨k,0,some 9⟩)) [(k,.fact (F.jT S))]:=by
 have:=jB (P:=P) (B:=B) (o:=o) (x:=x) (f:=f) (fi:=[]) (args:=vs) (ca:=[]) (need:=(k,none)::nd) (val:=.pointer (some ⟨k,0,some 9⟩)) (cR:=[(k,.fact (F.jT S))]) ho eK ?_
 ·simpa using this
 ·intro ι c w hm hn args' ha;rw[jo,je]at ha;refine(h w args' (BB hs hm (λp hp=>hn p (bF _ hp)) ha)).mono ?_
  rintro e w' ⟨v,rfl,⟨h1,h2,h3⟩,h4,h5⟩
  have K4:=hS w hm.base;refine⟨dF ι k (.val v),v,rfl,gC (hm.dr k (hn (k,none) (aV ..))),.opq (fD _ _ _) h2 h3,hm.new h5 (hn (k,none) (aV ..)) ⟨v,rfl,h1,λb hb=>de K4 (h4 b hb)⟩ n_ (λF' v' b e1 e2 hF=>?_) rfl λF' e hr=>?_⟩
  ·injection e1 with e1;subst e1;injection e2 with e2;subst e2;exact .inl (h4 b hF)
  ·injection e with e;subst e;have:F.rc=true:=hr;rw[wE]at this;cases this
structure aM2(w w':World)(kN s1 n1:Nat)(iB:aj)(uY s2 n2:Nat)(jf:aj)(F:Fact)(v1 v2 v3:Value):Prop where
 r1:w'.ownsRow w.heap.size kN s1 v1 n1 iB
 r2:w'.ownsRow w.heap.size uY s2 v2 n2 jf
 r3:Dc w' v3 F
 f3:∀ b,F.cO v3 w' b->w.heap.size<=b
 a12:∀ b,iE v1=some b->iE v2≠some b
 Pw:∀ b,iE v1=some b->¬F.cO v3 w' b
 a23:∀ b,iE v2=some b->¬F.cO v3 w' b
def tQ(P:Program)(f:FuncId)(l:List aR)(kN s1 n1:Nat)(iB:aj)(uY s2 n2:Nat)(jf:aj)(F:Fact)(us:aj):Prop:=
 ∀ w vs,rZ w l vs->Calls P f vs.toArray w λe w'=>∃ v1 v2 v3,e=.returned (.tuple (.agg #[v1,v2,v3]::us).toArray)/\aM2 w w' kN s1 n1 iB uY s2 n2 jf F v1 v2 v3/\Below w.heap.size w w'
theorem H6{ι:Map}{c:Nat->Option Obj}{w:World}(hm:aQ B ι c w){k n cc b:Nat}{v:Value}(hc:aG ι (.slice (some ⟨k,0,some 7⟩) n cc) v)(hb:iE v=some b):∃ o cap,ι k=some (.at b o cap):=by
 rcases hc.gV rfl with ⟨_,_,_,_,q5⟩|⟨b',oo,cap,c',q1,_,_,q5⟩
 ·rw[q5]at hb;cases hb
 ·rw[q5]at hb;injection hb with hb;subst hb;exact⟨oo,cap,q1⟩
theorem Px{f:FuncId}{fn:Func}{l:List aR}{kN s1 n1 uY s2 n2 k1 k2 k3:Nat}{iB jf us:aj}{F:Fact}(gn:P.follows .mixedOrders=true)(hf:P.funcs[f]?=some fn)(hl:(l.all aR.ok)=true)(n:Nat){N:Nat}(hN:N=(eP 0 l).length+(fn.ntmps-(eP 0 l).length))
  (rs:∀ w,bA P (aa.at w) N) (h:∀ w,nA (fO (P:=P) fn n (eP 0 l) (js 0 l) (jG 0 l) (rs w)) [(k1,.row iB kN s1),(k2,.row jf uY s2),(k3,.fact (F.jT w.heap.size))] =
   nB (fO fn n (eP 0 l) (js 0 l) (jG 0 l) (rs w)) (.tuple (.agg #[.slice (some ⟨k1,0,some 7⟩) n1 0,.slice (some ⟨k2,0,some 7⟩) n2 0,.pointer (some ⟨k3,0,some 9⟩)]::us).toArray) [(k1,.row iB kN s1),(k2,.row jf uY s2),(k3,.fact (F.jT w.heap.size))])
  (Uu:k1≠k2) (uH:(iB.all flat)=true) (vi:iB.length=n1*s1) (gL:(jf.all flat)=true) (jv:jf.length=n2*s2) (hu:(us.all flat)=true):tQ P f l kN s1 n1 iB uY s2 n2 jf F us:=by
 intro w vs ct;obtain⟨ι,c,h1,h2,h3,h4,h5,h6,h7⟩:=vN ct (bh.1 hl) 0 _ _ (qx w) n_ (λ_ _=>rfl);refine rG gn hf hN n (h w) h6 h2 h4 h3 λau bY v' w' hle hc hm dy=>?_;obtain⟨cM,rfl,pJ⟩:=hc.ug;have hc:bK (aG au) (.agg #[.slice (some ⟨k1,0,some 7⟩) n1 0,.slice (some ⟨k2,0,some 7⟩) n2 0,.pointer (some ⟨k3,0,some 9⟩)]::us) cM.toList:=pJ;cases aO:cM.toList with
 |nil=>rw[aO]at hc;cases hc
 |cons a t=>
  rw[aO]at hc;cases hc with
  |cons ha ht=>
   obtain⟨ags,rfl,gZ⟩:=ha.I4;have Fh:bK (aG au) [.slice (some ⟨k1,0,some 7⟩) n1 0,.slice (some ⟨k2,0,some 7⟩) n2 0,.pointer (some ⟨k3,0,some 9⟩)] ags.toList:=gZ;obtain⟨v1,v2,v3,e3,c1,c2,c3⟩:=Ja Fh;have et:=nr ht (bh.1 hu);have g1:=dy (k1,_) (aV ..);have g2:=dy (k2,_) (bF _ (aV ..));have g3:=dy (k3,_) (bF _ (bF _ (aV ..)));have o1:=vx hm g1 c1 o_ (bh.1 uH);have o2:=vx hm g2 c2 o_ (bh.1 gL);rw[<-vi,mQ]at o1;rw[<-jv,mQ]at o2;have o3:=Bz hm g3 c3;have aCM:au k3=some (.val v3):=by
    obtain⟨lc,q1,u,q2,q3⟩:=hm.born k3 _ g3;subst q2;generalize hp:Value.pointer (some ⟨k3,0,some 9⟩)=p at c3;cases c3 with
    |same h=>subst hp;cases h
    |ptr h=>injection hp with hp;injection hp with hp;injection hp with _ _ hp;cases hp
    |slc h=>cases hp
    |slcN h=>cases hp
    |opq h4 h5 h6=>injection hp with hp;injection hp with hp;injection hp with gY;subst gY;exact h4
    |fn=>cases hp
    |agg=>cases hp
    |tup=>cases hp
   refine⟨v1,v2,v3,?_,⟨o1,o2,⟨o3.1.1,o3.2⟩,o3.1.2,λb pL gp=>?_,λb hb hF=>?_,λb hb hF=>?_⟩,hm.base⟩
   ·congr 2
    rw[<-xu (xs:=cM),aO,et]
    congr 2
    congr 1
    rw[<-xu (xs:=ags),e3]
   ·obtain⟨o,cap,q1⟩:=H6 hm c1 pL;obtain⟨o',aT,q2⟩:=H6 hm c2 gp;exact Uu (hm.inj k1 k2 _ _ b o cap o' aT g1 rfl g2 rfl q1 q2)
   ·obtain⟨o,cap,q1⟩:=H6 hm c1 hb;exact hm.apart k1 k3 _ _ b o cap v3 g1 rfl q1 g3 aCM hF
   ·obtain⟨o,cap,q1⟩:=H6 hm c2 hb;exact hm.apart k2 k3 _ _ b o cap v3 g2 rfl q1 g3 aCM hF
theorem Vb{ι:Map}{c:Nat->Option Obj}{w':World}{S k n s:Nat}{ty:TypeId}{v:Value}{xs:aj}(hm:aQ B ι c w')(hk:c k=none)(hr:w'.ownsRow S ty s v n xs)(cN:(xs.all flat)=true)(hB:∀ b,B.cO b->b<S)
  (hold:∀ j y b o cap,c j=some y->ι j=some (.at b o cap)->y.owns=true\/y.gh=true->iE v≠some b) (aM3:∀ j F u b,c j=some (.fact F)->ι j=some (.val u)->iE v=some b->¬F.cO u w' b) :
  ∃ au,Map.le ι au/\aQ B au (ba c k (.row xs ty s)) w'/\aG au (.slice (some ⟨k,0,some 7⟩) n 0) v/\∀ b o cap,au k=some (.at b o cap)->iE v=some b:=by
 have hle:∀ l,Map.le ι (dF ι k l):=λl=>gC (hm.dr k hk);rcases hr.2 with ⟨h1,h2⟩|⟨g,cap,cur,h1,h2,h3,h4,h5,h6,h7⟩
 ·have hl:=hr.1;rw[h2,lC]at hl;have hx:xs=[]:=lv hl;subst h1;subst h2;subst hx;exact⟨dF ι k .nil,hle _,hm.add hk (.inl ⟨rfl,rfl⟩) n_ n_ n_,.slcN (fD _ _ _),λb o cap e=>by rw[fD]at e;cases e⟩
 ·subst h1;refine⟨dF ι k (.at g 0 cap),hle _,hm.add hk (.inr ⟨g,cap,cur,rfl,h3,h5,h6,?_⟩) (λb1 o1 lV _ e=>?_) n_ n_,.slc (o:=0) (off:=0) (fD _ _ _) h4 o_,λb1 o1 lV e=>?_⟩
  ·rw[hr.1,h7];exact ke (bh.1 cN)
  ·injection e with e;subst e;refine⟨(yC.1 h3).1,λhF=>by have:=hB _ hF;omega,λj y o' aT hj hy he=>hold j y g o' aT hj he (.inl hy) rfl,λj F u hj hu hF=>aM3 j F u g hj hu rfl hF,λj y o' aT hj hy he=>hold j y g o' aT hj he (.inr hy) rfl⟩
  ·rw[fD]at e;injection e with e;injection e with e;subst e;rfl
theorem Du{f:FuncId}{l:List aR}{kN s1 n1 uY s2 n2:Nat}{iB jf:aj}{F:Fact}{us vs:aj}{nd:List (Nat×Option Obj)}{o:Oper}{x:Operand}{S:Nat}(h:tQ P f l kN s1 n1 iB uY s2 n2 jf F us)(hs:fH B l vs nd)(ho:dw o.op=some x)(eK:gi P f=true)(wE:F.rc=false)
  (f1:(iB.all flat)=true) (f2:(jf.all flat)=true) (fu:(us.all flat)=true) (hS:∀ w,B.G w->S<=w.heap.size) (k:Nat) :
  cB P B o (.func (.func f) #[] #[]::vs) ((k,none)::(k+1,none)::(k+2,none)::nd) (.tuple (.agg #[.slice (some ⟨k,0,some 7⟩) n1 0,.slice (some ⟨k+1,0,some 7⟩) n2 0,.pointer (some ⟨k+2,0,some 9⟩)]::us).toArray)
   [(k+2,.fact (F.jT S)),(k+1,.row jf uY s2),(k,.row iB kN s1)]:=by
 have:=jB (P:=P) (B:=B) (o:=o) (x:=x) (f:=f) (fi:=[]) (args:=vs) (ca:=[]) (need:=(k,none)::(k+1,none)::(k+2,none)::nd)
  (val:=.tuple (.agg #[.slice (some ⟨k,0,some 7⟩) n1 0,.slice (some ⟨k+1,0,some 7⟩) n2 0,.pointer (some ⟨k+2,0,some 9⟩)]::us).toArray) (cR:=[(k+2,.fact (F.jT S)),(k+1,.row jf uY s2),(k,.row iB kN s1)]) ho eK ?_
 ·simpa using this
 ·intro ι c w hm hn args' ha;rw[jo,je]at ha;have k0:c k=none:=hn (k,none) s_;have k1:c (k+1)=none:=hn (k+1,none) s_;have k2:c (k+2)=none:=hn (k+2,none) s_;refine(h w args' (BB hs hm (λp hp=>hn p (by simp[hp])) ha)).mono ?_
  rintro e w' ⟨v1,v2,v3,rfl,⟨r1,r2,r3,f3,a12,Pw,a23⟩,hb⟩
  have K4:=hS w hm.base;have uZ:=hm.call hb
  -- where aUX lie
  have cW:∀ j y b o cap,c j=some y->ι j=some (.at b o cap)->y.owns=true\/y.gh=true->b<w.heap.size:=λj y b o cap hj hl hy=>by
   rcases hy with hy|hy
   ·exact(hm.own j y b o cap hj hy hl).1
   ·exact(hm.seen j y b o cap hj hy hl).1
  have Py:∀ j F u b,c j=some (.fact F)->ι j=some (.val u)->F.cO u w' b->b<w.heap.size:=λj F u b hj hu hF=>by have hF:=hm.B9 hj hu hb.size (λk hk _=>hb.block k hk) hF;obtain⟨l,q1,q2⟩:=hm.born j _ hj;rw[hu]at q1;injection q1 with q1;exact q2.wD q1.symm hF
  have K5:∀ b,iE v1=some b->w.heap.size<=b:=λb hb=>by
   rcases r1.2 with ⟨h1,_⟩|⟨g,cap,cur,h1,h2,_⟩
   ·rw[h1]at hb;cases hb
   ·rw[h1]at hb;injection hb with hb;subst hb;exact h2
  have aCN:∀ b,iE v2=some b->w.heap.size<=b:=λb hb=>by
   rcases r2.2 with ⟨h1,_⟩|⟨g,cap,cur,h1,h2,_⟩
   ·rw[h1]at hb;cases hb
   ·rw[h1]at hb;injection hb with hb;subst hb;exact h2
  have Pz:∀ b,B.cO b->b<w.heap.size:=λb hF=>B.lt w b hm.base hF;obtain⟨bO,l1,m1,c1,p1⟩:=Vb uZ k0 r1 f1 Pz (λj y b o cap hj hl hy e=>by have a:=cW j y b o cap hj hl hy;have b:=K5 b e;omega) (λj F u b hj hu e hF=>by have a:=Py j F u b hj hu hF;have b:=K5 b e;omega);have bn:∀{ι:Map} {c:Nat->Option Obj},aQ B ι c w'->∀ j y,c j=some y->∃ l,ι j=some l:=λh j y hj=>by obtain⟨l,q,_⟩:=h.born j y hj;exact⟨l,q⟩
  have back:∀{ι bO:Map} {c:Nat->Option Obj},aQ B ι c w'->Map.le ι bO->∀ j y l,c j=some y->bO j=some l->ι j=some l:=λh hle j y l hj hl=>by obtain⟨l',ch⟩:=bn h j y hj;have:=hle j l' ch;rw[hl]at this;injection this with this;rw[this];exact ch
  have PA:ba c k (.row iB kN s1) (k+1)=none:=by unfold ba;rw[ao o_];exact k1
  have K6:∀ j y,ba c k (.row iB kN s1) j=some y->(j=k/\y=.row iB kN s1)\/(j≠k/\c j=some y):=λj y hj=>by
   unfold ba at hj;by_cases bN:j=k
   ·rw[aw bN]at hj;injection hj with hj;exact .inl ⟨bN,hj.symm⟩
   ·rw[ao bN]at hj;exact .inr ⟨bN,hj⟩
  obtain⟨dG,l2,m2,c2,p2⟩:=Vb m1 PA r2 f2 Pz (λj y b o cap hj hl hy e=>by
   rcases K6 j y hj with ⟨rfl,rfl⟩|⟨_,hj⟩
   ·exact a12 b (p1 b o cap hl) e
   ·have a:=cW j y b o cap hj (back uZ l1 j y _ hj hl) hy;have b:=aCN b e;omega) (λj F u b hj hu e hF=>by
   rcases K6 j _ hj with ⟨_,h⟩|⟨_,hj⟩
   ·cases h
   ·have a:=Py j F u b hj (back uZ l1 j _ _ hj hu) hF;have b:=aCN b e;omega)
  have k2':ba (ba c k (.row iB kN s1)) (k+1) (.row jf uY s2) (k+2)=none:=by unfold ba;rw[ao o_,ao o_];exact k2
  have m3:aQ B (dF dG (k+2) (.val v3)) (ba (ba (ba c k (.row iB kN s1)) (k+1) (.row jf uY s2)) (k+2) (.fact (F.jT S))) w':=
   m2.add k2' ⟨v3,rfl,r3.1,λb hF=>de K4 (f3 b hF)⟩ n_ (λF' v b e1 e2 hF j y o' aT hj hy he=>by
    injection e1 with e1;subst e1;injection e2 with e2;subst e2;have hF:F.cO v3 w' b:=hF;have A6:=hj;unfold ba at hj;by_cases bN:j=k+1
    ·subst bN;exact a23 b (p2 b o' aT he) hF
    ·rw[ao bN]at hj;have he1:=back m1 l2 j y _ hj he;rcases K6 j y hj with ⟨rfl,rfl⟩|⟨_,hj⟩
     ·exact Pw b (p1 b o' aT he1) hF
     ·have h1:=cW j y b o' aT hj (back uZ l1 j y _ hj he1) (.inl hy);have h2:=f3 b hF;omega) n_ λF' e hr=>by
    injection e with e;subst e;have:F.rc=true:=hr;rw[wE]at this;cases this
  have l3:Map.le dG (dF dG (k+2) (.val v3)):=gC (m2.dr _ k2');refine⟨_,_,rfl,l1.trans (l2.trans l3),.tup ?_,m3⟩;refine .cons (.agg (.cons (c1.mono (l2.trans l3)) (.cons (c2.mono l3) (.cons (.opq (fD _ _ _) r3.2.1 r3.2.2) .nil)))) (ke λv hv=>bh.1 fu v hv)
end
def lT(ι au:Map)(ns:List Nat):Map:=λk=>if ns.contains k then au k else ι k
def inN(ns:List Nat):Value->Bool
 |.slice (some ad) _ _=>nk ad&&ns.contains ad.block
 |.pointer (some ad)=>nk ad&&ns.contains ad.block
 |_=>false
def xI(K:Nat)(ns:List Nat)(v:Value):Bool:=nw K v||inN ns v
theorem aCO{K:Nat}{ns:List Nat}{v:Value}(h:flat v=true):xI K ns v=true:=by unfold xI;rw[iI h];rfl
theorem aCP{K:Nat}{ns:List Nat}{ι au:Map}(dp:∀ k,k<K->∀ lc,au k=some lc->ι k=some lc){v v':Value}(ay:xI K ns v=true)(h:aG au v v'):aG (lT ι au ns) v v':=by
 unfold xI at ay;rw[uy]at ay;rcases ay with ay|ay
 ·refine h.low (λk hk l e=>?_) ay;unfold lT;by_cases hc:ns.contains k=true
  ·rw[aw hc];exact e
  ·rw[ao hc];exact dp k hk l e
 ·have key:∀{k:Nat} {l:oY},ns.contains k=true->au k=some l->lT ι au ns k=some l:=λhk e=>by unfold lT;rw[aw hk];exact e
  unfold inN at ay;split at ay
  ·rename_i ad n c;rw[da]at ay;obtain⟨bl,off,sp⟩:=ad;have zJ:=I3 ay.1;have ct:=ay.2;dsimp only at zJ ct;subst zJ;rcases h.gV rfl with ⟨q1,q2,q3,q4,q5⟩|⟨b,oo,cap,c',q1,q2,q3,q5⟩
   ·dsimp only at q1 q4;rw[q5,q2,q3,q4];exact .slcN (key ct q1)
   ·dsimp only at q1 q5;rw[q5];exact .slc (key ct q1) q2 q3
  ·rename_i ad;rw[da]at ay;obtain⟨bl,off,sp⟩:=ad;have zJ:=I3 ay.1;have ct:=ay.2;dsimp only at zJ ct;subst zJ;obtain⟨b,o,cap,q1,q2⟩:=h.yo rfl;dsimp only at q1 q2;rw[q2];exact .ptr (key ct q1)
  ·cases ay
theorem PB{K:Nat}{ns:List Nat}{ι au:Map}(dp:∀ k,k<K->∀ lc,au k=some lc->ι k=some lc):∀{l l':aj},(∀ v∈l,xI K ns v=true)->bK (aG au) l l'->bK (aG (lT ι au ns)) l l'
 |_,_,_,.nil=>.nil
 |_,_,ay,.cons h1 h2=>.cons (aCP dp (ay _ (aV ..)) h1) (PB dp (λv hv=>ay v (bF _ hv)) h2)
theorem aM4{K:Nat}{ns:List Nat}{ι au:Map}(dp:∀ k,k<K->∀ lc,au k=some lc->ι k=some lc){x:Obj}(ay:∀ v∈x.cells,xI K ns v=true){w:World}{l:oY}(h:ju au w l x):ju (lT ι au ns) w l x:=by
 cases x with
 |aI cells ty=>obtain⟨b,bC,e1,e2,e3⟩:=h;exact⟨b,bC,e1,PB dp ay e2,e3⟩
 |row cells ty size=>
  rcases h with h|⟨b,cap,cur,e1,e2,e3,e4,e5⟩
  ·exact .inl h
  ·exact .inr ⟨b,cap,cur,e1,e2,e3,e4,PB dp ay e5⟩
 |view cells=>
  rcases h with h|⟨b,o,cap,cs,e1,e2,e3⟩
  ·exact .inl h
  ·exact .inr ⟨b,o,cap,cs,e1,PB dp ay e2,e3⟩
 |fact F=>exact h
 |dead=>trivial
section
variable{P:Program}{B:aa}{w w4:World}{K:Nat}{S:Nat->Prop}{ι:Map}{c:Nat->Option Obj}{ns:List Nat}
theorem aM5(h:aQ B ι c w){Os cq:aH}(hO:cT c Os)(dL:∀ k x,ah Os k=some x->x.owns=true)(qH:∀ k x,ah cq k=some x->x.owns=true\/x=.dead)
  (jO:∀ k,ah cq k=none↔(ah Os k=none/\ns.contains k=false)) (Eb:∀ k,ns.contains k=true->c k=none) (hS:∀ b,S b->∃ k x o cap,ah Os k=some x/\ι k=some (.at b o cap))
  {au:Map} {c':Nat->Option Obj} (hm:aQ (aa.KK w S) au c' w4) (rY:cT c' cq) (dp:∀ k,k<K->∀ lc,au k=some lc->ι k=some lc) (ay:∀ k x,ah cq k=some x->∀ v∈x.cells,xI K ns v=true)
  (mG:∀ k x,ah Os k=some x->k<K):Map.le ι (lT ι au ns)/\aQ B (lT ι au ns) (lp c cq) w4:=by
 have hle:Map.le ι (lT ι au ns):=λk l e=>by
  unfold lT;by_cases hc:ns.contains k=true
  ·rw[h.dr k (Eb k hc)]at e;cases e
  ·rw[ao hc];exact e
 have bH:w.heap.size<=w4.heap.size:=hm.base.2.2.2.1;have aI:∀ b,b<w.heap.size->¬S b->w4.heap[b]?=w.heap[b]?:=hm.base.2.2.2.2;have KL:∀ b,S b->¬B.cO b:=λb hb=>by obtain⟨k,x,o,cap,e1,e2⟩:=hS b hb;exact(h.own k x b o cap (hO k x e1) (dL k x e1) e2).2
 have cW:∀ k,ns.contains k=false->lT ι au ns k=ι k:=λk e=>by unfold lT;rw[e];rfl
 have kinds:∀ k x,lp c cq k=some x->(ah cq k=some x/\c' k=some x/\(x.owns=true\/x=.dead))\/(ah Os k=none/\ns.contains k=false/\c k=some x):=λk x e=>by
  rw[vn]at e;cases ho:ah cq k with
  |some y=>rw[ho]at e;injection e with e;subst e;exact .inl ⟨rfl,rY k y ho,qH k y ho⟩
  |none=>rw[ho]at e;exact .inr ⟨((jO k).1 ho).1,((jO k).1 ho).2,e⟩
 have same:∀ k x,ah cq k=some x->lT ι au ns k=au k:=λk x e=>by
  unfold lT;by_cases hc:ns.contains k=true
  ·rw[aw hc]
  ·rw[ao hc];obtain⟨lc,q,_⟩:=hm.born k x (rY k x e);have:ah Os k≠none:=λhn=>by have:=(jO k).2 ⟨hn,by simpa using hc⟩;rw[e]at this;cases this
   cases hk:ah Os k with
   |none=>exact absurd hk this
   |some y=>rw[q,dp k (mG k y hk) lc q]
 have C6:∀ k x b o cap,ah Os k=none->c k=some x->x.owns=true->ι k=some (.at b o cap)->¬S b:=λk x b o cap hn hc hx hl hs=>by obtain⟨k',x',o',aT,e1,e2⟩:=hS b hs;have:=h.inj k k' x x' b o cap o' aT hc hx (hO k' x' e1) (dL k' x' e1) hl e2;subst this;rw[hn]at e1;cases e1
 have C7:∀ k x b o cap,c k=some x->x.gh=true->ι k=some (.at b o cap)->¬S b:=λk x b o cap hc hx hl hs=>by obtain⟨k',x',o',aT,e1,e2⟩:=hS b hs;exact(h.seen k x b o cap hc hx hl).2 k' x' o' aT (hO k' x' e1) (dL k' x' e1) e2
 have xt:∀ k F v b,c k=some (.fact F)->ι k=some (.val v)->F.cO v w b->¬S b:=λk F v b hc hl hF hs=>by obtain⟨k',x',o',aT,e1,e2⟩:=hS b hs;exact h.apart k' k x' F b o' aT v (hO k' x' e1) (dL k' x' e1) e2 hc hl hF
 have part:∀ k x b o cap j y o' aT,ah cq k=some x->x.owns=true->lT ι au ns k=some (.at b o cap)->ah Os j=none->c j=some y->y.owns=true->ι j=some (.at b o' aT)->False:=λk x b o cap j y o' aT hk hx hl hj hc hy ch=>by
  rcases eF b w.heap.size with ak|dR
  ·have q:=(hm.own k x b o cap (rY k x hk) hx (by rw[<-same k x hk];exact hl)).2;exact q ⟨ak,C6 j y b o' aT hj hc hy ch⟩
  ·have:=(h.own j y b o' aT hc hy ch).1;omega
 refine⟨hle,B.dep w w4 h.base hm.base.1 hm.base.2.1 hm.base.2.2.1 bH λk hk=>aI k (B.lt w k h.base hk) λhs=>KL k hs hk,?_,?_,?_,?_,?_,?_,?_,?_,h.oz.trans hle⟩
 ·intro k hk;rw[vn]at hk;cases ho:ah cq k with
  |some y=>rw[ho]at hk;cases hk
  |none=>
   rw[ho]at hk;rw[cW k ((jO k).1 ho).2];exact h.dr k hk
 ·intro k x hk;rcases kinds k x hk with ⟨h1,h2,h3⟩|⟨h1,hc,h2⟩
  ·obtain⟨lc,q1,q2⟩:=hm.born k x h2;exact⟨lc,by rw[same k x h1];exact q1,aM4 dp (ay k x h1) q2⟩
  ·obtain⟨lc,q1,q2⟩:=h.born k x h2;refine⟨lc,by rw[cW k hc];exact q1,(q2.mono hle).gB bH (λb o cap hx e=>?_) λF v b e1 e2 hF=>?_⟩
   ·subst e;rcases hx with hx|hx
    ·exact aI b (h.own k x b o cap h2 hx q1).1 (C6 k x b o cap h1 h2 hx q1)
    ·exact aI b (h.seen k x b o cap h2 hx q1).1 (C7 k x b o cap h2 hx q1)
   ·subst e1;subst e2;exact aI b (q2.wD rfl hF) (xt k F v b h2 q1 hF)
 ·intro k x b o cap hk hx hl;rcases kinds k x hk with ⟨h1,h2,h3⟩|⟨h1,hc,h2⟩
  ·have ch:au k=some (.at b o cap):=by rw[<-same k x h1];exact hl
   obtain⟨q1,q2⟩:=hm.own k x b o cap h2 hx ch;refine⟨q1,λhF=>?_⟩;have fJ:=B.lt w b h.base hF;exact q2 ⟨fJ,λhs=>KL b hs hF⟩
  ·rw[cW k hc]at hl;obtain⟨q1,q2⟩:=h.own k x b o cap h2 hx hl;exact⟨cv q1 bH,q2⟩
 ·intro k j x y b o cap o' aT hk hx hj hy hl ch;rcases kinds k x hk with ⟨h1,h2,h3⟩|⟨h1,hc,h2⟩
  ·rcases kinds j y hj with ⟨p1,p2,p3⟩|⟨p1,kg,p2⟩
   ·exact hm.inj k j x y b o cap o' aT h2 hx p2 hy (by rw[<-same k x h1];exact hl) (by rw[<-same j y p1];exact ch)
   ·rw[cW j kg]at ch;exact(part k x b o cap j y o' aT h1 hx hl p1 p2 hy ch).elim
  ·rw[cW k hc]at hl;rcases kinds j y hj with ⟨p1,p2,p3⟩|⟨p1,kg,p2⟩
   ·exact(part j y b o' aT k x o cap p1 hy ch h1 h2 hx hl).elim
   ·rw[cW j kg]at ch;exact h.inj k j x y b o cap o' aT h2 hx p2 hy hl ch
 ·intro k j x F b o cap v hk hx hl hj hv hF;rcases kinds j _ hj with ⟨_,_,p3⟩|⟨p1,po,p2⟩
  ·rcases p3 with p3|p3<;>cases p3
  rw[cW j po]at hv;have hF:=h.B9 p2 hv bH (λk2 fE jl=>aI k2 fE (xt j F v k2 p2 hv jl)) hF;rcases kinds k x hk with ⟨h1,h2,h3⟩|⟨h1,hc,h2⟩
  ·have ch:au k=some (.at b o cap):=by rw[<-same k x h1];exact hl
   have hb:b<w.heap.size:=by obtain⟨lc,q1,q2⟩:=h.born j _ p2;rw[hv]at q1;injection q1 with q1;subst q1;exact q2.wD rfl hF
   exact(hm.own k x b o cap h2 hx ch).2 ⟨hb,xt j F v b p2 hv hF⟩
  ·rw[cW k hc]at hl;exact h.apart k j x F b o cap v h2 hx hl p2 hv hF
 ·intro k x b o cap hk hx hl;rcases kinds k x hk with ⟨h1,h2,h3⟩|⟨h1,hc,h2⟩
  ·rcases h3 with h3|h3
   ·cases x<;>simp[Obj.owns,Obj.gh]at h3 hx
   ·subst h3;cases hx
  ·rw[cW k hc]at hl;obtain⟨q1,q2⟩:=h.seen k x b o cap h2 hx hl;refine⟨cv q1 bH,λj y o' aT hj hy ch=>?_⟩;rcases kinds j y hj with ⟨p1,p2,p3⟩|⟨p1,kg,p2⟩
   ·have jv:au j=some (.at b o' aT):=by rw[<-same j y p1];exact ch
    exact(hm.own j y b o' aT p2 hy jv).2 ⟨q1,C7 k x b o cap h2 hx hl⟩
   ·rw[cW j kg]at ch;exact q2 j y o' aT p2 hy ch
 ·intro j F hj;rcases kinds j _ hj with ⟨_,_,h3⟩|⟨h1,_,h2⟩
  ·rcases h3 with h3|h3<;>cases h3
  ·exact h.fa j F h2
 ·intro j k F F' hj hk;rcases kinds j _ hj with ⟨_,_,h3⟩|⟨_,_,h2⟩
  ·rcases h3 with h3|h3<;>cases h3
  rcases kinds k _ hk with ⟨_,_,h3⟩|⟨_,_,vE⟩
  ·rcases h3 with h3|h3<;>cases h3
  exact h.one j k F F' h2 vE
theorem aM6{f:FuncId}{o:Oper}{x:Operand}{args ca:aj}{Os Vs cq:aH}{val:Value}(h:xC P f K (args++ca) Os Vs val cq)(ho:dw o.op=some x)(eK:gi P f=true)(kE:xI K ns val=true)
  (df:(args++ca).all (nw K)=true) (dp:((Os++Vs).all λp=>Nat.blt p.1 K&&om K p)=true) (ay:∀ p∈cq,∀ v∈p.2.cells,xI K ns v=true) (dL:(Os.all λp=>p.2.owns)=true) (qH:∀ p∈cq,p.2.owns=true\/p.2=.dead) (oZ:(Vs.all λp=>p.2.gh)=true)
  (jO:∀ k,ah cq k=none↔(ah Os k=none/\ns.contains k=false)) :
  cB P B o (.func (.func f) #[] ca.toArray::args) (((Os++Vs).map λp=>(p.1,some p.2))++ns.map λk=>(k,none)) val cq:=by
 have:=jB (P:=P) (B:=B) (o:=o) (x:=x) (f:=f) (fi:=[]) (args:=args) (ca:=ca) (need:=((Os++Vs).map λp=>(p.1,some p.2))++ns.map λk=>(k,none)) (val:=val) (cR:=cq) ho eK ?_
 ·simpa using this
 ·intro ι c w hm hn args' ha;rw[jo]at ha;have hL:cT c (Os++Vs):=Oh λp hp=>hn p (ee.2 (.inl hp));have Mg:∀ k,ns.contains k=true->c k=none:=λk hk=>hn (k,none) (ee.2 (.inr (dj.2 ⟨k,by simpa using hk,rfl⟩)));have KM:∀ k x,ah (Os++Vs) k=some x->k<K/\fN K x:=λk x e=>by have:=nK dp e;simp only[da,AK]at this;exact⟨this.1,Da this.2⟩
  obtain⟨S,hS,Kn,Ko,uN⟩:=aB4 hm hL KM (λk x e=>nK dL e) (λk x e=>nK oZ e);have b9:bK (aG (vK ι K)) (args++ca) args':=by
   have key:∀{l l':aj},bK (aG ι) l l'->(∀ v∈l,nw K v=true)->bK (aG (vK ι K)) l l':=by
    intro l l' h hl;induction h with
    |nil=>exact .nil
    |cons h t ih=>exact .cons (h.low (λk hk l e=>by rw[xq hk];exact e) (hl _ (aV ..))) (ih λc hc=>hl c (bF _ hc))
   exact key ha (bh.1 df)
  refine(h (aa.KK w S) rfl _ _ w args' Kn Ko uN b9).mono ?_
  rintro e w' ⟨v',au,c',rfl,hle,hc,bo,rY,gD⟩
  have Fi:=aB5 hm hL bo hle gD;obtain⟨g1,g2⟩:=aM5 (ns:=ns) hm (λk x e=>hL k x (by rw[gK,e])) (λk x e=>nK dL e) (λk x e=>qH _ (j0 e)) jO Mg hS bo rY Fi (λk x e=>ay _ (j0 e)) λk x e=>(KM k x (by rw[gK,e])).1;exact⟨_,v',rfl,g1,aCP Fi kE hc,g2⟩
end
section
variable{P:Program}{B:aa}{N:Nat}
def aY.sB(key i j p:Nat)(h:p=i*j)(hp:p<9223372036854775808):aY P B N:=
 .rw key (.int .i64 (IntKind.i64.wrap ((i:Int)*(j:Int)))) (vI p) (by
  have e:((i:Int)*(j:Int))=((i*j:Nat):Int):=by simp
  rw[e,<-h];have e:IntKind.i64.wrap (p:Int)=(p:Int):=by rw[c8];omega
  rw[e];rfl)
def aY.FM(key a b r:Nat)(h:r=a%b):aY P B N:=
 .rw key (.int .i64 (Int.tmod (a:Int) (b:Int))) (vI r) (by rw[yT o_,h];rfl)
def aY.FN(key a b q:Nat)(h:q=a/b)(ha:a<9223372036854775808):aY P B N:=
 .rw key (.int .i64 (IntKind.i64.wrap (Int.tdiv (a:Int) (b:Int)))) (vI q) (by
  rw[yS o_,h];have e:((a:Int)/(b:Int))=((a/b:Nat):Int):=by simp
  have hq:a/b<=a:=tj _ _;rw[e];have e:IntKind.i64.wrap ((a/b:Nat):Int)=((a/b:Nat):Int):=by rw[c8];omega
  rw[e];rfl)
theorem K7{f:FuncId}{fn:Func}{l:List aR}{ty:TypeId}{size m:Nat}{xs cells:aj}{k:Nat}(gn:P.follows .mixedOrders=true)(hf:P.funcs[f]?=some fn)(hl:(l.all aR.ok)=true)(n:Nat){N:Nat}(hN:N=(eP 0 l).length+(fn.ntmps-(eP 0 l).length))
  (rs:∀ w,bA P (aa.at w) N) (h:∀ w,nA (fO (P:=P) fn n (eP 0 l) (js 0 l) (jG 0 l) (rs w)) [(k,.row cells ty size)]=nB (fO fn n (eP 0 l) (js 0 l) (jG 0 l) (rs w)) (.slice (some ⟨k,0,some 7⟩) m 0) [(k,.row cells ty size)])
  (hx:(cells.all flat)=true) (hlen:m*size<=cells.length) (kL:cells.take (m*size)=xs):lM P f l ty size m xs:=by
 intro w vs ct;obtain⟨ι,c,h1,h2,h3,h4,h5,h6,h7⟩:=vN ct (bh.1 hl) 0 _ _ (qx w) n_ (λ_ _=>rfl);refine rG gn hf hN n (h w) h6 h2 h4 h3 λau bY v' w' hle hc hm dy=>⟨v',rfl,?_,hm.base⟩;have:=vx hm (dy (k,_) (aV ..)) hc hlen (bh.1 hx);rwa[kL]at this
end
theorem BQ{n a:Nat}(h:a<bz^n):(ai (ae bz n a)).take (nd bz a*1)=cJ a:=by have hle:=ja (B:=bz) d_ h;unfold cJ ai;rw[fX,<-Co,Ju hle]
theorem FO{n a:Nat}(h:a<bz^n):nd bz a*1<=(ai (ae bz n a)).length:=by have hle:=ja (B:=bz) d_ h;rw[lN,oE];omega
theorem H7(a:Nat):(jt a).ok=true:=sn a
theorem H8:(16777216:Nat)=256^3:=by decide
theorem aM7{a i:Nat}:(a%256^i/bz^(i/3)%bz)+(a/256^i%256*2^(8*(i%3)))=a%256^(i+1)/bz^(i/3)%bz:=by
 have e1:bz^(i/3)=256^(3*(i/3)):=by rw[show bz=256^3 from H8,<-rM]
 have e2:(2:Nat)^(8*(i%3))=256^(i%3):=by rw[rM]
 have e3:256^i=256^(3*(i/3))*256^(i%3):=by rw[<-ev];congr 1;omega
 have hr:256^(i%3)*256<=bz:=by rw[show bz=256^3 from H8,<-dx];exact cZ d_ o_
 rw[e1,e2];have m1:a%256^i/256^(3*(i/3))=a/256^(3*(i/3))%256^(i%3):=by rw[e3,AY]
 have m2:a%256^(i+1)/256^(3*(i/3))=a/256^(3*(i/3))%(256^(i%3)*256):=by rw[dx,e3,fF,AY]
 have m3:a/256^i%256=a/256^(3*(i/3))/256^(i%3)%256:=by rw[e3,kA]
 rw[m1,m2,m3];generalize a/256^(3*(i/3))=c;have hp:0<256^(i%3):=cG d_;have h1:=cE c hp;have h3:c%(256^(i%3)*256)=c%256^(i%3)+256^(i%3)*(c/256^(i%3)%256):=MO;have h4:c%(256^(i%3)*256)<256^(i%3)*256:=cE _ o_;rw[dK (cv h4 hr),h3,dK (cv h1 (de (EK _ d_) hr)),cP (c/256^(i%3)%256)]
theorem aM8{a i j:Nat}(h:j≠i/3):a%256^i/bz^j%bz=a%256^(i+1)/bz^j%bz:=by
 have e1:bz^j=256^(3*j):=by rw[show bz=256^3 from H8,<-rM]
 rw[e1];rcases Ek h with h1|h1
 ·have k:∀ i,3*j+3<=i->a%256^i/256^(3*j)%bz=a/256^(3*j)%bz:=by
   intro i hi;have e3:256^i=256^(3*j)*(bz*256^(i-3*j-3)):=by rw[show bz=256^3 from H8,<-ev,<-ev];congr 1;omega
   rw[e3,AY,JF]
  rw[k i o_,k (i+1) o_]
 ·have hp:∀ i,i<=3*j->a%256^i/256^(3*j)=0:=by intro i hi;exact l8 (cv (cE _ (cG d_)) (cZ d_ hi))
  rw[hp i o_,hp (i+1) o_]
theorem aM9{a i n:Nat}(hi:i/3<n):(ae bz n (a%256^i)).set (i/3) (a%256^(i+1)/bz^(i/3)%bz)=ae bz n (a%256^(i+1)):=by
 apply wR
 ·simp[ae]
 ·intro j h1 h2;simp only[ae,eY,yG]at h2;rw[GG];simp only[ae,Cp,Cq];by_cases hj:i/3=j
  ·rw[aw hj,hj]
  ·rw[ao hj];exact aM8 (mD hj)
section
variable{Bs:aa}{N a:Nat}{s:ByteArray}
def aVD(s:ByteArray)(N i:Nat):aW:=[(4,vI i),(0,.string s),(3,sl 0 N)]
def aVu(N a i:Nat):aH:=[(0,.row (ai (ae bz N (a%256^i))) 3 1)]
theorem aNa{i:Nat}(hN:N=(s.size+2)/3)(ha:a=kk s)(hi:i<s.size)(h63:s.size<35184372088832):
  ag prog Bs 38 (aF (af f93 0)) (aVD s N i) (aVu N a i) 1 ⟨.normal,aVD s N (i+1),aVu N a (i+1),1⟩:=by
 obtain⟨c,gj,di⟩:=Sf s hi;rw[<-ha]at di;have wX:i/3<N:=by omega
 have hb:=aM7 (a:=a) (i:=i);have h1:a%256^(i+1)/bz^(i/3)%bz<bz:=aMA;have h3:c.toNat*2^(8*(i%3))<=bz:=by rw[di];omega
 have bL:=wb (l:=ae bz N (a%256^i)) (i:=i/3) (d:=a%256^(i+1)/bz^(i/3)%bz) (by rw[oE];exact wX);rw[aM9 wX]at bL;have hg:(ae bz N (a%256^i))[i/3]?=some (a%256^i/bz^(i/3)%bz):=ek wX;have u4:IntKind.i64.wrap ((c.toNat:Int)*2^(min (8*(i%3)) IntKind.i64.bits))=((c.toNat*2^(8*(i%3)):Nat):Int):=by
  have e:(c.toNat:Int)*2^(8*(i%3))=((c.toNat*2^(8*(i%3)):Nat):Int):=by simp
  rw[show min (8*(i%3)) IntKind.i64.bits=8*(i%3)from nX (show 8*(i%3)<=64 by omega),c8,e];unfold bz at h3;omega
 rw[<-di]at hb;unfold aVu;generalize ai (ae bz N (a%256^(i+1)))=r1 at *;generalize od:ai (ae bz N (a%256^i))=r0 at *;have iS:=dO hg;rw[od]at iS;generalize a%256^i/bz^(i/3)%bz=x at *;generalize a%256^(i+1)/bz^(i/3)%bz=y at *;generalize hp:c.toNat*2^(8*(i%3))=p at *;exact aA [.rw 13 (.int .i64 (s.size:Int)) (vI s.size) rfl,.lt 14 i s.size true (aC hi),.rw 18 (.int .i64 (s.size:Int)) (vI s.size) rfl,.eX 19 s.size 1 (s.size-1) o_ o_,.eX 21 (s.size-1) i (s.size-1-i) o_ o_,.FN 24 i 3 (i/3) rfl o_,.ix f93 25 0 N (i/3) wX k_,.ld f93 26 3 0 (i/3) (.row r0 3 1) (vI x) rfl iS k_,.sx f93 29 s (s.size-1-i) c gj k_,.wr 30 .i64 (c.toNat:Int) (c.toNat:Int) (by rw[c8];have:=c.toNat_lt;omega),.FM 32 i 3 (i%3) rfl,.sB 33 8 (i%3) (8*(i%3)) rfl o_,.shl f93 34 .i64 (c.toNat:Int) (p:Int) (8*(i%3)) u4 k_,.sum 35 x p y hb.symm (by unfold bz at h1;omega),.ix f93 36 0 N (i/3) wX k_,.st f93 100036 3 0 (i/3) (.row r0 3 1) (vI y) (.row r1 3 1) rfl bL rfl k_,.sum 16 i 1 (i+1) rfl o_]
theorem aNb(hN:N=(s.size+2)/3)(ha:a=kk s)(h63:s.size<35184372088832):
  ag prog Bs 38 (.block 0 (af f93 0)) (aVD s N 0) (aVu N a 0) 1 ⟨.normal,[(3,sl 0 N)],aVu N a s.size,1⟩:=
 bT (id:=0) (cd (b:=aF (af f93 0)) (r:=⟨.exit 0,[(3,sl 0 N)],aVu N a s.size,1⟩) s.size (aVD s N) (aVu N a)
  (λi k _=>jN (l:=aVu N a i) (m:=aVu N a 0) rfl k) (λi hi=>aNa hN ha hi h63) (aA [.rw 13 (.int .i64 (s.size:Int)) (vI s.size) rfl,.lt 14 s.size s.size false s_]) n_)
end
theorem aNc{s:ByteArray}(h63:s.size<35184372088832):lM prog 93 [.p (.string s)] 3 1 ((s.size+2)/3) (ai (ae bz ((s.size+2)/3) (kk s))):=by
 have lo:=λBs=>aNb (Bs:=Bs) (N:=(s.size+2)/3) (a:=kk s) rfl rfl h63;have h0:ai (ae bz ((s.size+2)/3) (kk s%256^0))=List.replicate ((s.size+2)/3) (vI 0):=by
  rw[rL,tf,KY]
  congr 1
  unfold ae;rw[List.eq_replicate_iff];simp
 have h1:kk s%256^s.size=kk s:=dK (Zm s);unfold aVu at lo;rw[h0,h1]at lo;have fl:=gU (ae bz ((s.size+2)/3) (kk s));have hl:(ai (ae bz ((s.size+2)/3) (kk s))).length=(s.size+2)/3*1:=by rw[lN,oE];omega
 generalize ai (ae bz ((s.size+2)/3) (kk s))=r1 at *;exact zn (k:=0) mixed func93 k_ 100 (N:=38) k_ (λ_=>[.rw 7 (.int .i64 (s.size:Int)) (vI s.size) rfl,.sum 8 s.size 2 (s.size+2) rfl o_,.FN 9 (s.size+2) 3 ((s.size+2)/3) rfl o_,.pM f93 10 0 ((s.size+2)/3) 3 8 (vI 0) (List.replicate ((s.size+2)/3) (vI 0)) rfl rfl rfl o_ (by simp[maxLen];omega) k_,.code 0 _ _ _ _ _ (lo _)]) (λ_=>k_) fl hl
section
variable{P:Program}{B:aa}{N:Nat}
def aY.next(fn:Func)(key k z n s:Nat)(h0:0<n)(ho:rJ P (av fn key)=some (true,false,s)):aY P B N:=
 .step key (av fn key) [.slice (some ⟨k,z*s,some 7⟩) (n+1) z,vI 1] [] (.slice (some ⟨k,(z+1)*s,some 7⟩) n (z+1)) [] (by have:=GC (B:=B) ho (k:=k) (off:=z*s) (n:=n+1) (cc:=z) (l:=1) (h:=n+1) n_ (λ_=>rfl) o_ (bj _) (.inl o_);rw[<-fA,Nj]at this;simpa using this)
theorem aNd{o:Oper}{s:Nat}(ho:rJ P o=some (true,false,s)){k off n cc:Nat}{x:Obj}(hx:x.owns=true)(j:Nat):
  cB P B o [.slice (some ⟨k,off,some 7⟩) n cc,vI n] [(j,none),(k,some x)] (.slice (some ⟨j,0,some 7⟩) 0 0) [(j,.view []),(k,.dead)]:=by
 unfold rJ at ho;split at ho
 ·rename_i t y lo hi bP;split at ho
  ·rename_i e ht;split at ho
   ·rename_i i hJ;injection ho with ho;injection ho with h1 ho;injection ho with h2 h3;cases lo with
    |none=>cases h1
    |some yl=>
    cases hi with
    |some yh=>cases h2
    |none=>
    refine gW.step λι c ρ w aO hm hn=>?_;have hj:c j=none:=hn (j,none) s_;have hk:c k=some x:=hn (k,some x) s_;rw[bP]at aO;obtain⟨u,u2,hu,hc,di⟩:=jx aO;have dP:ρ y=u:=by simp[Op.operands]at hu;exact hu.1
    have fv:ρ yl=u2:=by simp[Op.operands]at hu;exact hu.2
    have di:=di.eU rfl;have Gt:=hm.kill k (by rw[hk];exact n_);have il:ba c k .dead j=none:=by unfold ba;rw[ao (λe=>by subst e;rw[hj]at hk;cases hk)];exact hj
    have K8:∀ y code,n<=y->(Instr.sliceBound (.int .i64 n) y code).run P w=.ok n w:=by intro y code hq;have:(0:Int)<=n/\(n:Int)<=y:=⟨by omega,by omega⟩;simp[Instr.sliceBound,asIntOf,this]
    rcases hc.gV rfl with ⟨hb,kf,pJ,yu,he⟩|⟨b,oo,cap,c',hb,lq,mC,he⟩
    ·refine⟨dF ι j .nil,.slice none 0 0,w,gC (hm.dr j hj),.slcN (fD _ _ _),Gt.add il (.inl ⟨rfl,rfl⟩) n_ n_ n_,.inl ?_⟩;subst kf;have kG:∀ code,(Instr.sliceBound (.int .i64 0) 0 code).run P w=.ok 0 w:=λcode=>by simp[Instr.sliceBound,asIntOf]
     simp only[execOp,bP];simp[Instr.sliceAt,iG ht,Instr.slice,dP,fv,di,he,vI,Instr.sliceBounds,kG,sizeOf,typeInfo,hJ]
    ·dsimp only at hb he;obtain⟨o1,xa⟩:∃ o1,o1=(if c'=n then oo+off else oo+off+n*i.size):=⟨_,rfl⟩;have fJ:=hm.own k x b oo cap hk hx hb;refine⟨dF ι j (.at b o1 (c'-n)),.slice (some ⟨b,o1+0,none⟩) 0 (c'-n),w,gC (hm.dr j hj),.slc (fD _ _ _) (kT _) (jY _),Gt.add il (.inr ⟨b,o1,c'-n,[],rfl,.nil,λj u h=>by simp at h⟩) n_ n_ (λb1 o2 lV _ e=>?_),.inl ?_⟩
     ·injection e with e1 e2 e3;subst e1;refine⟨fJ.1,λq y o' aT hq hy AD=>?_⟩;unfold ba at hq;by_cases wJ:q=k
      ·rw[aw wJ]at hq;injection hq with hq;subst hq;cases hy
      ·rw[ao wJ]at hq;exact wJ (hm.inj q k y x b o' aT oo cap hq hy hk hx AD hb)
     ·simp only[execOp,bP];by_cases iF:c'=n
      ·rw[aw iF]at xa;subst xa;subst iF;simp[Instr.sliceAt,iG ht,Instr.slice,dP,fv,di,he,vI,Instr.sliceBounds,K8 c' _ (bj _),sizeOf,typeInfo,hJ]
      ·rw[ao iF]at xa;subst xa;simp[Instr.sliceAt,iG ht,Instr.slice,dP,fv,di,he,vI,Instr.sliceBounds,K8 n _ (bj _),sizeOf,typeInfo,hJ,iF,Az]
   ·cases ho
  ·cases ho
 ·cases ho
def aY.aNe(fn:Func)(key k off n cc s j:Nat)(x:Obj)(hx:x.owns=true)(ho:rJ P (av fn key)=some (true,false,s)):aY P B N:=
 .step key (av fn key) [.slice (some ⟨k,off,some 7⟩) n cc,vI n] [(j,none),(k,some x)] (.slice (some ⟨j,0,some 7⟩) 0 0) [(j,.view []),(k,.dead)] (aNd ho hx j)
def aY.aNf(fn:Func)(key k off n cc:Nat)(l:List UInt8)(x:Obj)(hx:x.reads=true)(hc:(x.cells.drop off).take n=gF l)(hn:l.length=n)(ho:Nh P (av fn key)=true):aY P B N:=
 .step key (av fn key) [.slice (some ⟨k,off,some 7⟩) n cc] [(k,some x)] (.string (BA l)) [] (by
  unfold Nh at ho;split at ho
  ·rename_i src dst y bP;split at ho
   ·rename_i e hs hd;split at ho
    ·rename_i he;have:=X5 (P:=P) (B:=B) bP hs he hd (k:=k) (off:=off) (n:=n) (cc:=cc) (y:=x) (ns:=l.map λc=>(c.toNat:Int)) hx (by rw[hc];simp[gF,Function.comp_def]) (by simpa using hn)
     have e2:=ZJ l [];rw[jo]at e2;rw[show ByteArray.empty=BA []from rfl,e2]at this;exact this.step
    ·cases ho
   ·cases ho
  ·cases ho)
end
end Go.Proofs.YtjjefbkbljlgdaaGreatDoor
