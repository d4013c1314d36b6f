/- Two cuts in either order: the proof of CutOrderCardSaid (the law's function answers true at every set it can be given; theorem cutOrder_card, last part), part 3 of 7; no condition. -/
import Derived.Test.YtjjefbkbljlgdaaGreatDoorD2
namespace Go.Proofs.YtjjefbkbljlgdaaGreatDoor
open Go Go.RowKit Tryz
theorem aKr{B:aa}{o:Oper}{x:Operand}{k:Nat}(r:RV)(ho:dp o.op=some x):cA prog B o (.func (.func 105) #[] #[]::[r.v]) [(k,none)] (.func (.func 145) #[] #[.pointer (some ⟨k,0,some 7⟩)]) [(k,.aI r.cs 33)]:=
 aBi mixed func105 ho k_ 50 (λ_=>[]) (λ_=>k_) k_ k_
def tx(r:RV):aH:=[(0,.aI r.cs 33),(1,.aI [.bool false] 4),(2,.aI r.cs 33)]
def Fw:aV:=[(1,bX 0),(2,bX 1),(6,.func (.func 145) #[] #[bX 2])]
theorem aKs{B:aa}(r:RV):ah prog B 12 (KC f67 0) (jA 0 [r.v]) [] 0 ⟨.normal,[(1,bX 0),(2,bX 1)],[(0,.aI r.cs 33),(1,.aI [.bool false] 4)],2⟩:=
 fe mixed 10 [] k_
theorem aKt{B:aa}(r:RV):ah prog B 12 (KC f67 1) [(1,bX 0),(2,bX 1)] [(0,.aI r.cs 33),(1,.aI [.bool false] 4)] 2 ⟨.normal,Fw,tx r,3⟩:=
 fe mixed 10 [.step 6 (av f67 6) _ _ _ _ (aKr (k:=2) (x:=.func 105) r k_)] k_
theorem aKu(r:RV)(x:RN)(i:Int)(b:Bool)(hx:aD prog 69 [x.v] (.bool b)):
  On prog 3 12 #[7,8] (HW (vJ f67)) (HX (vJ f67)) Fw (tx r) [] (tx r) [.int .i64 i,x.v] (if b then none else some .ret):=by
 cases b
 ·exact Ow (rA:=⟨.normal,(4,bX 4)::Fw,(4,.aI x.cs 31)::tx r,5⟩) (rB:=⟨.ret,[],tx r,5⟩) k_ k_ k_ k_ k_ k_ k_ k_ rfl (λB=>fe mixed 10 [] k_) rfl k_ rfl
   (λB=>fe mixed 10 [hx.at 10] k_) (λk x h=>h) rfl
 ·exact Ow (rA:=⟨.normal,(4,bX 4)::Fw,(4,.aI x.cs 31)::tx r,5⟩) (rB:=⟨.normal,[],tx r,5⟩) k_ k_ k_ k_ k_ k_ k_ k_ rfl (λB=>fe mixed 10 [] k_) rfl k_ rfl
   (λB=>fe mixed 10 [hx.at 10] k_) (λk x h=>h) rfl
theorem aKv{B:aa}(r:RV):ah prog B 12 (.seq (KC f67 5) .ret) Fw (tx r) 3 ⟨.ret,[(2,bX 1)],[(1,.aI [.bool true] 4)],3⟩:=fe mixed 10 [] k_
theorem aKw{r:RV}{bx Bo bz:Bool}(hx:aD prog 69 [r.x.v] (.bool bx))(hy:aD prog 69 [r.y.v] (.bool Bo))(hz:aD prog 69 [r.z.v] (.bool bz)){T:Array Value}{m:Map}{S:Nat->Prop}(kt:Ov prog 3 12 Fw (tx r) m S T)
  {fk:FuncId} {l D:Nat} {W1 W:World} {κ:Map} {c:Nat->Option Obj} {eY:aj} (hm:aM (pB W1 l S m) κ c W) (ha:cS c ((3,.fact (fj l (jU fk T #[7,8] (HW (vJ f67)) (HX (vJ f67)) D)))::(tx r++[]))) (hu:eD c (3+1)) (gT:bI (aG κ) [bX 2] eY) :
  Calls prog 145 (.func (.yield l) #[] #[]::eY).toArray W λe W'=>∃ v tw c',e=.returned v/\Map.le κ tw/\aM (pB W1 l S m) tw c' W'/\
   cS c' ((3,.fact (fj l (Da (jU fk T #[7,8] (HW (vJ f67)) (HX (vJ f67)) D) (if bx&&Bo&&bz then none else some .ret))))::(tx r++[]))/\∀ k,k<3->c k=none->c' k=none:=by
 have st:=λ(x:RN) (i:Int) (b:Bool) (h:aD prog 69 [x.v] (.bool b))=>Oo (W1:=W1) (l:=l) (D:=D) (fk:=fk) (x:=.tmp 16) (o:=av f145 19) (aKu r x i b h) k_ kt.size kt.jA kt.low kt.set kt.born
 cases bx
 ·exact Fv mixed func145 rfl 100 (v:=.tuple #[]) (rs:=[.step 19 _ _ _ _ _ (st r.x 0 _ hx)]) hm ha hu gT k_
 ·cases Bo
  ·exact Fv mixed func145 rfl 100 (v:=.tuple #[]) (rs:=[.step 19 _ _ _ _ _ (st r.x 0 _ hx),.step 19 _ _ _ _ _ (st r.y 1 _ hy)]) hm ha hu gT k_
  ·cases bz
   ·exact Fv mixed func145 rfl 100 (v:=.tuple #[]) (rs:=[.step 19 _ _ _ _ _ (st r.x 0 _ hx),.step 19 _ _ _ _ _ (st r.y 1 _ hy),.step 19 _ _ _ _ _ (st r.z 2 _ hz)]) hm ha hu gT k_
   ·exact Fv mixed func145 rfl 100 (v:=.tuple #[]) (rs:=[.step 19 _ _ _ _ _ (st r.x 0 _ hx),.step 19 _ _ _ _ _ (st r.y 1 _ hy),.step 19 _ _ _ _ _ (st r.z 2 _ hz)]) hm ha hu gT k_
theorem Oz{r:RV}{bx Bo bz:Bool}(hx:aD prog 69 [r.x.v] (.bool bx))(hy:aD prog 69 [r.y.v] (.bool Bo))(hz:aD prog 69 [r.z.v] (.bool bz)):
  aD prog 67 [r.v] (.bool (bx&&Bo&&bz)):=by
 refine aBh (N:=12) func67 rfl rfl k_ λw a hf hm=>?_;refine lA (aKs r none _ _ a w _ hf hm n_ (λ_ _=>rfl) λuy cc0 a0 w0 aKx Ez kA oF CI Dd _=>?_);refine lA (lA (aKt r none _ _ a0 w0 _ Ez kA oF CI λbM gn a1 w1 jq fv cW eA dK ig _=>Jw ?_))
 refine aA6 (next:=3) (Os:=tx r) (Vs:=[]) (cq:=tx r) (gf:=145) (ca:=[bX 2]) (j:=if bx&&Bo&&bz then none else some .ret) fv cW eA dK (λk x h=>nH (p:=λp=>p.2.owns) k_ h) n_ k_ k_ k_ (λk=>Iff.rfl) (λk x h=>nH (p:=λp=>p.2.owns) k_ h) (λk x h=>Dc (nH (p:=oq 3) k_ h))
  (λfk l D W1 S kt κ c W eY hm ha hu gT=>aKw hx hy hz kt hm ha hu gT) λD bY w' HV hDw iG dx hJ fq=>?_
 by_cases hb:(bx&&Bo&&bz)=true
 ·rw[aw hb,hb];exact aKp (B:=aa.at w) (v:=.bool true) (λB=>aKv r) rfl k_ iG dx hJ fq rfl (λF h=>h) HV λau v' w' hc hG=>⟨by rw[hc.eR rfl],hG⟩
 ·rw[ao hb];refine Jx (aBg (B:=aa.at w) (fr:=Fw) (M:=tx r++[]) (v:=.bool false) k_ iG dx hJ rfl (λF h=>h) HV λau v' w' hc hG=>⟨?_,hG⟩);rw[hc.eR rfl];cases hc:bx&&Bo&&bz
  ·rfl
  ·exact absurd hc hb
inductive aP where
 |p (v:Value)
 |r (n:Nat) (xs:aj)
 |q (xs:aj)
 |f (g:FuncId) (xs:aj)
 |b (n:Nat) (xs:aj)
 |o (F:Fact)
 |s (n1:Nat) (iC:aj) (n2:Nat) (jg:aj) (F:Fact)
 |a (n1:Nat) (iC:aj) (n2:Nat) (jg:aj) (n3:Nat) (Fx:aj)
def OA(w:World)(v:Value)(xs:aj):Prop:=∃ b o,v=.pointer (some ⟨b,o,none⟩)/\b<w.heap.size/\∀(j:Nat) u,xs[j]?=some u->w.cell? ⟨b,o+j,none⟩=some u
def De(w:World)(v:Value)(F:Fact):Prop:=F.G v w/\v.cells=#[v]/\v.oneCell'=true
def aP.In(w:World):aP->Value->Prop
 |.p u,v=>v=u
 |.r n xs,v=>cK w v n xs
 |.q xs,v=>OA w v xs
 |.f g xs,v=>∃ u,v=.func (.func g) #[] #[u]/\OA w u xs
 |.b n xs,v=>∃ b o u,v=.pointer (some ⟨b,o,none⟩)/\b<w.heap.size/\w.cell? ⟨b,o,none⟩=some u/\cK w u n xs
 |.o F,v=>De w v F
 |.s n1 iC n2 jg F,v=>∃ u1 u2 u3,v=.agg #[u1,u2,u3]/\cK w u1 n1 iC/\cK w u2 n2 jg/\De w u3 F
 |.a n1 iC n2 jg n3 Fx,v=>∃ u1 u2 u3,v=.agg #[u1,u2,u3]/\cK w u1 n1 iC/\cK w u2 n2 jg/\cK w u3 n3 Fx
def aP.ok:aP->Bool
 |.p v=>flat v
 |.r _ xs=>xs.all flat
 |.q xs=>xs.all flat
 |.f _ xs=>xs.all flat
 |.b _ xs=>xs.all flat
 |.o F=>!F.rc
 |.s _ iC _ jg F=>iC.all flat&&(jg.all flat&&!F.rc)
 |.a _ iC _ jg _ Fx=>iC.all flat&&(jg.all flat&&Fx.all flat)
inductive r7(w:World):List aP->aj->Prop
 |nil:r7 w [] []
 |cons {a:aP} {v:Value} {l:List aP} {vs:aj}:a.In w v->r7 w l vs->r7 w (a::l) (v::vs)
def eL:Nat->List aP->aj
 |_,[]=>[]
 |k,.p v::l=>v::eL k l
 |k,.r n _::l=>.slice (some ⟨k,0,some 7⟩) n 0::eL (k+1) l
 |k,.q _::l=>.pointer (some ⟨k,0,some 7⟩)::eL (k+1) l
 |k,.f g _::l=>.func (.func g) #[] #[.pointer (some ⟨k,0,some 7⟩)]::eL (k+1) l
 |k,.b _ _::l=>.pointer (some ⟨k+1,0,some 7⟩)::eL (k+2) l
 |k,.o _::l=>.pointer (some ⟨k,0,some 9⟩)::eL (k+1) l
 |k,.s n1 _ n2 _ _::l=>.agg #[.slice (some ⟨k,0,some 7⟩) n1 0,.slice (some ⟨k+1,0,some 7⟩) n2 0,.pointer (some ⟨k+2,0,some 9⟩)]::eL (k+3) l
 |k,.a n1 _ n2 _ n3 _::l=>.agg #[.slice (some ⟨k,0,some 7⟩) n1 0,.slice (some ⟨k+1,0,some 7⟩) n2 0,.slice (some ⟨k+2,0,some 7⟩) n3 0]::eL (k+3) l
def jt:Nat->List aP->aH
 |_,[]=>[]
 |k,.p _::l=>jt k l
 |k,.r _ xs::l=>(k,.view xs)::jt (k+1) l
 |k,.q xs::l=>(k,.view xs)::jt (k+1) l
 |k,.f _ xs::l=>(k,.view xs)::jt (k+1) l
 |k,.b n xs::l=>(k,.view xs)::(k+1,.view [.slice (some ⟨k,0,some 7⟩) n 0])::jt (k+2) l
 |k,.o F::l=>(k,.fact F)::jt (k+1) l
 |k,.s _ iC _ jg F::l=>(k,.view iC)::(k+1,.view jg)::(k+2,.fact F)::jt (k+3) l
 |k,.a _ iC _ jg _ Fx::l=>(k,.view iC)::(k+1,.view jg)::(k+2,.view Fx)::jt (k+3) l
def jG:Nat->List aP->Nat
 |k,[]=>k
 |k,.p _::l=>jG k l
 |k,.r _ _::l=>jG (k+1) l
 |k,.q _::l=>jG (k+1) l
 |k,.f _ _::l=>jG (k+1) l
 |k,.b _ _::l=>jG (k+2) l
 |k,.o _::l=>jG (k+1) l
 |k,.s _ _ _ _ _::l=>jG (k+3) l
 |k,.a _ _ _ _ _ _::l=>jG (k+3) l
theorem aBj{B:aa}{ι:Map}{c:Nat->Option Obj}{w:World}(hm:aM B ι c w){k:Nat}{v:Value}{xs:aj}(hk:c k=none)(h:OA w v xs)(cN:∀ u∈xs,flat u=true)(gF:∀ j x,c j=some x->x.owns=false):
  ∃ au,Map.le ι au/\aM B au (aY c k (.view xs)) w/\aG au (.pointer (some ⟨k,0,some 7⟩)) v:=by
 obtain⟨b,o,rfl,h2,h3⟩:=h;refine⟨dB ι k (.at b o 0),gC (hm.dr k hk),hm.add hk (.inr ⟨b,o,0,xs,rfl,kg cN,h3⟩) n_ n_ (λb1 o1 lS _ e=>?_),?_⟩
 ·injection e with e1 e2 e3;subst e1;exact⟨h2,λj y o' aO hj hy=>by rw[gF j y hj]at hy;cases hy⟩
 ·have:=aG.ptr (off:=0) (fE ι k (.at b o 0));rwa[jn]at this
def zf(B:aa)(w:World)(k:Nat)(ι:Map)(c:Nat->Option Obj)(L:aH)(n:Nat)(au:Map)(c':Nat->Option Obj):Prop:=
 Map.le ι au/\aM B au c' w/\(∀ j x,c' j=some x->x.owns=false)/\eD c' n/\cS c' L/\(∀ j,j<k->c' j=c j)/\k<=n/\(∀ j x,ag L j=some x->k<=j/\j<n)
theorem aKy{B:aa}{w:World}{k:Nat}{ι:Map}{c:Nat->Option Obj}(hm:aM B ι c w)(ho:∀ j x,c j=some x->x.owns=false)(hu:eD c k):zf B w k ι c [] k ι c:=
 ⟨Map.le.refl _,hm,ho,hu,λj x h=>(by cases h),λ_ _=>rfl,bh _,λj x h=>(by cases h)⟩
theorem KD{B:aa}{w:World}{k:Nat}{ι bM:Map}{c:Nat->Option Obj}{x:Obj}(ho:∀ j x,c j=some x->x.owns=false)(hu:eD c k)(hle:Map.le ι bM)(hm:aM B bM (aY c k x) w)(hx:x.owns=false):zf B w k ι c [(k,x)] (k+1) bM (aY c k x):=by
 refine⟨hle,hm,λj y hj=>?_,λj hj=>?_,λj y hj=>?_,λj hj=>?_,yq _,λj y hj=>?_⟩
 ·unfold aY at hj;by_cases bL:j=k
  ·rw[aw bL]at hj;injection hj with hj;subst hj;exact hx
  ·rw[ao bL]at hj;exact ho j y hj
 ·unfold aY;rw[ao o_];exact hu j o_
 ·unfold ag at hj;split at hj
  ·rename_i hb;injection hj with hj;subst hj;unfold aY;rw[aw (j0 hb).symm]
  ·cases hj
 ·unfold aY;rw[ao o_]
 ·unfold ag at hj;split at hj
  ·rename_i hb;have:=j0 hb;omega
  ·cases hj
theorem zf.trans{B:aa}{w:World}{k n m:Nat}{ι bM dC:Map}{c c1 c2:Nat->Option Obj}{L L2:aH}(h:zf B w k ι c L n bM c1)(h2:zf B w n bM c1 L2 m dC c2):zf B w k ι c (L++L2) m dC c2:=by
 obtain⟨a1,a2,a3,a4,a5,a6,a7,a8⟩:=h;obtain⟨b1,b2,b3,b4,b5,b6,b7,b8⟩:=h2;refine⟨a1.trans b1,b2,b3,b4,λj x hj=>?_,λj hj=>by rw[b6 j o_,a6 j hj],by omega,λj x hj=>?_⟩
 ·rw[gM]at hj;cases e:ag L j with
  |some y=>
   rw[e]at hj;injection hj with hj;subst hj;rw[b6 j (a8 j _ e).2];exact a5 j _ e
  |none=>rw[e]at hj;exact b5 j x hj
 ·rw[gM]at hj;cases e:ag L j with
  |some y=>rw[e]at hj;injection hj with hj;subst hj;have:=a8 j _ e;omega
  |none=>rw[e]at hj;have:=b8 j x hj;omega
theorem Fy{B:aa}{w:World}{k n:Nat}{ι:Map}{c:Nat->Option Obj}{u:Value}{xs:aj}(hm:aM B ι c w)(ho:∀ j x,c j=some x->x.owns=false)(hu:eD c k)(h:cK w u n xs)(cN:xs.all flat=true):
  ∃ au c',zf B w k ι c [(k,.view xs)] (k+1) au c'/\aG au (.slice (some ⟨k,0,some 7⟩) n 0) u:=by
 obtain⟨bM,q1,q2,q3⟩:=yy hm (hu k (bh _)) h (bf.1 cN) λb o c' _ j y o' aO hj hy=>by rw[ho j y hj]at hy;cases hy
 exact⟨bM,_,KD ho hu q1 q2 rfl,q3⟩
theorem aBk{B:aa}{w:World}{k:Nat}{ι:Map}{c:Nat->Option Obj}{u:Value}{F:Fact}(hm:aM B ι c w)(ho:∀ j x,c j=some x->x.owns=false)(hu:eD c k)(h:De w u F)(wC:F.rc=false):
  ∃ au c',zf B w k ι c [(k,.fact F)] (k+1) au c'/\aG au (.pointer (some ⟨k,0,some 9⟩)) u:=by
 refine⟨dB ι k (.val u),aY c k (.fact F),KD ho hu (gC (hm.dr k (hu k (bh _)))) (hm.add (hu k (bh _)) ⟨u,rfl,h.1⟩ n_ (λF' v b e1 e2 hF j y o' aO hj hy=>by rw[ho j y hj]at hy;cases hy) n_ λF' e hr=>?_) rfl,.opq (fE _ _ _) h.2.1 h.2.2⟩;injection e with e;subst e;rw[wC]at hr;cases hr
theorem vK{B:aa}{w:World}:∀{l:List aP} {vs:aj},r7 w l vs->(∀ a∈l,aP.ok a=true)->∀(k:Nat) (ι:Map) (c:Nat->Option Obj),aM B ι c w->(∀ j x,c j=some x->x.owns=false)->eD c k->
  ∃ au c',Map.le ι au/\aM B au c' w/\eD c' (jG k l)/\cS c' (jt k l)/\(∀ j,j<k->c' j=c j)/\bI (aG au) (eL k l) vs/\k<=jG k l
 |_,_,.nil,_,k,ι,c,hm,ho,hu=>⟨ι,c,Map.le.refl _,hm,hu,λk x h=>(by cases h),λ_ _=>rfl,.nil,bh _⟩
 |_,_,.cons (a:=a) (v:=v) (l:=l) (vs:=vs) h hs,ay,k,ι,c,hm,ho,hu=>by
  have Bp:∀ a∈l,aP.ok a=true:=λa ha=>ay a (bB _ ha);have tz:=ay a (aT ..);have go:∀(L:aH) (n:Nat) (u:Value) (bM:Map) (c1:Nat->Option Obj),zf B w k ι c L n bM c1->aG bM u v->
    ∃ au c',Map.le ι au/\aM B au c' w/\eD c' (jG n l)/\cS c' (L++jt n l)/\(∀ j,j<k->c' j=c j)/\bI (aG au) (u::eL n l) (v::vs)/\k<=jG n l:=by
   intro L n u bM c1 ⟨q1,q2,q3,q4,q5,q6,q7,q8⟩ q9;obtain⟨au,c',h1,h2,h3,h4,h5,h6,h7⟩:=vK hs Bp n bM c1 q2 q3 q4;refine⟨au,c',q1.trans h1,h2,h3,λj x hj=>?_,λj hj=>by rw[h5 j o_,q6 j hj],.cons (q9.mono h1) h6,by omega⟩;rw[gM]at hj;cases e:ag L j with
   |some y=>
    rw[e]at hj;injection hj with hj;subst hj;rw[h5 j (q8 j _ e).2];exact q5 j _ e
   |none=>rw[e]at hj;exact h4 j x hj
  cases a with
  |p u=>
   cases h;exact go [] k _ ι c (aKy hm ho hu) (.same tz)
  |r n xs=>
   obtain⟨bM,c1,q1,q2⟩:=Fy hm ho hu h tz;exact go _ _ _ bM c1 q1 q2
  |q xs=>
   obtain⟨bM,q1,q2,q3⟩:=aBj hm (hu k (bh _)) h (bf.1 tz) ho;exact go _ _ _ bM _ (KD ho hu q1 q2 rfl) q3
  |f g xs=>
   obtain⟨u,rfl,jM⟩:=h;obtain⟨bM,q1,q2,q3⟩:=aBj hm (hu k (bh _)) jM (bf.1 tz) ho;exact go _ _ _ bM _ (KD ho hu q1 q2 rfl) (.fn .nil (.cons q3 .nil))
  |b n xs=>
   obtain⟨b,o,u,rfl,hb,lV,jm⟩:=h;obtain⟨bM,c1,q1,q2⟩:=Fy hm ho hu jm tz;obtain⟨a1,a2,a3,a4,a5,a6,a7,a8⟩:=q1;have dx:aM B (dB bM (k+1) (.at b o 0)) (aY c1 (k+1) (.view [.slice (some ⟨k,0,some 7⟩) n 0])) w:=by
    refine a2.add (a4 _ (bh _)) (.inr ⟨b,o,0,[u],rfl,.cons (q2.mono (gC (a2.dr _ (a4 _ (bh _))))) .nil,λj x hj=>?_⟩) n_ n_ (λb1 o1 lS _ e1=>?_)
    ·cases j with
     |zero=>simp at hj;subst hj;exact lV
     |succ j=>simp at hj
    ·injection e1 with e1 e2 e3;subst e1;exact⟨hb,λj y o' aO hj hy=>by rw[a3 j y hj]at hy;cases hy⟩
   have h2:=KD a3 a4 (gC (a2.dr _ (a4 _ (bh _)))) dx rfl;have:=aG.ptr (off:=0) (fE bM (k+1) (.at b o 0));rw[jn]at this;exact go _ _ _ _ _ (zf.trans ⟨a1,a2,a3,a4,a5,a6,a7,a8⟩ h2) this
  |o F=>
   obtain⟨bM,c1,q1,q2⟩:=aBk hm ho hu h (by simpa[aP.ok]using tz);exact go _ _ _ bM c1 q1 q2
  |s n1 iC n2 jg F=>
   simp only[aP.ok,db,AD]at tz;obtain⟨u1,u2,u3,rfl,r1,r2,r3⟩:=h;obtain⟨bM,c1,q1,p1⟩:=Fy hm ho hu r1 tz.1;obtain⟨dC,c2,q2,p2⟩:=Fy q1.2.1 q1.2.2.1 q1.2.2.2.1 r2 tz.2.1;obtain⟨Uf,c3,q3,p3⟩:=aBk q2.2.1 q2.2.2.1 q2.2.2.2.1 r3 tz.2.2;exact go _ _ _ Uf c3 (q1.trans (q2.trans q3)) (.agg (.cons (p1.mono (q2.1.trans q3.1)) (.cons (p2.mono q3.1) (.cons p3 .nil))))
  |a n1 iC n2 jg n3 Fx=>
   simp only[aP.ok,db]at tz;obtain⟨u1,u2,u3,rfl,r1,r2,r3⟩:=h;obtain⟨bM,c1,q1,p1⟩:=Fy hm ho hu r1 tz.1;obtain⟨dC,c2,q2,p2⟩:=Fy q1.2.1 q1.2.2.1 q1.2.2.2.1 r2 tz.2.1;obtain⟨Uf,c3,q3,p3⟩:=Fy q2.2.1 q2.2.2.1 q2.2.2.2.1 r3 tz.2.2;exact go _ _ _ Uf c3 (q1.trans (q2.trans q3)) (.agg (.cons (p1.mono (q2.1.trans q3.1)) (.cons (p2.mono q3.1) (.cons p3 .nil))))
def cD(P:Program)(f:FuncId)(l:List aP)(res:Value):Prop:=
 ∀ w vs,r7 w l vs->Calls P f vs.toArray w λe w'=>e=.returned res/\Below w.heap.size w w'
def lL(P:Program)(f:FuncId)(l:List aP)(ty:TypeId)(size n:Nat)(xs:aj):Prop:=
 ∀ w vs,r7 w l vs->Calls P f vs.toArray w λe w'=>∃ v,e=.returned v/\w'.ownsRow w.heap.size ty size v n xs/\Below w.heap.size w w'
section
variable{P:Program}{B:aa}{N:Nat}
theorem fJ{f:FuncId}{fn:Func}{l:List aP}{v:Value}(gv:P.follows .mixedOrders=true)(hf:P.funcs[f]?=some fn)(hl:(l.all aP.ok)=true)(n:Nat){N:Nat}(hN:N=(eL 0 l).length+(fn.ntmps-(eL 0 l).length))
  (rs:∀ w,bE P (aa.at w) N) (h:∀ w,nt (fQ (P:=P) fn n (eL 0 l) (jt 0 l) (jG 0 l) (rs w)) []=nu (fQ fn n (eL 0 l) (jt 0 l) (jG 0 l) (rs w)) v []) (hv:flat v=true):cD P f l v:=by
 intro w vs ct;obtain⟨ι,c,h1,h2,h3,h4,h5,h6,h7⟩:=vK ct (bf.1 hl) 0 _ _ (qB w) n_ (λ_ _=>rfl);exact rJ gv hf hN n (h w) h6 h2 h4 h3 λau bY v' w' hle hc hm _=>⟨by rw[hc.eR hv],hm.base⟩
theorem zg{f:FuncId}{fn:Func}{l:List aP}{ty:TypeId}{size m:Nat}{xs:aj}{k:Nat}(gv:P.follows .mixedOrders=true)(hf:P.funcs[f]?=some fn)(hl:(l.all aP.ok)=true)(n:Nat){N:Nat}(hN:N=(eL 0 l).length+(fn.ntmps-(eL 0 l).length))
  (rs:∀ w,bE P (aa.at w) N) (h:∀ w,nt (fQ (P:=P) fn n (eL 0 l) (jt 0 l) (jG 0 l) (rs w)) [(k,.row xs ty size)]=nu (fQ fn n (eL 0 l) (jt 0 l) (jG 0 l) (rs w)) (.slice (some ⟨k,0,some 7⟩) m 0) [(k,.row xs ty size)])
  (hx:(xs.all flat)=true) (hlen:xs.length=m*size):lL P f l ty size m xs:=by
 intro w vs ct;obtain⟨ι,c,h1,h2,h3,h4,h5,h6,h7⟩:=vK ct (bf.1 hl) 0 _ _ (qB w) n_ (λ_ _=>rfl);refine rJ gv hf hN n (h w) h6 h2 h4 h3 λau bY v' w' hle hc hm dz=>⟨v',rfl,?_,hm.base⟩;have:=vo hm (dz (k,_) (aT ..)) hc o_ (bf.1 hx);rwa[<-hlen,nI]at this
inductive fm(B:aa):List aP->aj->List (Nat×Option Obj)->Prop
 |nil:fm B [] [] []
 |p {v:Value} {l:List aP} {vs:aj} {nd:List (Nat×Option Obj)}:flat v=true->fm B l vs nd->fm B (.p v::l) (v::vs) nd
 |w {k n cc:Nat} {x:Obj} {l:List aP} {vs:aj} {nd:List (Nat×Option Obj)}:x.reads=true->(x.cells.all flat)=true->(n=0->x.cells=[])->fm B l vs nd->fm B (.r n x.cells::l) (.slice (some ⟨k,0,some 7⟩) n cc::vs) ((k,some x)::nd)
 |r {k off n cc len:Nat} {x:Obj} {l:List aP} {vs:aj} {nd:List (Nat×Option Obj)}:x.reads=true->(x.cells.all flat)=true->(n=0->len=0)->fm B l vs nd->fm B (.r n ((x.cells.drop off).take len)::l) (.slice (some ⟨k,off,some 7⟩) n cc::vs) ((k,some x)::nd)
 |q {k:Nat} {x:Obj} {l:List aP} {vs:aj} {nd:List (Nat×Option Obj)}:x.reads=true->(x.cells.all flat)=true->fm B l vs nd->fm B (.q x.cells::l) (.pointer (some ⟨k,0,some 7⟩)::vs) ((k,some x)::nd)
 |f {g:FuncId} {k:Nat} {x:Obj} {l:List aP} {vs:aj} {nd:List (Nat×Option Obj)}:x.reads=true->(x.cells.all flat)=true->fm B l vs nd->fm B (.f g x.cells::l) (.func (.func g) #[] #[.pointer (some ⟨k,0,some 7⟩)]::vs) ((k,some x)::nd)
 |b {k m n cc:Nat} {x y:Obj} {l:List aP} {vs:aj} {nd:List (Nat×Option Obj)}:y.reads=true->y.cells=[.slice (some ⟨k,0,some 7⟩) n cc]->x.reads=true->(x.cells.all flat)=true->(n=0->x.cells=[])->fm B l vs nd->fm B (.b n x.cells::l) (.pointer (some ⟨m,0,some 7⟩)::vs) ((m,some y)::(k,some x)::nd)
 |o {k:Nat} {F:Fact} {l:List aP} {vs:aj} {nd:List (Nat×Option Obj)}:fm B l vs nd->fm B (.o F::l) (.pointer (some ⟨k,0,some 9⟩)::vs) ((k,some (.fact F))::nd)
 |e {v:Value} {n:Nat} {xs:aj} {l:List aP} {vs:aj} {nd:List (Nat×Option Obj)}:flat v=true->(∀ w,B.G w->cK w v n xs)->fm B l vs nd->fm B (.r n xs::l) (v::vs) nd
 |s {k1 n1 c1 k2 n2 c2 k3:Nat} {x1 x2:Obj} {F:Fact} {l:List aP} {vs:aj} {nd:List (Nat×Option Obj)}:x1.reads=true->(x1.cells.all flat)=true->(n1=0->x1.cells=[])->x2.reads=true->(x2.cells.all flat)=true->(n2=0->x2.cells=[])->fm B l vs nd->
   fm B (.s n1 x1.cells n2 x2.cells F::l) (.agg #[.slice (some ⟨k1,0,some 7⟩) n1 c1,.slice (some ⟨k2,0,some 7⟩) n2 c2,.pointer (some ⟨k3,0,some 9⟩)]::vs) ((k1,some x1)::(k2,some x2)::(k3,some (.fact F))::nd)
 |oi {k:Nat} {F F':Fact} {l:List aP} {vs:aj} {nd:List (Nat×Option Obj)}:(∀ v w,F'.G v w->F.G v w)->fm B l vs nd->fm B (.o F::l) (.pointer (some ⟨k,0,some 9⟩)::vs) ((k,some (.fact F'))::nd)
 |si {k1 n1 c1 k2 n2 c2 k3:Nat} {x1 x2:Obj} {F F':Fact} {l:List aP} {vs:aj} {nd:List (Nat×Option Obj)}:(∀ v w,F'.G v w->F.G v w)->x1.reads=true->(x1.cells.all flat)=true->(n1=0->x1.cells=[])->x2.reads=true->(x2.cells.all flat)=true->(n2=0->x2.cells=[])->fm B l vs nd->
   fm B (.s n1 x1.cells n2 x2.cells F::l) (.agg #[.slice (some ⟨k1,0,some 7⟩) n1 c1,.slice (some ⟨k2,0,some 7⟩) n2 c2,.pointer (some ⟨k3,0,some 9⟩)]::vs) ((k1,some x1)::(k2,some x2)::(k3,some (.fact F'))::nd)
theorem Bq{ι:Map}{c:Nat->Option Obj}{w:World}(hm:aM B ι c w){k:Nat}{F:Fact}{v:Value}(hk:c k=some (.fact F))(hc:aG ι (.pointer (some ⟨k,0,some 9⟩)) v):De w v F:=by
 obtain⟨l,h1,u,h2,h3⟩:=hm.born k _ hk;subst h2;generalize hp:Value.pointer (some ⟨k,0,some 9⟩)=p at hc;cases hc with
 |same h=>subst hp;cases h
 |ptr h=>injection hp with hp;injection hp with hp;injection hp with _ _ hp;cases hp
 |slc h=>cases hp
 |slcN h=>cases hp
 |opq h4 h5 h6=>
  injection hp with hp;injection hp with hp;injection hp with gZ;subst gZ;rw[h1]at h4;injection h4 with h4;injection h4 with h4;subst h4;exact⟨h3,h5,h6⟩
 |fn=>cases hp
 |agg=>cases hp
 |tup=>cases hp
theorem aBl{ι:Map}{c:Nat->Option Obj}{w:World}(hm:aM B ι c w){k:Nat}{x:Obj}{v:Value}(hk:c k=some x)(hx:x.reads=true)(cN:∀ u∈x.cells,flat u=true)(hc:aG ι (.pointer (some ⟨k,0,some 7⟩)) v):OA w v x.cells:=by
 obtain⟨b,o,cap,hb,rfl⟩:=hc.yg rfl;obtain⟨l,h1,h2⟩:=hm.born k x hk;dsimp only at hb;rw[hb]at h1;injection h1 with h1;subst h1;obtain⟨bt,fX,lV⟩:=h2.at hx;have fX:=nj fX cN;subst fX;refine⟨b,o,by simp,?_,λj u hj=>lV j u hj⟩;by_cases ho:x.owns=true
 ·exact(hm.own k x b o cap hk ho hb).1
 ·have hv:x.gj=true:=by unfold Obj.reads at hx;rw[um]at hx;exact hx.resolve_left ho
  exact(hm.seen k x b o cap hk hv hb).1
theorem Br{l:List aP}{vs:aj}{nd:List (Nat×Option Obj)}(h:fm B l vs nd){ι:Map}{c:Nat->Option Obj}{w:World}(hm:aM B ι c w):∀{args:aj},(∀ p∈nd,c p.1=p.2)->bI (aG ι) vs args->r7 w l args:=by
 induction h with
 |nil=>intro args _ h;cases h;exact .nil
 |p hv _ ih=>
  intro args hn h;cases h with
  |cons h1 h2=>exact .cons (h1.eR hv) (ih hn h2)
 |@w k n cc x l vs nd hx cN hlen _ ih=>
  intro args hn h;cases h with
  |cons h1 h2=>
   refine .cons ?_ (ih (λp hp=>hn p (bB _ hp)) h2);have:=oH (len:=x.cells.length) hm (hn (k,some x) (aT ..)) hx (bf.1 cN) (λh=>by rw[hlen h];rfl) h1;rw[l5,nI]at this;exact this
 |@r k off n cc len x l vs nd hx cN hlen _ ih=>
  intro args hn h;cases h with
  |cons h1 h2=>
   refine .cons ?_ (ih (λp hp=>hn p (bB _ hp)) h2);exact oH (len:=len) hm (hn (k,some x) (aT ..)) hx (bf.1 cN) hlen h1
 |@q k x l vs nd hx cN _ ih=>
  intro args hn h;cases h with
  |cons h1 h2=>exact .cons (aBl hm (hn (k,some x) (aT ..)) hx (bf.1 cN) h1) (ih (λp hp=>hn p (bB _ hp)) h2)
 |@f g k x l vs nd hx cN _ ih=>
  intro args hn h;cases h with
  |cons h1 h2=>
   refine .cons ?_ (ih (λp hp=>hn p (bB _ hp)) h2);obtain⟨kf,eY,rfl,q1,q2⟩:=h1.B6;have ef:kf=#[]:=by
    cases j7:kf.toList with
    |nil=>exact HU.1 j7
    |cons _ _=>rw[j7]at q1;cases q1
   subst ef;have q2:bI (aG ι) [.pointer (some ⟨k,0,some 7⟩)] eY.toList:=q2;cases gT:eY.toList with
   |nil=>rw[gT]at q2;cases q2
   |cons u t=>
    rw[gT]at q2;cases q2 with
    |cons q3 q4=>
     cases q4;refine⟨u,?_,aBl hm (hn (k,some x) (aT ..)) hx (bf.1 cN) q3⟩
     congr 1
     apply GG;rw[gT]
 |@b k m n cc x y l vs nd hy hyc hx cN hlen _ ih=>
  intro args hn h;cases h with
  |@cons _ u _ _ h1 h2=>
   refine .cons ?_ (ih (λp hp=>hn p (bB _ (bB _ hp))) h2);obtain⟨b,o,cap,hb,rfl⟩:=h1.yg rfl;have hk:=hn (m,some y) (aT ..);obtain⟨lc,g1,g2⟩:=hm.born m y hk;dsimp only at hb;rw[hb]at g1;injection g1 with g1;subst g1;obtain⟨bt,fX,lV⟩:=g2.at hy;rw[hyc]at fX;obtain⟨u,rfl,hu⟩:=lT fX;have jm:=oH (len:=x.cells.length) hm (hn (k,some x) (bB _ (aT ..))) hx (bf.1 cN) (λh=>by rw[hlen h];rfl) hu;rw[l5,nI]at jm;refine⟨b,o,u,by simp,?_,?_,jm⟩
   ·by_cases ho:y.owns=true
    ·exact(hm.own m y b o cap hk ho hb).1
    ·have hv:y.gj=true:=by unfold Obj.reads at hy;rw[um]at hy;exact hy.resolve_left ho
     exact(hm.seen m y b o cap hk hv hb).1
   ·have:=lV 0 u rfl;simpa using this
 |@o k F l vs nd _ ih=>
  intro args hn h;cases h with
  |cons h1 h2=>exact .cons (Bq hm (hn (k,_) (aT ..)) h1) (ih (λp hp=>hn p (bB _ hp)) h2)
 |@e v n xs l vs nd hv hB _ ih=>
  intro args hn h;cases h with
  |cons h1 h2=>
   refine .cons ?_ (ih hn h2);rw[h1.eR hv];exact hB w hm.base
 |@s k1 n1 c1 k2 n2 c2 k3 x1 x2 F l vs nd r1 f1 l1 r2 f2 l2 _ ih=>
  intro args hn h;cases h with
  |cons h1 h2=>
   refine .cons ?_ (ih (λp hp=>hn p (bB _ (bB _ (bB _ hp)))) h2);obtain⟨us,rfl,Fz⟩:=h1.Jf;obtain⟨u1,u2,u3,hu,q1,q2,q3⟩:=Jl Fz;have p1:=oH (len:=x1.cells.length) hm (hn (k1,some x1) (aT ..)) r1 (bf.1 f1) (λh=>by rw[l1 h];rfl) q1;have p2:=oH (len:=x2.cells.length) hm (hn (k2,some x2) (bB _ (aT ..))) r2 (bf.1 f2) (λh=>by rw[l2 h];rfl) q2;rw[l5,nI]at p1 p2;refine⟨u1,u2,u3,?_,p1,p2,Bq hm (hn (k3,_) (bB _ (bB _ (aT ..)))) q3⟩
   congr 1
   rw[<-zi (xs:=us),hu]
 |@oi k F F' l vs nd himp _ ih=>
  intro args hn h;cases h with
  |cons h1 h2=>
   have h3:=Bq hm (hn (k,_) (aT ..)) h1;exact .cons ⟨himp _ _ h3.1,h3.2⟩ (ih (λp hp=>hn p (bB _ hp)) h2)
 |@si k1 n1 c1 k2 n2 c2 k3 x1 x2 F F' l vs nd himp r1 f1 l1 r2 f2 l2 _ ih=>
  intro args hn h;cases h with
  |cons h1 h2=>
   refine .cons ?_ (ih (λp hp=>hn p (bB _ (bB _ (bB _ hp)))) h2);obtain⟨us,rfl,Fz⟩:=h1.Jf;obtain⟨u1,u2,u3,hu,q1,q2,q3⟩:=Jl Fz;have p1:=oH (len:=x1.cells.length) hm (hn (k1,some x1) (aT ..)) r1 (bf.1 f1) (λh=>by rw[l1 h];rfl) q1;have p2:=oH (len:=x2.cells.length) hm (hn (k2,some x2) (bB _ (aT ..))) r2 (bf.1 f2) (λh=>by rw[l2 h];rfl) q2;rw[l5,nI]at p1 p2;have h3:=Bq hm (hn (k3,_) (bB _ (bB _ (aT ..)))) q3;refine⟨u1,u2,u3,?_,p1,p2,⟨himp _ _ h3.1,h3.2⟩⟩
   congr 1
   rw[<-zi (xs:=us),hu]
theorem dE{f:FuncId}{l:List aP}{res:Value}{vs:aj}{nd:List (Nat×Option Obj)}{o:Oper}{x:Operand}(h:cD P f l res)(hs:fm B l vs nd)(ho:dp o.op=some x)(eG:gk P f=true)(AE:flat res=true):
  cA P B o (.func (.func f) #[] #[]::vs) nd res []:=by
 have:=jB (P:=P) (B:=B) (o:=o) (x:=x) (f:=f) (fi:=[]) (args:=vs) (ca:=[]) (need:=nd) (val:=res) (cR:=[]) ho eG ?_
 ·simpa using this
 ·intro ι c w hm hn args' ha;rw[jo,iY]at ha;refine(h w args' (Br hs hm hn ha)).mono ?_
  rintro e w' ⟨rfl,hb⟩
  exact⟨ι,res,rfl,Map.le.refl _,.same AE,hm.call hb⟩
theorem aKz{f:FuncId}{l:List aP}{res:Value}{vs ca:aj}{nd:List (Nat×Option Obj)}{o:Oper}{x:Operand}(h:cD P f l res)(hs:fm B l (vs++ca) nd)(ho:dp o.op=some x)(eG:gk P f=true)(AE:flat res=true):
  cA P B o (.func (.func f) #[] ca.toArray::vs) nd res []:=by
 have:=jB (P:=P) (B:=B) (o:=o) (x:=x) (f:=f) (fi:=[]) (args:=vs) (ca:=ca) (need:=nd) (val:=res) (cR:=[]) ho eG ?_
 ·simpa using this
 ·intro ι c w hm hn args' ha;rw[jo]at ha;refine(h w args' (Br hs hm hn ha)).mono ?_
  rintro e w' ⟨rfl,hb⟩
  exact⟨ι,res,rfl,Map.le.refl _,.same AE,hm.call hb⟩
theorem qL{f:FuncId}{l:List aP}{ty:TypeId}{size n:Nat}{xs:aj}{vs:aj}{nd:List (Nat×Option Obj)}{o:Oper}{x:Operand}(h:lL P f l ty size n xs)(hs:fm B l vs nd)(ho:dp o.op=some x)(eG:gk P f=true)(hx:(xs.all flat)=true)(k:Nat):
  cA P B o (.func (.func f) #[] #[]::vs) ((k,none)::nd) (.slice (some ⟨k,0,some 7⟩) n 0) [(k,.row xs ty size)]:=by
 have:=jB (P:=P) (B:=B) (o:=o) (x:=x) (f:=f) (fi:=[]) (args:=vs) (ca:=[]) (need:=(k,none)::nd) (val:=.slice (some ⟨k,0,some 7⟩) n 0) (cR:=[(k,.row xs ty size)]) ho eG ?_
 ·simpa using this
 ·intro ι c w hm hn args' ha;rw[jo,iY]at ha;refine(h w args' (Br hs hm (λp hp=>hn p (bB _ hp)) ha)).mono ?_
  rintro e w' ⟨v,rfl,h1,h2⟩
  obtain⟨au,q1,q2,q3⟩:=EG hm h2 (k:=k) (hn (k,none) (aT ..)) h1 (bf.1 hx);exact⟨au,v,rfl,q1,q3,q2⟩
end
section
open CR OF
@[ext] structure V3 (α:Type) where
 x:α
 y:α
 z:α
namespace V3
section
variable{α:Type}
instance[Add α]:Add (V3 α):=⟨λu v=>⟨u.x+v.x,u.y+v.y,u.z+v.z⟩⟩
instance[Sub α]:Sub (V3 α):=⟨λu v=>⟨u.x-v.x,u.y-v.y,u.z-v.z⟩⟩
instance[Neg α]:Neg (V3 α):=⟨λu=>⟨-u.x,-u.y,-u.z⟩⟩
instance[Zero α]:Zero (V3 α):=⟨⟨0,0,0⟩⟩
def smul[Mul α](v:V3 α)(k:α):V3 α:=⟨v.x*k,v.y*k,v.z*k⟩
def dot[Add α][Mul α](u v:V3 α):α:=u.x*v.x+u.y*v.y+u.z*v.z
def ax[Sub α][Mul α](u v:V3 α):V3 α:=⟨u.y*v.z-u.z*v.y,u.z*v.x-u.x*v.z,u.x*v.y-u.y*v.x⟩
def cL[Add α][Sub α][Mul α](u v w:V3 α):α:=dot u (ax v w)
end
def V(i:Nat):V3 E:=⟨E.var (3*i),E.var (3*i+1),E.var (3*i+2)⟩
def S(j:Nat):E:=E.var (90+j)
def flat{F:Type}:List (V3 F)->List F
 |[]=>[]
 |v::vs=>v.x::v.y::v.z::flat vs
def OB{F:Type}[CR F](vs:List (V3 F))(ss:List F)(i:Nat):F:=cond (Nat.blt i 90) ((flat vs).getD i 0) (ss.getD (i-90) 0)
def aBm{F:Type}[CR F](ρ:Nat->F)(v:V3 E):V3 F:=⟨v.x.den ρ,v.y.den ρ,v.z.den ρ⟩
section
variable{F:Type}[CR F]
theorem ring(vs:List (V3 F))(ss:List F)(l r:(Nat->V3 E)->(Nat->E)->E)
  (h:E.peq (l V S).norm (r V S).norm=true) :
  (l V S).den (OB vs ss)=(r V S).den (OB vs ss):=E.prove _ _ _ h
theorem mN(vs:List (V3 F))(ss:List F)(l r:(Nat->V3 E)->(Nat->E)->V3 E)
  (h:(E.peq (l V S).x.norm (r V S).x.norm&&
   E.peq (l V S).y.norm (r V S).y.norm&&
   E.peq (l V S).z.norm (r V S).z.norm)=true) :
  aBm (OB vs ss) (l V S)=aBm (OB vs ss) (r V S):=by
 simp only[db]at h;exact V3.ext (E.prove _ _ _ h.1.1) (E.prove _ _ _ h.1.2) (E.prove _ _ _ h.2)
theorem zj(u v:V3 F):dot u v=dot v u:=ring [u,v] [] (λV _=>dot (V 0) (V 1)) (λV _=>dot (V 1) (V 0)) d_
theorem k8(u v w:V3 F):dot u (v+w)=dot u v+dot u w:=ring [u,v,w] [] (λV _=>dot (V 0) (V 1+V 2)) (λV _=>dot (V 0) (V 1)+dot (V 0) (V 2)) d_
theorem k9(u v w:V3 F):dot u (v-w)=dot u v-dot u w:=ring [u,v,w] [] (λV _=>dot (V 0) (V 1-V 2)) (λV _=>dot (V 0) (V 1)-dot (V 0) (V 2)) d_
theorem tA(u v:V3 F):dot u (-v)=-dot u v:=ring [u,v] [] (λV _=>dot (V 0) (-V 1)) (λV _=>-dot (V 0) (V 1)) d_
theorem Bt(u v:V3 F):dot (-u) v=-dot u v:=ring [u,v] [] (λV _=>dot (-V 0) (V 1)) (λV _=>-dot (V 0) (V 1)) d_
theorem iZ(u v:V3 F)(k:F):dot u (smul v k)=dot u v*k:=ring [u,v] [k] (λV S=>dot (V 0) (smul (V 1) (S 0))) (λV S=>dot (V 0) (V 1)*S 0) d_
theorem OC(u v w:V3 F):dot (u+v) w=dot u w+dot v w:=ring [u,v,w] [] (λV _=>dot (V 0+V 1) (V 2)) (λV _=>dot (V 0) (V 2)+dot (V 1) (V 2)) d_
theorem aKA(u v:V3 F)(k:F):dot (smul u k) v=dot u v*k:=ring [u,v] [k] (λV S=>dot (smul (V 0) (S 0)) (V 1)) (λV S=>dot (V 0) (V 1)*S 0) d_
theorem Df(u:V3 F):dot u 0=0:=by show u.x*0+u.y*0+u.z*0=0;rw[CR.mul_zero,CR.mul_zero,CR.mul_zero,CR.add_zero,CR.add_zero]
theorem aKB(u:V3 F):dot 0 u=0:=by rw[zj,Df]
theorem FA(u v:V3 F):dot u (ax u v)=0:=ring [u,v] [] (λV _=>dot (V 0) (ax (V 0) (V 1))) (λ_ _=>0) d_
theorem Dg(u v:V3 F):dot v (ax u v)=0:=ring [u,v] [] (λV _=>dot (V 1) (ax (V 0) (V 1))) (λ_ _=>0) d_
theorem KE(u:V3 F):ax u u=0:=mN [u] [] (λV _=>ax (V 0) (V 0)) (λ_ _=>0) d_
theorem HZ(u v:V3 F):ax v u=-ax u v:=mN [u,v] [] (λV _=>ax (V 1) (V 0)) (λV _=>-ax (V 0) (V 1)) d_
theorem OD(u v w:V3 F):cL u v w=cL v w u:=ring [u,v,w] [] (λV _=>cL (V 0) (V 1) (V 2)) (λV _=>cL (V 1) (V 2) (V 0)) d_
theorem aBn(u v w:V3 F):cL u w v=-cL u v w:=ring [u,v,w] [] (λV _=>cL (V 0) (V 2) (V 1)) (λV _=>-cL (V 0) (V 1) (V 2)) d_
theorem neg_neg(u:V3 F):- -u=u:=mN [u] [] (λV _=>- -V 0) (λV _=>V 0) d_
theorem sub_self(u:V3 F):u-u=0:=mN [u] [] (λV _=>V 0-V 0) (λ_ _=>0) d_
theorem add_zero(u:V3 F):u+0=u:=V3.ext (CR.add_zero _) (CR.add_zero _) (CR.add_zero _)
theorem add_sub_cancel(u v:V3 F):u+(v-u)=v:=mN [u,v] [] (λV _=>V 0+(V 1-V 0)) (λV _=>V 1) d_
theorem smul_zero(u:V3 F):smul u 0=0:=V3.ext (CR.mul_zero _) (CR.mul_zero _) (CR.mul_zero _)
theorem aKC(u:V3 F):smul u 1=u:=V3.ext (CR.mul_one _) (CR.mul_one _) (CR.mul_one _)
theorem aBo(u:V3 F)(a b:F):smul (smul u a) b=smul u (a*b):=V3.ext (CR.mul_assoc _ _ _) (CR.mul_assoc _ _ _) (CR.mul_assoc _ _ _)
theorem neg_zero:-(0:V3 F)=0:=V3.ext CR.neg_zero CR.neg_zero CR.neg_zero
end
section
variable{F:Type}[OF F]
theorem sub_eq_zero{u v:V3 F}:u-v=0↔u=v:=by
 constructor
 ·intro h;exact V3.ext (OF.sub_eq_zero.1 (cI V3.x h)) (OF.sub_eq_zero.1 (cI V3.y h)) (OF.sub_eq_zero.1 (cI V3.z h))
 ·rintro rfl;exact sub_self u
theorem Ug{u:V3 F}(h:u≠0):0<dot u u:=by
 by_cases hx:u.x=0
 ·by_cases hy:u.y=0
  ·have hz:u.z≠0:=λhz=>h (V3.ext hx hy hz);exact aAs (add_nonneg (mK _) (mK _)) (Tp hz)
  ·exact HB (aAs (mK _) (Tp hy)) (mK _)
 ·exact HB (HB (Tp hx) (mK _)) (mK _)
theorem Bu{u:V3 F}(h:u≠0):dot u u≠0:=OF.ne_of_gt (Ug h)
theorem aKD{u:V3 F}{k:F}(h:smul u k=0):u=0\/k=0:=by
 by_cases hk:k=0
 ·exact .inr hk
 ·left;have hx:=(mul_eq_zero.1 (cI V3.x h:u.x*k=0)).resolve_right hk;have hy:=(mul_eq_zero.1 (cI V3.y h:u.y*k=0)).resolve_right hk;have hz:=(mul_eq_zero.1 (cI V3.z h:u.z*k=0)).resolve_right hk;exact V3.ext hx hy hz
theorem neg_eq_zero{u:V3 F}:-u=0↔u=0:=by
 constructor
 ·intro h;rw[<-neg_neg u,h,neg_zero]
 ·rintro rfl;exact neg_zero
theorem H0{a b c v:V3 F}(hd:cL a b c≠0)(ha:dot a v=0)(hb:dot b v=0)(hc:dot c v=0):v=0:=by
 have e:smul v (cL a b c)=smul (ax b c) (dot a v)+smul (ax c a) (dot b v)+smul (ax a b) (dot c v):=
  mN [a,b,c,v] [] (λV _=>smul (V 3) (cL (V 0) (V 1) (V 2)))
   (λV _=>smul (ax (V 1) (V 2)) (dot (V 0) (V 3))+smul (ax (V 2) (V 0)) (dot (V 1) (V 3))+smul (ax (V 0) (V 1)) (dot (V 2) (V 3))) d_
 rw[ha,hb,hc,smul_zero,smul_zero,smul_zero,add_zero,add_zero]at e;exact(aKD e).resolve_right hd
theorem aBp{a b v:V3 F}(hd:ax a b≠0)(ha:dot a v=0)(hb:dot b v=0):v=smul (ax a b) (dot (ax a b) v*(dot (ax a b) (ax a b))⁻¹):=by
 have aU:=Bu hd;have e:smul v (dot (ax a b) (ax a b))=smul (ax a b) (dot (ax a b) v)+smul (ax b (ax a b)) (dot a v)+smul (ax (ax a b) a) (dot b v):=
  mN [a,b,v] [] (λV _=>smul (V 2) (dot (ax (V 0) (V 1)) (ax (V 0) (V 1))))
   (λV _=>smul (ax (V 0) (V 1)) (dot (ax (V 0) (V 1)) (V 2))+smul (ax (V 1) (ax (V 0) (V 1))) (dot (V 0) (V 2))+smul (ax (ax (V 0) (V 1)) (V 0)) (dot (V 1) (V 2))) d_
 rw[ha,hb,smul_zero,smul_zero,add_zero,add_zero]at e;rw[<-aBo,<-e,aBo,lI _ aU,aKC]
end
end V3
end
section
open CR OF V3
@[ext] structure HS (F:Type) where
 n:V3 F
 d:F
section
variable{F:Type}[OF F]
def gH(ps:List (HS F))(v:V3 F):Prop:=∀ p∈ps,dot p.n v<=p.d
def dR(p:HS F)(v:V3 F):Prop:=dot p.n v=p.d
def Cl(ps:List (HS F)):Prop:=
 (∃ p∈ps,∃ q∈ps,ax p.n q.n≠0)/\∀ p∈ps,∀ q∈ps,ax p.n q.n≠0->∃ r∈ps,0<dot r.n (ax p.n q.n)
def gp(ps:List (HS F)):Prop:=∀ p∈ps,p.n≠0
theorem KF{d:V3 F}(h:d≠0):∃ u:V3 F,u≠0/\dot d u=0:=by
 by_cases hz:d.z=0
 ·by_cases hy:d.y=0
  ·have hx:d.x≠0:=λhx=>h (V3.ext hx hy hz);refine⟨⟨d.z,0,-d.x⟩,λe=>hx ?_,ring [d] [] (λV _=>dot (V 0) ⟨(V 0).z,0,-(V 0).x⟩) (λ_ _=>0) d_⟩;have:-d.x=0:=cI V3.z e;rw[<-CR.neg_neg d.x,this,CR.neg_zero]
  ·refine⟨⟨-d.y,d.x,0⟩,λe=>hy ?_,ring [d] [] (λV _=>dot (V 0) ⟨-(V 0).y,(V 0).x,0⟩) (λ_ _=>0) d_⟩;have:-d.y=0:=cI V3.x e;rw[<-CR.neg_neg d.y,this,CR.neg_zero]
 ·refine⟨⟨0,-d.z,d.y⟩,λe=>hz ?_,ring [d] [] (λV _=>dot (V 0) ⟨0,-(V 0).z,(V 0).y⟩) (λ_ _=>0) d_⟩;have:-d.z=0:=cI V3.y e;rw[<-CR.neg_neg d.z,this,CR.neg_zero]
theorem aKE(l:List (F×F))(h0:∀ x∈l,0<=x.2)(hp:∃ x∈l,0<x.1):
  ∃ t:F,0<=t/\(∃ x∈l,0<x.1/\x.1*t=x.2)/\∀ x∈l,x.1*t<=x.2:=by
 induction l with
 |nil=>obtain⟨x,hx,_⟩:=hp;cases hx
 |cons y l ih=>
  obtain⟨a,b⟩:=y;have hb:0<=b:=h0 _ (aT ..);have h0':∀ x∈l,0<=x.2:=λx hx=>h0 x (bB _ hx)
  -- t=b/a aUJ,if it is at most t' aUK t' is aUL
  have new:0<a->(∀ x∈l,0<x.1->x.1*(b*a⁻¹)<=x.2)->
    ∃ t:F,0<=t/\(∃ x∈(a,b)::l,0<x.1/\x.1*t=x.2)/\∀ x∈(a,b)::l,x.1*t<=x.2:=by
   intro ha hl;have e:a*(b*a⁻¹)=b:=by rw[CR.mul_left_comm,lI _ (OF.ne_of_gt ha),CR.mul_one]
   have ht:0<=b*a⁻¹:=mul_nonneg hb (le_of_lt (inv_pos ha));refine⟨b*a⁻¹,ht,⟨_,aT ..,ha,e⟩,?_⟩;intro x hx;rcases cy.1 hx with rfl|hx
   ·exact OF.le_of_eq e
   ·by_cases h:0<x.1
    ·exact hl x hx h
    ·refine OF.le_trans ?_ (h0' x hx);rw[<-neg_nonneg,<-CR.neg_mul];exact mul_nonneg (neg_nonneg.2 (OF.not_lt.1 h)) ht
  by_cases hl:∃ x∈l,0<x.1
  ·obtain⟨t,ht,⟨x,hx,kK,zk⟩,ba⟩:=ih h0' hl;by_cases mB:a*t<=b
   ·exact⟨t,ht,⟨x,bB _ hx,kK,zk⟩,λz hz=>by
     rcases cy.1 hz with rfl|hz
     ·exact mB
     ·exact ba z hz⟩
   ·have OE:=OF.not_le.1 mB;have ha:0<a:=by
     rcases OF.lt_trichotomy 0 a with h|h|h
     ·exact h
     ·rw[<-h,CR.zero_mul]at OE;exact absurd (OF.lt_of_le_of_lt hb OE) (OF.lt_irrefl _)
     ·have:=mul_nonneg (neg_nonneg.2 (le_of_lt h)) ht;rw[CR.neg_mul,neg_nonneg]at this;exact absurd (OF.lt_of_le_of_lt hb (OF.lt_of_lt_of_le OE this)) (OF.lt_irrefl _)
    refine new ha λz hz Ax=>?_;refine OF.le_trans ?_ (ba z hz);refine le_of_lt ((mul_lt_mul_left Ax).2 ?_);rw[<-mul_lt_mul_left ha,CR.mul_left_comm,lI _ (OF.ne_of_gt ha),CR.mul_one];exact OE
  ·obtain⟨x,hx,kK⟩:=hp;rcases cy.1 hx with rfl|hx
   ·exact new kK λz hz Ax=>(hl ⟨z,hz,Ax⟩).elim
   ·exact(hl ⟨x,hx,kK⟩).elim
theorem yw{ps:List (HS F)}{v u:V3 F}(hv:gH ps v)(hu:∃ p∈ps,0<dot p.n u):
  ∃ t:F,0<=t/\(∃ q∈ps,0<dot q.n u/\dR q (v+smul u t))/\gH ps (v+smul u t):=by
 obtain⟨t,ht,⟨x,hx,kK,zk⟩,ba⟩:=aKE (ps.map λp=>(dot p.n u,p.d-dot p.n v))
  (λx hx=>by obtain⟨p,hp,rfl⟩:=di.1 hx;exact OF.sub_nonneg.2 (hv p hp))
  (by obtain⟨p,hp,h⟩:=hu;exact⟨_,di.2 ⟨p,hp,rfl⟩,h⟩)
 obtain⟨q,hq,rfl⟩:=di.1 hx;have e:∀ p:HS F,dot p.n (v+smul u t)=dot p.n v+dot p.n u*t:=λp=>by rw[k8,iZ]
 refine⟨t,ht,⟨q,hq,kK,?_⟩,?_⟩
 ·unfold dR;rw[e,zk];exact ko (dot q.n v) q.d (λa d=>a+(d-a)) (λ_ d=>d) d_
 ·intro p hp;have:=ba _ (di.2 ⟨p,hp,rfl⟩);rw[e];have h2:=(add_le_add_left (dot p.n v)).2 this;rwa[show dot p.n v+(p.d-dot p.n v)=p.d from ko (dot p.n v) p.d (λa d=>a+(d-a)) (λ_ d=>d) d_]at h2
theorem OG{p q u:V3 F}(hp:p≠0)(h:ax p q=0)(hu:dot p u=0):dot q u=0:=by
 have e:dot q u*dot p p=dot p u*dot p q-dot (ax p (ax p q)) u:=
  ring [p,q,u] [] (λV _=>dot (V 1) (V 2)*dot (V 0) (V 0)) (λV _=>dot (V 0) (V 2)*dot (V 0) (V 1)-dot (ax (V 0) (ax (V 0) (V 1))) (V 2)) d_
 have z:ax p (0:V3 F)=0:=mN [p] [] (λV _=>ax (V 0) 0) (λ_ _=>0) d_;rw[h,hu,z,aKB,CR.zero_mul,OF.sub_zero]at e;exact(mul_eq_zero.1 e).resolve_right (Bu hp)
theorem FB{p d:V3 F}(hp:p≠0)(hd:d≠0)(h:dot p d=0):ax p d≠0:=by
 intro e;have e2:dot (ax p d) (ax p d)=dot p p*dot d d-dot p d*dot p d:=
  ring [p,d] [] (λV _=>dot (ax (V 0) (V 1)) (ax (V 0) (V 1))) (λV _=>dot (V 0) (V 0)*dot (V 1) (V 1)-dot (V 0) (V 1)*dot (V 0) (V 1)) d_
 rw[e,h,Df,CR.mul_zero,OF.sub_zero]at e2;exact mul_ne_zero (Bu hp) (Bu hd) e2.symm
theorem Uh{d u:V3 F}{t:F}(hd:d≠0)(h:dot d u=0):d+smul u t≠0:=by intro e;have:=cI (dot d) e;rw[k8,iZ,h,CR.zero_mul,CR.add_zero,Df]at this;exact Bu hd this
theorem aBq{ns:List (V3 F)}(hs:∃ a∈ns,∃ b∈ns,∃ c∈ns,cL a b c≠0){u:V3 F}(hu:u≠0):
  (∃ n∈ns,0<dot n u)\/(∃ n∈ns,0<dot n (-u)):=by
 obtain⟨a,ha,b,hb,c,hc,hd⟩:=hs;have key:∀ n∈ns,dot n u≠0->(∃ n∈ns,0<dot n u)\/(∃ n∈ns,0<dot n (-u)):=by
  intro n hn h;rcases OF.lt_trichotomy 0 (dot n u)with k|k|k
  ·exact .inl ⟨n,hn,k⟩
  ·exact absurd k.symm h
  ·exact .inr ⟨n,hn,by rw[tA];exact neg_pos.2 k⟩
 by_cases h1:dot a u=0
 ·by_cases h2:dot b u=0
  ·by_cases h3:dot c u=0
   ·exact absurd (H0 hd h1 h2 h3) hu
   ·exact key c hc h3
  ·exact key b hb h2
 ·exact key a ha h1
theorem ray{ns:List (V3 F)}(h0:∀ n∈ns,n≠0)(hs:∃ a∈ns,∃ b∈ns,∃ c∈ns,cL a b c≠0){d:V3 F}(hd:d≠0)(ct:∀ n∈ns,dot n d<=0):
  ∃ p∈ns,∃ q∈ns,ax p q≠0/\∀ n∈ns,dot n (ax p q)<=0:=by
 -- one OH
 have Ui:∀{v u:V3 F},(∀ n∈ns,dot n v<=0)->(∃ n∈ns,0<dot n u)->∃ t:F,(∃ q∈ns,0<dot q u/\dot q (v+smul u t)=0)/\∀ n∈ns,dot n (v+smul u t)<=0:=by
  intro v u hv hu
  obtain⟨t,_,⟨q,hq,mI,vL⟩,ba⟩:=yw (ps:=ns.map λn=>⟨n,0⟩) (v:=v) (u:=u)
   (λp hp=>by obtain⟨n,hn,rfl⟩:=di.1 hp;exact hv n hn)
   (by obtain⟨n,hn,h⟩:=hu;exact⟨⟨n,0⟩,di.2 ⟨n,hn,rfl⟩,h⟩)
  obtain⟨n,hn,rfl⟩:=di.1 hq;exact⟨t,⟨n,hn,mI,vL⟩,λm hm=>ba ⟨m,0⟩ (di.2 ⟨m,hm,rfl⟩)⟩
 have one:∃ d1:V3 F,d1≠0/\(∃ p∈ns,dot p d1=0)/\∀ n∈ns,dot n d1<=0:=by
  obtain⟨u,hu,OI⟩:=KF hd;rcases aBq hs hu with h|h
  ·obtain⟨t,⟨q,hq,_,vL⟩,ba⟩:=Ui ct h;exact⟨_,Uh hd OI,⟨q,hq,vL⟩,ba⟩
  ·obtain⟨t,⟨q,hq,_,vL⟩,ba⟩:=Ui ct h;exact⟨_,Uh hd (by rw[tA,OI,CR.neg_zero]),⟨q,hq,vL⟩,ba⟩
 obtain⟨d1,Uj,⟨p,hp,GK⟩,Uk⟩:=one;have Dh:=h0 p hp;have fin:∀ u:V3 F,dot p u=0->dot d1 u=0->(∃ n∈ns,0<dot n u)->∃ p∈ns,∃ q∈ns,ax p q≠0/\∀ n∈ns,dot n (ax p q)<=0:=by
  intro u Bv OI h;obtain⟨t,⟨q,hq,hqu,vL⟩,ba⟩:=Ui Uk h;have aU:ax p q≠0:=λe=>by rw[OG Dh e Bv]at hqu;exact OF.lt_irrefl _ hqu
  have TM:d1+smul u t≠0:=Uh Uj OI;have FC:dot p (d1+smul u t)=0:=by rw[k8,iZ,Bv,GK,CR.zero_mul,CR.add_zero]
  have e:=aBp aU FC vL;generalize dot (ax p q) (d1+smul u t)*(dot (ax p q) (ax p q))⁻¹=k at e;rcases OF.lt_trichotomy 0 k with hk|hk|hk
  ·refine⟨p,hp,q,hq,aU,λn hn=>?_⟩;have:=ba n hn;rw[e,iZ,CR.mul_comm]at this;rw[<-CR.mul_zero k,mul_le_mul_left hk]at this;exact this
  ·rw[<-hk,smul_zero]at e;exact absurd e TM
  ·refine⟨q,hq,p,hp,λe'=>aU (by rw[HZ,e',V3.neg_zero]),λn hn=>?_⟩;have:=ba n hn;rw[e,iZ,HZ q p,tA,CR.neg_mul,<-CR.mul_neg,CR.mul_comm]at this;rw[<-CR.mul_zero (-k),mul_le_mul_left (neg_pos.2 hk)]at this;exact this
 have hc:=FB Dh Uj GK;rcases aBq hs hc with h|h
 ·exact fin _ (FA p d1) (Dg p d1) h
 ·exact fin _ (by rw[tA,FA,CR.neg_zero]) (by rw[tA,Dg,CR.neg_zero]) h
theorem Cl.span{ps:List (HS F)}(h:Cl ps):∃ a∈ps.map HS.n,∃ b∈ps.map HS.n,∃ c∈ps.map HS.n,cL a b c≠0:=by obtain⟨⟨p,hp,q,hq,Od⟩,iH⟩:=h;obtain⟨r,hr,h⟩:=iH p hp q hq Od;exact⟨r.n,di.2 ⟨r,hr,rfl⟩,p.n,di.2 ⟨p,hp,rfl⟩,q.n,di.2 ⟨q,hq,rfl⟩,OF.ne_of_gt h⟩
theorem Cl.bounds{ps:List (HS F)}(h:Cl ps)(hp:gp ps){u:V3 F}(hu:u≠0):∃ r∈ps,0<dot r.n u:=by
 apply hZ;intro gF;have ct:∀ n∈ps.map HS.n,dot n u<=0:=by intro n hn;obtain⟨p,hp,rfl⟩:=di.1 hn;exact OF.not_lt.1 λk=>gF ⟨p,hp,k⟩
 obtain⟨a,ha,b,hb,aU,ba⟩:=ray (λn hn=>by obtain⟨p,jf,rfl⟩:=di.1 hn;exact hp p jf) h.span hu ct;obtain⟨p,jf,rfl⟩:=di.1 ha;obtain⟨q,Bw,rfl⟩:=di.1 hb;obtain⟨r,hr,oh⟩:=h.2 p jf q Bw aU;exact OF.lt_irrefl _ (OF.lt_of_lt_of_le oh (ba r.n (di.2 ⟨r,hr,rfl⟩)))
def kL(ps:List (HS F))(v:V3 F):Prop:=
 gH ps v/\∃ p∈ps,∃ q∈ps,∃ r∈ps,cL p.n q.n r.n≠0/\dR p v/\dR q v/\dR r v
theorem top{ps:List (HS F)}(hc:Cl ps)(hp:gp ps){x m:V3 F}(hx:gH ps x):∃ v,kL ps v/\dot m x<=dot m v:=by
 -- a step along a line
 have go:∀{x u:V3 F},gH ps x->u≠0->∃ u':V3 F,(u'=u\/u'=-u)/\∃ t:F,(∃ q∈ps,0<dot q.n u'/\dR q (x+smul u' t))/\gH ps (x+smul u' t)/\dot m x<=dot m (x+smul u' t):=by
  have half:∀{x u:V3 F},gH ps x->u≠0->0<=dot m u->∃ t:F,(∃ q∈ps,0<dot q.n u/\dR q (x+smul u t))/\gH ps (x+smul u t)/\dot m x<=dot m (x+smul u t):=by intro x u hx hu hm;obtain⟨t,ht,hq,ct⟩:=yw hx (hc.bounds hp hu);refine⟨t,hq,ct,?_⟩;rw[k8,iZ];have:=(add_le_add_left (dot m x)).2 (mul_nonneg hm ht);rwa[CR.add_zero]at this
  intro x u hx hu;rcases OF.le_total 0 (dot m u)with h|h
  ·exact⟨u,.inl rfl,half hx hu h⟩
  ·exact⟨-u,.inr rfl,half hx (λe=>hu (neg_eq_zero.1 e)) (by rw[tA];exact neg_nonneg.2 h)⟩
 obtain⟨⟨p0,Dh,_⟩,_⟩:=hc;obtain⟨u1,_,t1,⟨p,iP,_,FC⟩,Uk,cW⟩:=go hx (hp p0 Dh);generalize x+smul u1 t1=x1 at *;obtain⟨u,hu,Bv⟩:=KF (hp p iP);obtain⟨u2,h2,t2,⟨q,lf,mI,vL⟩,aKF,dx⟩:=go Uk hu;have aBr:dot p.n u2=0:=by
  rcases h2 with rfl|rfl
  ·exact Bv
  ·rw[tA,Bv,CR.neg_zero]
 have aKG:dR p (x1+smul u2 t2):=by unfold dR at *;rw[k8,iZ,aBr,CR.zero_mul,CR.add_zero,FC]
 generalize x1+smul u2 t2=x2 at *;have aU:ax p.n q.n≠0:=λe=>by rw[OG (hp p iP) e aBr]at mI;exact OF.lt_irrefl _ mI
 obtain⟨u3,h3,t3,⟨r,hrm,oh,FD⟩,aKH,yj⟩:=go aKF aU;have aBs:dot p.n u3=0/\dot q.n u3=0:=by
  rcases h3 with rfl|rfl
  ·exact⟨FA _ _,Dg _ _⟩
  ·rw[tA,tA,FA,Dg,CR.neg_zero];exact⟨rfl,rfl⟩
 refine⟨_,⟨aKH,p,iP,q,lf,r,hrm,?_,?_,?_,FD⟩,OF.le_trans cW (OF.le_trans dx yj)⟩
 ·intro e;have e2:dot r.n (ax p.n q.n)=0:=by rw[show dot r.n (ax p.n q.n)=cL r.n p.n q.n from rfl,OD];exact e
  rcases h3 with rfl|rfl
  ·rw[e2]at oh;exact OF.lt_irrefl _ oh
  ·rw[tA,e2,CR.neg_zero]at oh;exact OF.lt_irrefl _ oh
 ·unfold dR at *;rw[k8,iZ,aBs.1,CR.zero_mul,CR.add_zero,aKG]
 ·unfold dR at *;rw[k8,iZ,aBs.2,CR.zero_mul,CR.add_zero,vL]
theorem aKI{ps:List (HS F)}(hp:gp ps){v x:V3 F}(hv:kL ps v)(hx:gH ps x)(aU:x≠v):
  ∃ p∈ps,∃ q∈ps,dR p v/\dR q v/\ax p.n q.n≠0/\∀ r∈ps,dR r v->dot r.n (ax p.n q.n)<=0:=by
 classical
 obtain⟨_,a,ha,b,hb,c,hc,hd,ta,tb,tc⟩:=hv
 let ts:=ps.filter λp=>decide (dR p v)
 have mem:∀ p,p∈ts↔p∈ps/\dR p v:=λp=>by simp[ts]
 obtain⟨n,hn,m,hm,lv,ba⟩:=ray (ns:=ts.map HS.n) (d:=x-v)
  (λn hn=>by obtain⟨p,jf,rfl⟩:=di.1 hn;exact hp p ((mem p).1 jf).1)
  ⟨a.n,di.2 ⟨a,(mem a).2 ⟨ha,ta⟩,rfl⟩,b.n,di.2 ⟨b,(mem b).2 ⟨hb,tb⟩,rfl⟩,c.n,di.2 ⟨c,(mem c).2 ⟨hc,tc⟩,rfl⟩,hd⟩
  (λe=>aU (V3.sub_eq_zero.1 e))
  (λn hn=>by obtain⟨p,jf,rfl⟩:=di.1 hn;obtain⟨gZ,ht⟩:=(mem p).1 jf;rw[k9,show dot p.n v=p.d from ht,<-neg_nonneg,OF.neg_sub];exact OF.sub_nonneg.2 (hx p gZ))
 obtain⟨p,jf,rfl⟩:=di.1 hn;obtain⟨q,Bw,rfl⟩:=di.1 hm;exact⟨p,((mem p).1 jf).1,q,((mem q).1 Bw).1,((mem p).1 jf).2,((mem q).1 Bw).2,lv,λr hr ht=>ba r.n (di.2 ⟨r,(mem r).2 ⟨hr,ht⟩,rfl⟩)⟩
end
structure iQ(F:Type)[OF F] where
 fw:V3 F->Prop
 add:∀{x y},fw x->fw y->fw (x+y)
 mul:∀{x k},fw x->0<k->fw (smul x k)
 asymm:∀{x},fw x->fw (-x)->False
namespace iQ
variable{F:Type}[OF F](H:iQ F)
theorem zero{H:iQ F}:¬H.fw 0:=λh=>H.asymm h (by rw[V3.neg_zero];exact h)
def opp:iQ F where
 fw v:=H.fw (-v)
 add {x y} hx hy:=by rw[show -(x+y)=-x+-y from mN [x,y] [] (λV _=>-(V 0+V 1)) (λV _=>-V 0+-V 1) d_];exact H.add hx hy
 mul {x k} hx hk:=by rw[show -(smul x k)=smul (-x) k from mN [x] [k] (λV S=>-(smul (V 0) (S 0))) (λV S=>smul (-V 0) (S 0)) d_];exact H.mul hx hk
 asymm {x} h k:=H.asymm h k
theorem ne{H:iQ F}{a b:V3 F}(h:H.fw (b-a)):a≠b:=by rintro rfl;rw[V3.sub_self]at h;exact zero h
theorem aBt{H:iQ F}{a b c:V3 F}(h:H.fw (b-a))(k:H.fw (c-b)):H.fw (c-a):=by rw[show c-a=(b-a)+(c-b)from mN [a,b,c] [] (λV _=>V 2-V 0) (λV _=>(V 1-V 0)+(V 2-V 1)) d_];exact H.add h k
theorem H2{H:iQ F}{a b:V3 F}(h:H.fw (b-a))(k:H.fw (a-b)):False:=by apply H.asymm h;rw[show -(b-a)=a-b from mN [a,b] [] (λV _=>-(V 1-V 0)) (λV _=>V 0-V 1) d_];exact k
end iQ
section
variable{F:Type}[OF F](n:V3 F)
def tr(x y:V3 F):F:=dot n (ax x y)
def turn(a b c:V3 F):F:=dot n (ax (b-a) (c-a))
theorem Ul(a b c:V3 F):turn n a b c=turn n b c a:=
 ring [n,a,b,c] [] (λV _=>dot (V 0) (ax (V 2-V 1) (V 3-V 1))) (λV _=>dot (V 0) (ax (V 3-V 2) (V 1-V 2))) d_
theorem aBu(a b c:V3 F):turn n a c b=-turn n a b c:=
 ring [n,a,b,c] [] (λV _=>dot (V 0) (ax (V 3-V 1) (V 2-V 1))) (λV _=>-dot (V 0) (ax (V 2-V 1) (V 3-V 1))) d_
theorem Um(a b c:V3 F):turn n a b c=tr n (b-a) (c-b):=
 ring [n,a,b,c] [] (λV _=>dot (V 0) (ax (V 2-V 1) (V 3-V 1))) (λV _=>dot (V 0) (ax (V 2-V 1) (V 3-V 2))) d_
theorem aKJ(a b c:V3 F):turn n a b c=tr n (b-a) (c-a):=rfl
theorem OJ(x y:V3 F):tr n y x=-tr n x y:=
 ring [n,x,y] [] (λV _=>dot (V 0) (ax (V 2) (V 1))) (λV _=>-dot (V 0) (ax (V 1) (V 2))) d_
theorem Un(x y:V3 F):tr n x (-y)=-tr n x y:=
 ring [n,x,y] [] (λV _=>dot (V 0) (ax (V 1) (-V 2))) (λV _=>-dot (V 0) (ax (V 1) (V 2))) d_
theorem aKK(x:V3 F):tr n x x=0:=ring [n,x] [] (λV _=>dot (V 0) (ax (V 1) (V 1))) (λ_ _=>0) d_
theorem Di(a b:V3 F):b-a=-(a-b):=mN [a,b] [] (λV _=>V 1-V 0) (λV _=>-(V 0-V 1)) d_
theorem aBv{x y z:V3 F}(hn:n≠0)(hx:dot n x=0)(hy:dot n y=0)(hz:dot n z=0):
  smul y (tr n x z)=smul z (tr n x y)+smul x (tr n y z):=by
 have hd:cL x y z=0:=by apply hZ;intro h;exact hn (H0 h (by rw[zj];exact hx) (by rw[zj];exact hy) (by rw[zj];exact hz))
 have e:smul y (tr n x z)=smul z (tr n x y)+smul x (tr n y z)-smul n (cL x y z):=
  mN [n,x,y,z] [] (λV _=>smul (V 2) (dot (V 0) (ax (V 1) (V 3))))
   (λV _=>smul (V 3) (dot (V 0) (ax (V 1) (V 2)))+smul (V 1) (dot (V 0) (ax (V 2) (V 3)))-smul (V 0) (cL (V 1) (V 2) (V 3))) d_
 rw[e,hd,smul_zero];exact mN [smul z (tr n x y),smul x (tr n y z)] [] (λV _=>V 0+V 1-0) (λV _=>V 0+V 1) d_
theorem Uo(H:iQ F){x y z:V3 F}(hn:n≠0)(hx:dot n x=0)(hy:dot n y=0)(hz:dot n z=0)(fx:H.fw x)(fy:H.fw y)(fz:H.fw z)
  (h:0<tr n x y) (k:0<tr n y z):0<tr n x z:=by
 have e:=aBv n hn hx hy hz;have f:H.fw (smul y (tr n x z)):=by rw[e];exact H.add (H.mul fz h) (H.mul fx k)
 rcases OF.lt_trichotomy 0 (tr n x z)with g|g|g
 ·exact g
 ·rw[<-g,smul_zero]at f;exact absurd f iQ.zero
 ·exact(H.asymm f (by rw[show -(smul y (tr n x z))=smul y (-(tr n x z))from mN [y] [tr n x z] (λV S=>-(smul (V 0) (S 0))) (λV S=>smul (V 0) (-S 0)) d_];exact H.mul fy (neg_pos.2 g))).elim
theorem aKL{m x y z:V3 F}(hn:n≠0)(hx:dot n x=0)(hy:dot n y=0)(hz:dot n z=0)(fx:0<dot m x)(fy:0<dot m y)(fz:0<dot m z)
  (h:0<tr n x y) (k:0<tr n y z):0<tr n x z:=by
 have e:=cI (dot m) (aBv n hn hx hy hz);rw[k8,iZ,iZ,iZ]at e;have p:0<dot m y*tr n x z:=by rw[e];exact add_pos (mul_pos fz h) (mul_pos fx k)
 rwa[<-CR.mul_zero (dot m y),mul_lt_mul_left fy]at p
variable{ι:Type}(pt:ι->V3 F)
structure Conv(S:List ι):Prop where
 qd:∀ a∈S,∀ b∈S,dot n (pt b-pt a)=0
 xu:∀ c∈S,∃ m:V3 F,∀ w∈S,w≠c->dot m (pt w)<dot m (pt c)
variable{n pt}
theorem Conv.sub{S T:List ι}(h:Conv n pt S)(hT:∀ x∈T,x∈S):Conv n pt T:=
 ⟨λa ha b hb=>h.qd a (hT a ha) b (hT b hb),λc hc=>(h.xu c (hT c hc)).imp λ_ hm w hw=>hm w (hT w hw)⟩
theorem Conv.aBw{S:List ι}(h:Conv n pt S)(hn:n≠0){a b c:ι}(ha:a∈S)(hb:b∈S)(hc:c∈S)(bZ:a≠b)(OL:a≠c)(zn:b≠c):
  turn n (pt a) (pt b) (pt c)≠0:=by
 intro e;generalize hx:pt b-pt a=x at *;generalize hy:pt c-pt a=y at *;have px:dot n x=0:=hx▸h.qd a ha b hb;have py:dot n y=0:=hy▸h.qd a ha c hc;have e':dot n (ax x y)=0:=by rw[<-hx,<-hy];exact e
 have hz:ax x y=0:=by
  apply hZ;intro aU;apply FB hn aU e';have e2:ax n (ax x y)=smul x (dot n y)-smul y (dot n x):=
   mN [n,x,y] [] (λV _=>ax (V 0) (ax (V 1) (V 2))) (λV _=>smul (V 1) (dot (V 0) (V 2))-smul (V 2) (dot (V 0) (V 1))) d_
  rw[e2,px,py,smul_zero,smul_zero,V3.sub_self]
 obtain⟨ma,fa⟩:=h.xu a ha;obtain⟨mb,fb⟩:=h.xu b hb;obtain⟨mc,fc⟩:=h.xu c hc;have hax:dot ma x<0:=by rw[<-hx,k9,<-neg_pos,OF.neg_sub];exact OF.sub_pos.2 (fa b hb (mA bZ))
 have hay:dot ma y<0:=by rw[<-hy,k9,<-neg_pos,OF.neg_sub];exact OF.sub_pos.2 (fa c hc (mA OL))
 have Up:0<dot mb x:=by rw[<-hx,k9];exact OF.sub_pos.2 (fb a ha bZ)
 have aKM:dot mb y<dot mb x:=by have:=fb c hc (mA zn);rw[<-hx,<-hy,k9,k9,OF.lt_def];rw[show dot mb (pt b)-dot mb (pt a)-(dot mb (pt c)-dot mb (pt a))=dot mb (pt b)-dot mb (pt c)from k6 (dot mb (pt a)) (dot mb (pt b)) (dot mb (pt c)) (λa b c=>b-a-(c-a)) (λ_ b c=>b-c) d_];exact this
 have Uq:0<dot mc y:=by rw[<-hy,k9];exact OF.sub_pos.2 (fc a ha OL)
 have aKN:dot mc x<dot mc y:=by have:=fc b hb zn;rw[<-hx,<-hy,k9,k9,OF.lt_def];rw[show dot mc (pt c)-dot mc (pt a)-(dot mc (pt b)-dot mc (pt a))=dot mc (pt c)-dot mc (pt b)from k6 (dot mc (pt a)) (dot mc (pt b)) (dot mc (pt c)) (λa b c=>c-a-(b-a)) (λ_ b c=>c-b) d_];exact this
 -- y is a aUM t of x
 have kK:x≠0:=by rintro rfl;rw[Df]at Up;exact OF.lt_irrefl _ Up
 have key:∀ m:V3 F,dot m y*dot x x=dot m x*dot x y:=by
  intro m;have e2:dot m y*dot x x=dot m x*dot x y-dot m (ax x (ax x y)):=
   ring [m,x,y] [] (λV _=>dot (V 0) (V 2)*dot (V 1) (V 1)) (λV _=>dot (V 0) (V 1)*dot (V 1) (V 2)-dot (V 0) (ax (V 1) (ax (V 1) (V 2)))) d_
  rw[hz,show ax x (0:V3 F)=0 from mN [x] [] (λV _=>ax (V 0) 0) (λ_ _=>0) d_,Df,OF.sub_zero]at e2;exact e2
 have Hh:=Ug kK;have kb:=key mb;have kc:=key mc;have ka:=key ma
 -- from b: t<1;from c: t>1 as t>0
 have t1:dot x y<dot x x:=by rw[<-mul_lt_mul_left Up,<-kb,CR.mul_comm,CR.mul_comm (dot mb x),mul_lt_mul_left Hh];exact aKM
 have aKO:0<dot x y:=by have h1:0 < -dot ma x:=neg_pos.2 hax;rw[<-mul_lt_mul_left h1,CR.mul_zero,CR.neg_mul,<-ka,<-CR.neg_mul];exact mul_pos (neg_pos.2 hay) Hh
 have KG:0<dot mc x:=by
  have:0<dot x y*dot mc x:=by rw[CR.mul_comm,<-kc];exact mul_pos Uq Hh
  rwa[<-CR.mul_zero (dot x y),mul_lt_mul_left aKO]at this
 have t2:dot x x<dot x y:=by rw[<-mul_lt_mul_left KG,<-kc,CR.mul_comm,CR.mul_comm (dot mc y),mul_lt_mul_left Hh];exact aKN
 exact OF.lt_irrefl _ (OF.lt_trans t1 t2)
def oV(n:V3 F)(pt:ι->V3 F)(T:List ι)(a b:ι):Prop:=∀ c∈T,c≠a->c≠b->0<turn n (pt a) (pt b) (pt c)
variable(H:iQ F)
def eM(n:V3 F)(pt:ι->V3 F)(H:iQ F)(T:List ι):List ι->Prop
 |[]=>False
 |[a]=>a∈T/\∀ c∈T,c≠a->H.fw (pt c-pt a)
 |b::a::st=>b∈T/\H.fw (pt b-pt a)/\oV n pt T a b/\eM n pt H T (a::st)
def pop(n:V3 F)(pt:ι->V3 F)(p:ι):List ι->List ι
 |b::a::st=>if 0<turn n (pt a) (pt b) (pt p)then b::a::st else pop n pt p (a::st)
 |st=>st
def half(n:V3 F)(pt:ι->V3 F)(l:List ι):List ι:=l.foldl (λst p=>p::pop n pt p st) []
variable{H}
theorem eM.mem{T:List ι}:∀{st:List ι},eM n pt H T st->∀ x∈st,x∈T
 |[a],h,x,hx=>by rcases cy.1 hx with rfl|hx;exact h.1;cases hx
 |b::a::st,h,x,hx=>by
  rcases cy.1 hx with rfl|hx
  ·exact h.1
  ·exact eM.mem h.2.2.2 x hx
theorem eM.below{T:List ι}:∀{b:ι} {st:List ι},eM n pt H T (b::st)->∀ x∈st,H.fw (pt b-pt x)
 |b,a::st,h,x,hx=>by
  rcases cy.1 hx with rfl|hx
  ·exact h.2.1
  ·exact iQ.aBt (eM.below h.2.2.2 x hx) h.2.1
 |b,[],_,x,hx=>by cases hx
theorem eM.least{T:List ι}:∀{st:List ι},eM n pt H T st->∃ a,st.getLast?=some a/\a∈T/\∀ c∈T,c≠a->H.fw (pt c-pt a)
 |[a],h=>⟨a,rfl,h.1,h.2⟩
 |b::a::st,h=>by obtain⟨x,hx,hm,ba⟩:=eM.least h.2.2.2;exact⟨x,by rw[OM];exact hx,hm,ba⟩
theorem eM.grow{T:List ι}{p w:ι}(hn:n≠0)(hc:Conv n pt (p::T))(hp:∀ c∈T,H.fw (pt p-pt c))(hw:w∈T)
  (hpw:∀ c∈T,c≠w->0<turn n (pt w) (pt p) (pt c)):∀{st:List ι},eM n pt H T st->(∀ x∈st,H.fw (pt w-pt x))->eM n pt H (p::T) st
 |[a],h,_=>⟨bB _ h.1,λc hc ha=>by
   rcases cy.1 hc with rfl|hc
   ·exact hp a h.1
   ·exact h.2 c hc ha⟩
 |v::u::st,h,bJ=>by
  refine⟨bB _ h.1,h.2.1,?_,eM.grow hn hc hp hw hpw h.2.2.2 λx hx=>bJ x (bB _ hx)⟩;intro c dy Rh jY;rcases cy.1 dy with rfl|dy
  ·have hv:v∈T:=h.1;have hu:u∈T:=eM.mem h.2.2.2 u (aT ..);have fwv:H.fw (pt w-pt v):=bJ v (aT ..);have wv:w≠v:=by rintro rfl;exact iQ.ne fwv rfl
   have wu:w≠u:=by rintro rfl;exact iQ.ne (bJ w (bB _ (aT ..))) rfl
   have h1:=h.2.2.1 w hw wu wv;have h2:=hpw v hv (mA wv);rw[<-Ul]at h2;rw[Um]at h1 ⊢;have pb:=bB c hv;exact Uo n H hn (hc.qd u (bB _ hu) v pb) (hc.qd v pb w (bB _ hw)) (hc.qd v pb c (aT ..)) h.2.1 fwv (hp v hv) h1 h2
  ·exact h.2.2.1 c dy Rh jY
theorem eM.pop{T:List ι}{p:ι}(hn:n≠0)(hc:Conv n pt (p::T))(hp:∀ c∈T,H.fw (pt p-pt c))
  (aKP:∀ a∈T,∀ c∈T,c≠a->H.fw (pt c-pt a)\/H.fw (pt a-pt c)) :
  ∀{b:ι} {st:List ι},eM n pt H T (b::st)->
   ((∀ c∈T,c≠b->H.fw (pt b-pt c))\/∃ e∈T,e≠b/\H.fw (pt e-pt b)/\oV n pt T b e/\turn n (pt b) (pt e) (pt p)<=0)->
   eM n pt H (p::T) (p::Go.Proofs.YtjjefbkbljlgdaaGreatDoor.pop n pt p (b::st)):=by
 have pp:p∈p::T:=aT ..;have mm:∀{x},x∈T->x∈p::T:=λh=>bB _ h;have pne:∀ c∈T,p≠c:=λc hc e=>iQ.ne (hp c hc) (by rw[e])
 -- points in front of b
 have front:∀{b c:ι},b∈T->c∈T->c≠b->H.fw (pt c-pt b)->
   ((∀ c∈T,c≠b->H.fw (pt b-pt c))\/∃ e∈T,e≠b/\H.fw (pt e-pt b)/\oV n pt T b e/\turn n (pt b) (pt e) (pt p)<=0)->0<turn n (pt b) (pt p) (pt c):=by
  intro b c hb dy mO hf kX;rcases kX with Bx|⟨e,he,heb,ON,hl,ht⟩
  ·exact(iQ.H2 hf (Bx c dy mO)).elim
  ·have wM:0<turn n (pt b) (pt p) (pt e):=by
    rw[aBu,neg_pos];rcases OF.pr ht with h|h
    ·exact h
    ·exact absurd h (hc.aBw hn (mm hb) (mm he) pp (mA heb) (mA (pne b hb)) (mA (pne e he)))
   by_cases hce:c=e
   ·rw[hce];exact wM
   ·have h3:=hl c dy mO hce;exact Uo n H hn (hc.qd b (mm hb) p pp) (hc.qd b (mm hb) e (mm he)) (hc.qd b (mm hb) c (mm dy)) (hp b hb) ON hf wM h3
 intro b st;induction st generalizing b with
 |nil=>
  intro h kX;refine⟨pp,hp b h.1,?_,mm h.1,λc dy mO=>?_⟩
  ·intro c dy mO FE;have uL:c∈T:=(cy.1 dy).resolve_left FE;exact front h.1 uL mO (h.2 c uL mO) kX
  ·rcases cy.1 dy with rfl|uL
   ·exact hp b h.1
   ·exact h.2 c uL mO
 |cons a st ih=>
  intro h kX;have ha:a∈T:=eM.mem h.2.2.2 a (aT ..);have hb:b∈T:=h.1;unfold Go.Proofs.YtjjefbkbljlgdaaGreatDoor.pop;split
  ·rename_i OO;have ba:∀ c∈T,c≠b->0<turn n (pt b) (pt p) (pt c):=by
    intro c uL mO;rcases aKP b hb c uL mO with hf|hf
    ·exact front hb uL mO hf kX
    ·-- c aKQ behind b
     have h1:0<tr n (pt b-pt a) (pt p-pt b):=by rw[<-Um];exact OO
     rw[aKJ];by_cases gT:c=a
     ·rw[gT,Di (pt b) (pt a),Un,neg_pos,OJ,Km];exact h1
     ·have h2:=h.2.2.1 c uL gT mO;rw[Um]at h2;rw[Di (pt b) (pt c),Un,neg_pos,OJ,Km];refine Uo n H hn (hc.qd c (mm uL) b (mm hb)) (hc.qd a (mm ha) b (mm hb)) (hc.qd b (mm hb) p pp) hf h.2.1 (hp b hb) ?_ h1;rw[Di (pt b) (pt c),Un,neg_pos,OJ,Km]at h2;exact h2
   refine⟨pp,hp b hb,?_,mm hb,h.2.1,?_,?_⟩
   ·intro c dy mO FE;exact ba c ((cy.1 dy).resolve_left FE) mO
   ·intro c dy gT mO;rcases cy.1 dy with rfl|uL
    ·exact OO
    ·exact h.2.2.1 c uL gT mO
   ·exact eM.grow hn hc hp hb ba h.2.2.2 (eM.below h)
  ·rename_i OO;exact ih h.2.2.2 (.inr ⟨b,hb,λe=>iQ.ne h.2.1 (by rw[e]),h.2.1,h.2.2.1,OF.not_lt.1 OO⟩)
end
section
variable{F:Type}[OF F]{n:V3 F}{ι:Type}{pt:ι->V3 F}{H:iQ F}
def xw(pt:ι->V3 F)(H:iQ F)(l:List ι):Prop:=l.Pairwise λa b=>H.fw (pt b-pt a)
theorem aBx(p:ι):∀(b:ι) (st:List ι),∃ x e7,pop n pt p (b::st)=x::e7
 |b,[]=>⟨b,[],rfl⟩
 |b,a::st=>by
  unfold pop;split
  ·exact⟨_,_,rfl⟩
  ·exact aBx p a st
theorem xw.total{l:List ι}(h:xw pt H l):∀ a∈l,∀ c∈l,c≠a->H.fw (pt c-pt a)\/H.fw (pt a-pt c):=by
 induction l with
 |nil=>intro a ha;cases ha
 |cons x l ih=>
  have h1:=r8.1 h;intro a ha c hc gT;rcases cy.1 ha with e|hJ
  ·rcases cy.1 hc with e2|dj
   ·exact absurd (e2.trans e.symm) gT
   ·exact .inl (e▸h1.1 c dj)
  ·rcases cy.1 hc with e2|dj
   ·exact .inr (e2▸h1.1 a hJ)
   ·exact ih h1.2 a hJ c dj gT
theorem eM.congr{T T':List ι}(h:∀ x,x∈T↔x∈T'):∀{st:List ι},eM n pt H T st->eM n pt H T' st
 |[a],hc=>⟨(h a).1 hc.1,λc hm=>hc.2 c ((h c).2 hm)⟩
 |b::a::st,hc=>⟨(h b).1 hc.1,hc.2.1,λc hm=>hc.2.2.1 c ((h c).2 hm),eM.congr h hc.2.2.2⟩
theorem aBy(hn:n≠0):∀(l T:List ι) (b:ι) (st:List ι),Conv n pt (T++l)->xw pt H (T++l)->b∈T->(∀ c∈T,c≠b->H.fw (pt b-pt c))->
  eM n pt H T (b::st)->∃ x e7,l.foldl (λst p=>p::pop n pt p st) (b::st)=x::e7/\eM n pt H (T++l) (x::e7)/\(∀ c∈T++l,c≠x->H.fw (pt x-pt c))/\(l.getLast?).getD b=x
 |[],T,b,st,_,_,hb,Bx,h=>⟨b,st,rfl,by rw[iY];exact h,by rw[iY];exact Bx,rfl⟩
 |p::l,T,b,st,hc,hs,hb,Bx,h=>by
  have pd:=List.pairwise_append.1 hs;have hp:∀ c∈T,H.fw (pt p-pt c):=λc uL=>pd.2.2 c uL p (aT ..);have mem:∀ x,x∈p::T↔x∈T++[p]:=λx=>by simp[or_comm]
  have h1:=eM.pop hn (hc.sub (T:=p::T) λx hx=>by
   rcases cy.1 hx with rfl|hx
   ·exact dY.2 (.inr (aT ..))
   ·exact dY.2 (.inl hx)) hp (xw.total pd.1) h (.inl Bx)
  obtain⟨x,e7,hx⟩:=aBx (n:=n) (pt:=pt) p b st;rw[hx]at h1;have e:T++[p]++l=T++p::l:=by simp
  obtain⟨y,st2,hf,xx,Ur,hl⟩:=aBy hn l (T++[p]) p (x::e7) (by rw[e];exact hc) (by rw[e];exact hs) s_
   (λc dy FE=>by
    rcases dY.1 dy with dy|dy
    ·exact hp c dy
    ·exact absurd (KH.1 dy) FE) (eM.congr mem h1)
  refine⟨y,st2,?_,by rw[<-e];exact xx,by rw[<-e];exact Ur,?_⟩
  ·rw[vl,hx];exact hf
  ·rw[<-hl];cases l with
   |nil=>rfl
   |cons z l=>rw[OM,List.getLast?_eq_some_getLast (l:=z::l) s_];rfl
theorem aBz(hn:n≠0){l:List ι}{a:ι}(hc:Conv n pt (a::l))(hs:xw pt H (a::l)):
  ∃ x st,half n pt (a::l)=x::st/\eM n pt H (a::l) (x::st)/\(∀ c∈a::l,c≠x->H.fw (pt x-pt c))/\(l.getLast?).getD a=x:=by
 have pd:=r8.1 hs
 exact aBy hn l [a] a [] (by exact hc) (by exact hs) (aT ..)
  (λc dy gT=>absurd (KH.1 dy) gT) ⟨aT ..,λc dy gT=>absurd (KH.1 dy) gT⟩
def qe(R:ι->ι->Prop):List ι->Prop
 |[]=>True
 |[_]=>True
 |a::b::l=>R a b/\qe R (b::l)
theorem Us{R:ι->ι->Prop}:∀{l:List ι} {a:ι} {m:List ι},qe R (l++[a])->qe R (a::m)->qe R (l++a::m)
 |[],a,m,_,h=>h
 |[x],a,m,h1,h=>⟨h1.1,h⟩
 |x::y::l,a,m,h1,h=>⟨h1.1,Us (l:=y::l) h1.2 h⟩
theorem aBA{R:ι->ι->Prop}:∀{l:List ι} {a b:ι},qe R (l++[a])->R a b->qe R (l++[a,b])
 |[],a,b,_,h=>⟨h,trivial⟩
 |[x],a,b,h1,h=>⟨h1.1,h,trivial⟩
 |x::y::l,a,b,h1,h=>⟨h1.1,aBA (l:=y::l) h1.2 h⟩
theorem eM.steps{T:List ι}:∀{st:List ι},eM n pt H T st->qe (λa b=>oV n pt T a b/\H.fw (pt b-pt a)) st.reverse
 |[a],_=>trivial
 |b::a::st,h=>by have ih:=eM.steps h.2.2.2;rw[vM]at ih ⊢;rw[vM,Ey];exact aBA ih ⟨h.2.2.1,h.2.1⟩
theorem qe.imp{R R':ι->ι->Prop}(h:∀ a b,R a b->R' a b):∀{l:List ι},qe R l->qe R' l
 |[],_=>trivial
 |[_],_=>trivial
 |_::b::l,hs=>⟨h _ _ hs.1,qe.imp h (l:=b::l) hs.2⟩
def order(n:V3 F)(pt:ι->V3 F)(l:List ι):List ι:=(half n pt l).tail.reverse++(half n pt l.reverse).tail.reverse
theorem aKR(hn:n≠0){S:List ι}(hc:Conv n pt S){c:ι}(KI:c∈S):∀{l:List ι} {a b:ι},(∀ x∈a::l,x∈S)->c∉a::l->
  qe (λa b=>oV n pt S a b) (a::l)->(a::l).getLast?=some b->a=b\/0<tr n (pt a-pt c) (pt b-pt c):=by
 obtain⟨m,hm⟩:=hc.xu c KI;intro l;induction l with
 |nil=>intro a b _ _ _ h;left;simpa using h
 |cons x l ih=>
  intro a b hS y8 bJ vx;right;have KG:c∉x::l:=λh=>y8 (bB _ h);have gT:c≠a:=λh=>y8 (h▸aT ..);have aBB:c≠x:=λh=>KG (h▸aT ..);have h1:0<tr n (pt a-pt c) (pt x-pt c):=by have:=bJ.1 c KI gT aBB;rw[<-Ul]at this;exact this
  have aBC:(x::l).getLast?=some b:=by rw[OM]at vx;exact vx
  have hb:b∈x::l:=List.mem_of_getLast? aBC;have aS:=hS a (aT ..);have xS:=hS x (bB _ (aT ..));have bS:=hS b (bB _ hb);have neg:∀ y∈S,c≠y->0<dot (-m) (pt y-pt c):=by intro y hy Uq;rw[Bt,k9,OF.neg_sub];exact OF.sub_pos.2 (hm y hy (mA Uq))
  rcases ih (λy hy=>hS y (bB _ hy)) KG bJ.2 aBC with rfl|h2
  ·exact h1
  ·exact aKL n hn (hc.qd c KI a aS) (hc.qd c KI x xS) (hc.qd c KI b bS) (neg a aS gT) (neg x xS aBB) (neg b bS (λh=>KG (h▸hb))) h1 h2
theorem aKS(l:List ι)(a:ι):(l++[a]).getLast?=some a:=by simp
theorem aBD{S:List ι}(hS:∀ a∈S,∀ b∈S,pt a=pt b->a=b){a b c:ι}(hb:b∈S)(hc:c∈S)(bZ:b≠a)(OL:c≠a)(h1:oV n pt S a b)(h2:oV n pt S a c):b=c:=by apply hZ;intro zn;have k1:=h1 c hc OL (mA zn);have k2:=h2 b hb bZ zn;rw[aBu]at k2;exact OF.lt_irrefl _ (OF.lt_trans k1 (neg_pos.1 k2))
theorem Ut{T:List ι}:∀{st:List ι},eM n pt H T st->st.Pairwise λa b=>H.fw (pt a-pt b)
 |[_],_=>aBE ..
 |b::a::st,h=>r8.2 ⟨eM.below h,Ut h.2.2.2⟩
theorem aKT(hn:n≠0){l:List ι}{a b:ι}(hc:Conv n pt (a::b::l))(hs:xw pt H (a::b::l)):
  ∃ m,order n pt (a::b::l)=a::m/\(a::m).Nodup/\(∀ x,x∈a::m↔x∈a::b::l)/\qe (λx y=>oV n pt (a::b::l) x y) (a::m++[a]):=by
 generalize hS:a::b::l=S at *
 -- the way there
 obtain⟨z,st,hh,xx,Bx,hz⟩:=aBz (H:=H) hn (l:=b::l) (a:=a) (hS▸hc) (hS▸hs);rw[hS]at hh xx Bx
 -- the list from Uu end on,and the opposite half
 have aKU:∃ w t,S.reverse=w::t:=by
  cases h:S.reverse with
  |nil=>rw[aBF]at h;rw[<-hS]at h;cases h
  |cons w t=>exact⟨w,t,rfl⟩
 obtain⟨w,t,OP⟩:=aKU;have zo:∀ x,x∈w::t↔x∈S:=λx=>by rw[<-OP];exact KJ
 have RC:xw pt H.opp (w::t):=by rw[<-OP];unfold xw at *;rw[aBG];refine hs.imp ?_;intro x y h;show H.fw (-(pt x-pt y));rw[<-Di];exact h
 have hcr:Conv n pt (w::t):=hc.sub λx hx=>(zo x).1 hx;obtain⟨z',e7,Bz,Dj,aKV,nT⟩:=aBz (H:=H.opp) hn hcr RC;have aS:a∈S:=by rw[<-hS];exact aT ..
 have bS:b∈S:=by rw[<-hS];exact bB _ (aT ..)
 have Uv:∀ c∈S,c≠a->H.fw (pt c-pt a):=by intro c dy gT;rw[<-hS]at dy hs;exact(r8.1 hs).1 c ((cy.1 dy).resolve_left gT)
 -- the ends of both aKW
 have hza:z'=a:=by
  apply hZ;intro aU;have h1:=aKV a ((zo a).2 aS) (mA aU);have h2:=Uv z' ((zo z').1 (eM.mem Dj z' (aT ..))) aU;have pM:H.fw (pt a-pt z'):=by rw[Di (pt z') (pt a)];exact h1
  exact iQ.H2 h2 pM
 subst hza;obtain⟨a1,eA,aKX,aKY⟩:=eM.least xx;have hra:a1=z':=by apply hZ;intro aU;exact iQ.H2 (Uv a1 aKX aU) (aKY z' aS (mA aU))
 rw[hra]at eA;obtain⟨w1,FF,aKZ,aK0⟩:=eM.least Dj;have zS:z∈S:=eM.mem xx z (aT ..);have hwz:w1=z:=by
  apply hZ;intro aU;have h1:=Bx w1 ((zo w1).1 aKZ) aU;have h2:=aK0 z ((zo z).2 zS) (mA aU);have vB:H.fw (pt w1-pt z):=by rw[Di (pt z) (pt w1)];exact h2
  exact iQ.H2 h1 vB
 rw[hwz]at FF;have haz:z'≠z:=by
  rintro rfl
  rcases Classical.em (b=z')with rfl|xy
  ·rw[<-hS]at hs;exact iQ.ne ((r8.1 hs).1 b (aT ..)) rfl
  ·exact iQ.H2 (Uv b bS xy) (Bx b bS xy)
 -- the pieces
 have aK1:∃ u,st.reverse=z'::u:=by
  cases st with
  |nil=>simp at eA;exact absurd eA.symm haz
  |cons x st=>
   rw[OM]at eA;cases h:(x::st).reverse with
   |nil=>rw[aBF]at h;cases h
   |cons q u=>
    have:(x::st)=(q::u).reverse:=by rw[<-h,List.reverse_reverse]
    rw[this,vM,List.getLast?_append,List.getLast?_singleton]at eA;simp at eA;exact⟨u,by rw[eA]⟩
 have aK2:∃ u,e7.reverse=z::u:=by
  cases e7 with
  |nil=>simp at FF;exact absurd FF haz
  |cons x e7=>
   rw[OM]at FF;cases h:(x::e7).reverse with
   |nil=>rw[aBF]at h;cases h
   |cons q u=>
    have:(x::e7)=(q::u).reverse:=by rw[<-h,List.reverse_reverse]
    rw[this,vM,List.getLast?_append,List.getLast?_singleton]at FF;simp at FF;exact⟨u,by rw[FF]⟩
 obtain⟨u,hu⟩:=aK1;obtain⟨u',jM⟩:=aK2;have aK3:order n pt S=z'::(u++z::u'):=by unfold order;rw[hh,OP,Bz];simp only[List.tail_cons];rw[hu,jM];rfl
 refine⟨u++z::u',aK3,?_,?_,?_⟩
 case refine_3=>
  have s1:=(eM.steps xx).imp (R':=λx y=>oV n pt S x y) λx y h=>h.1;have s2:=(eM.steps Dj).imp (R':=λx y=>oV n pt S x y) λx y h c dy=>h.1 c ((zo c).2 dy);rw[vM,hu]at s1;rw[vM,jM]at s2;have:=Us (l:=z'::u) (a:=z) (m:=u'++[z']) s1 s2;simpa using this
 case refine_2=>
  have sub:∀ x,x∈z'::(u++z::u')->x∈S:=by
   intro x hx;have:x∈z'::u\/x∈z::u':=by
    rcases cy.1 hx with h|h
    ·exact .inl (h▸aT ..)
    ·rcases dY.1 h with h|h
     ·exact .inl (bB _ h)
     ·exact .inr h
   rcases this with h|h
   ·rw[<-hu,KJ]at h;exact eM.mem xx x (bB _ h)
   ·rw[<-jM,KJ]at h;exact(zo x).1 (eM.mem Dj x (bB _ h))
  intro x;refine⟨sub x,λhx=>?_⟩;apply hZ;intro gF;have s1:=(eM.steps xx).imp (R':=λx y=>oV n pt S x y) λx y h=>h.1;have s2:=(eM.steps Dj).imp (R':=λx y=>oV n pt S x y) λx y h c dy=>h.1 c ((zo c).2 dy);rw[vM,hu]at s1;rw[vM,jM]at s2;have s3:=Us (l:=z'::u) (a:=z) (m:=u'++[z']) s1 s2;have kK:z'≠x:=λh=>gF (h▸aT ..)
  -- the first step,then the rest back to Uu start
  have aK4:∃ y v,u++z::(u'++[z'])=y::v:=by
   cases u with
   |nil=>exact⟨z,_,rfl⟩
   |cons y u=>exact⟨y,_,rfl⟩
  obtain⟨y,v,Jj⟩:=aK4;have s3':qe (λx y=>oV n pt S x y) (z'::y::v):=by rw[<-Jj];exact s3
  have ba:∀ q∈y::v,q=z'\/q∈z'::(u++z::u'):=by
   intro q hq;rw[<-Jj]at hq;have:q∈u++z::u'\/q=z':=by simpa[or_assoc]using hq
   rcases this with h|h
   ·exact .inr (bB _ h)
   ·exact .inl h
  have JX:x∉y::v:=λh=>by
   rcases ba x h with h|h
   ·exact kK h.symm
   ·exact gF h
  have hyS:∀ q∈y::v,q∈S:=λq hq=>by
   rcases ba q hq with h|h
   ·rw[h];exact aS
   ·exact sub q h
  have vx:(y::v).getLast?=some z':=by rw[<-Jj,show u++z::(u'++[z'])=(u++z::u')++[z']by simp];exact aKS _ _
  have hyx:x≠y:=λh=>JX (h▸aT ..);have h1:0<tr n (pt z'-pt x) (pt y-pt x):=by have:=s3'.1 x hx (mA kK) hyx;rw[<-Ul]at this;exact this
  rcases aKR hn hc hx hyS JX s3'.2 vx with h2|h2
  ·rw[h2,aKK]at h1;exact OF.lt_irrefl _ h1
  ·rw[OJ]at h2;exact OF.lt_irrefl _ (OF.lt_trans h1 (neg_pos.1 h2))
 case refine_1=>
  have d1:=Ut xx;have d2:=Ut Dj;have e1:(z'::u).Pairwise λa b=>H.fw (pt b-pt a):=by rw[<-hu,aBG];exact(r8.1 d1).2
  have e2:(z::u').Pairwise λa b=>H.fw (pt a-pt b):=by rw[<-jM,aBG];refine(r8.1 d2).2.imp ?_;intro x y h;rw[Di (pt x) (pt y)];exact h
  have inj:∀ x∈S,∀ y∈S,pt x=pt y->x=y:=by
   intro x hx y hy kk;apply hZ;intro aU;rcases xw.total hs y hy x hx aU with h|h
   ·exact iQ.ne h kk.symm
   ·exact iQ.ne h kk
  have n1:(z'::u).Nodup:=e1.imp λh=>λe=>iQ.ne h (by rw[e]);have n2:(z::u').Nodup:=e2.imp λh=>λe=>iQ.ne h (by rw[e]);rw[show z'::(u++z::u')=(z'::u)++(z::u')from rfl,List.nodup_append];refine⟨n1,n2,?_⟩;intro x hx y hy kk;subst kk
  -- x aKQ on both aKW: Uu aUN differ
  have aK5:∀{l:List ι} {e x:ι},qe (λa b=>oV n pt S a b/\H.fw (pt b-pt a)) (l++[e])->x∈l->∃ y∈l++[e],oV n pt S x y/\H.fw (pt y-pt x):=by
   intro l;induction l with
   |nil=>intro e x _ h;cases h
   |cons p l ih=>
    intro e x bJ hx;cases l with
    |nil=>
     rcases cy.1 hx with rfl|h
     ·exact⟨e,by simp,bJ.1⟩
     ·cases h
    |cons q l=>
     rcases cy.1 hx with rfl|h
     ·exact⟨q,by simp,bJ.1⟩
     ·obtain⟨y,hy,h2⟩:=ih (e:=e) bJ.2 h;exact⟨y,bB _ hy,h2⟩
  have s1:=eM.steps xx;rw[vM,hu]at s1;obtain⟨y1,hy1,u7,fv⟩:=aK5 s1 hx;have y1S:y1∈S:=by rw[<-hu,<-vM,KJ]at hy1;exact eM.mem xx y1 hy1
  have s2:=(eM.steps Dj).imp (R':=λx y=>oV n pt S x y/\H.fw (pt x-pt y)) λx y h=>⟨λc dy=>h.1 c ((zo c).2 dy),by have:H.fw (-(pt y-pt x)):=h.2;rwa[<-Di]at this⟩
  rw[vM,jM]at s2;have aK6:∀{l:List ι} {e x:ι},qe (λa b=>oV n pt S a b/\H.fw (pt a-pt b)) (l++[e])->x∈l->∃ y∈l++[e],oV n pt S x y/\H.fw (pt x-pt y):=by
   intro l;induction l with
   |nil=>intro e x _ h;cases h
   |cons p l ih=>
    intro e x bJ hx;cases l with
    |nil=>
     rcases cy.1 hx with rfl|h
     ·exact⟨e,by simp,bJ.1⟩
     ·cases h
    |cons q l=>
     rcases cy.1 hx with rfl|h
     ·exact⟨q,by simp,bJ.1⟩
     ·obtain⟨y,hy,h2⟩:=ih (e:=e) bJ.2 h;exact⟨y,bB _ hy,h2⟩
  obtain⟨y2,uN,jw,iG⟩:=aK6 s2 hy;have y2S:y2∈S:=by rw[<-jM,<-vM,KJ]at uN;exact(zo y2).1 (eM.mem Dj y2 uN)
  have:=aBD inj y1S y2S (λe=>iQ.ne fv (by rw[e])) (λe=>iQ.ne iG (by rw[e])) u7 jw;subst this;exact iQ.H2 fv iG
end
section
variable{F:Type}[OF F]
def zp(v:V3 F):Prop:=0<v.x\/(v.x=0/\(0<v.y\/(v.y=0/\0<v.z)))
theorem aK7(v:V3 F)(k:F):(smul v k).x=v.x*k:=rfl
theorem aK8(v:V3 F)(k:F):(smul v k).y=v.y*k:=rfl
theorem aK9(v:V3 F)(k:F):(smul v k).z=v.z*k:=rfl
theorem aLa(u v:V3 F):(u+v).x=u.x+v.x:=rfl
theorem aLb(u v:V3 F):(u+v).y=u.y+v.y:=rfl
theorem aLc(u v:V3 F):(u+v).z=u.z+v.z:=rfl
theorem aLd(u:V3 F):(-u).x=-u.x:=rfl
theorem aLe(u:V3 F):(-u).y=-u.y:=rfl
theorem aLf(u:V3 F):(-u).z=-u.z:=rfl
def aBH:iQ F where
 fw:=zp
 add {x y} hx hy:=by
  unfold zp at *;rw[aLa,aLb,aLc];rcases hx with hx|⟨hx,gN|⟨gN,KK⟩⟩<;>rcases hy with hy|⟨hy,uN|⟨uN,Uw⟩⟩
  ·exact .inl (add_pos hx hy)
  ·exact .inl (by rw[hy,CR.add_zero];exact hx)
  ·exact .inl (by rw[hy,CR.add_zero];exact hx)
  ·exact .inl (by rw[hx,CR.zero_add];exact hy)
  ·exact .inr ⟨by rw[hx,hy,CR.add_zero],.inl (add_pos gN uN)⟩
  ·exact .inr ⟨by rw[hx,hy,CR.add_zero],.inl (by rw[uN,CR.add_zero];exact gN)⟩
  ·exact .inl (by rw[hx,CR.zero_add];exact hy)
  ·exact .inr ⟨by rw[hx,hy,CR.add_zero],.inl (by rw[gN,CR.zero_add];exact uN)⟩
  ·exact .inr ⟨by rw[hx,hy,CR.add_zero],.inr ⟨by rw[gN,uN,CR.add_zero],add_pos KK Uw⟩⟩
 mul {x k} hx hk:=by
  unfold zp at *;rw[aK7,aK8,aK9];rcases hx with hx|⟨hx,gN|⟨gN,KK⟩⟩
  ·exact .inl (mul_pos hx hk)
  ·exact .inr ⟨by rw[hx,CR.zero_mul],.inl (mul_pos gN hk)⟩
  ·exact .inr ⟨by rw[hx,CR.zero_mul],.inr ⟨by rw[gN,CR.zero_mul],mul_pos KK hk⟩⟩
 asymm {x} hx hy:=by
  unfold zp at *;rw[aLd,aLe,aLf]at hy;have no:∀ a:F,0<a->0 < -a->False:=λa h k=>OF.lt_irrefl _ (OF.lt_trans h (neg_pos.1 k));have nz:∀ a:F,0<a->-a=0->False:=λa h k=>by rw[<-CR.neg_neg a,k,CR.neg_zero]at h;exact OF.lt_irrefl _ h
  have Ux:∀ a:F,a=0->0 < -a->False:=λa h k=>by rw[h,CR.neg_zero]at k;exact OF.lt_irrefl _ k
  rcases hx with hx|⟨hx,gN|⟨gN,KK⟩⟩<;>rcases hy with hy|⟨hy,uN|⟨uN,Uw⟩⟩
  ·exact no _ hx hy
  ·exact nz _ hx hy
  ·exact nz _ hx hy
  ·exact Ux _ hx hy
  ·exact no _ gN uN
  ·exact nz _ gN uN
  ·exact Ux _ hx hy
  ·exact Ux _ gN uN
  ·exact no _ KK Uw
theorem aLg{a b:V3 F}(h:a≠b):zp (b-a)\/zp (a-b):=by
 unfold zp;show(0<b.x-a.x\/(b.x-a.x=0/\(0<b.y-a.y\/(b.y-a.y=0/\0<b.z-a.z))))\/(0<a.x-b.x\/(a.x-b.x=0/\(0<a.y-b.y\/(a.y-b.y=0/\0<a.z-b.z))));simp only[OF.sub_pos,OF.sub_eq_zero];rcases OF.lt_trichotomy a.x b.x with hx|hx|hx
 ·exact .inl (.inl hx)
 ·rcases OF.lt_trichotomy a.y b.y with hy|hy|hy
  ·exact .inl (.inr ⟨hx.symm,.inl hy⟩)
  ·rcases OF.lt_trichotomy a.z b.z with hz|hz|hz
   ·exact .inl (.inr ⟨hx.symm,.inr ⟨hy.symm,hz⟩⟩)
   ·exact absurd (V3.ext hx hy hz) h
   ·exact .inr (.inr ⟨hx,.inr ⟨hy,hz⟩⟩)
  ·exact .inr (.inr ⟨hx,.inl hy⟩)
 ·exact .inr (.inl hx)
theorem kL.xu{ps:List (HS F)}{c:V3 F}(h:kL ps c):∃ m:V3 F,∀ w,gH ps w->w≠c->dot m w<dot m c:=by
 obtain⟨_,p,hp,q,hq,r,hr,hd,tp,tq,tr⟩:=h;refine⟨p.n+q.n+r.n,λw hw aU=>?_⟩;rw[OC,OC,OC,OC,show dot p.n c=p.d from tp,show dot q.n c=q.d from tq,show dot r.n c=r.d from tr];rcases OF.pr (hw p hp)with h1|h1
 ·exact add_lt_add_of_lt_of_le (add_lt_add_of_lt_of_le h1 (hw q hq)) (hw r hr)
 ·rcases OF.pr (hw q hq)with h2|h2
  ·exact add_lt_add_of_lt_of_le (add_lt_add_of_le_of_lt (hw p hp) h2) (hw r hr)
  ·rcases OF.pr (hw r hr)with h3|h3
   ·exact add_lt_add_of_le_of_lt (OF.add_le_add (hw p hp) (hw q hq)) h3
   ·refine absurd (V3.sub_eq_zero.1 (H0 hd ?_ ?_ ?_)) aU
    ·rw[k9,h1,show dot p.n c=p.d from tp,OF.sub_self]
    ·rw[k9,h2,show dot q.n c=q.d from tq,OF.sub_self]
    ·rw[k9,h3,show dot r.n c=r.d from tr,OF.sub_self]
theorem aLh{ps:List (HS F)}{p:HS F}{ι:Type}{pt:ι->V3 F}{S:List ι}(hS:∀ i∈S,kL ps (pt i)/\dR p (pt i))
  (Uy:∀ i∈S,∀ j∈S,pt i=pt j->i=j):Conv p.n pt S where
 qd a ha b hb:=by rw[k9,show dot p.n (pt a)=p.d from(hS a ha).2,show dot p.n (pt b)=p.d from(hS b hb).2,OF.sub_self]
 xu c hc:=by obtain⟨m,hm⟩:=(hS c hc).1.xu;exact⟨m,λw hw aU=>hm _ (hS w hw).1.1 λe=>aU (Uy w hw c hc e)⟩
structure eO(F:Type) where
 lo:Option F
 hi:Option F
def BB(s:eO F)(a b:F):Option (eO F):=
 if az a=0 then(if 0<=b then some s else none)
 else
  let t:=b*a⁻¹
  let s':eO F:=
   if 0<a then(match s.hi with|some h=>if t<h then⟨s.lo,some t⟩else s|none=>⟨s.lo,some t⟩)
   else(match s.lo with|some l=>if l<t then⟨some t,s.hi⟩else s|none=>⟨some t,s.hi⟩)
  match s'.lo,s'.hi with
  |some l,some h=>if l<h then some s' else none
  |_,_=>some s'
def eO.Sat(s:eO F)(t:F):Prop:=(∀ l,s.lo=some l->l<=t)/\(∀ h,s.hi=some h->t<=h)
def eO.Open(s:eO F):Prop:=∀ l h,s.lo=some l->s.hi=some h->l<h
theorem aLi(s:eO F)(a b:F):
  (∀ s',BB s a b=some s'->(s.Open->s'.Open)/\(∀ t,s'.Sat t↔s.Sat t/\a*t<=b)/\(∀ l,s'.lo=some l->s.lo=some l\/(a<0/\a*l=b))/\(∀ h,s'.hi=some h->s.hi=some h\/(0<a/\a*h=b)))/\
  (BB s a b=none->∀ t1 t2,s.Sat t1->a*t1<=b->s.Sat t2->a*t2<=b->t1<t2->False):=by
 unfold BB;by_cases ha:az a=0
 ·rw[aw ha];have iW:=(eZ a).1 ha;by_cases hb:0<=b
  ·rw[aw hb];refine⟨λs' h=>?_,λh=>by cases h⟩;injection h with h;subst h;exact⟨id,λt=>⟨λh=>⟨h,by rw[iW,CR.zero_mul];exact hb⟩,λh=>h.1⟩,λl h=>.inl h,λl h=>.inl h⟩
  ·rw[ao hb];refine⟨λs' h=>(by cases h),λ_ t1 t2 _ h1 _ _ _=>hb ?_⟩;rw[iW,CR.zero_mul]at h1;exact h1
 ·rw[ao ha];have iW:a≠0:=λe=>ha ((eZ a).2 e);have e:a*(b*a⁻¹)=b:=by rw[CR.mul_left_comm,lI _ iW,CR.mul_one]
  generalize b*a⁻¹=t0 at e;dsimp only
  -- the new part,and what it says
  have key:∃ s':eO F,(if 0<a then(match s.hi with|some h=>if t0<h then⟨s.lo,some t0⟩else s|none=>⟨s.lo,some t0⟩)
    else(match s.lo with|some l=>if l<t0 then⟨some t0,s.hi⟩else s|none=>⟨some t0,s.hi⟩):eO F)=s'/\(∀ t,s'.Sat t↔s.Sat t/\a*t<=b)/\(∀ l,s'.lo=some l->s.lo=some l\/(a<0/\a*l=b))/\(∀ h,s'.hi=some h->s.hi=some h\/(0<a/\a*h=b)):=by
   by_cases hp:0<a
   ·rw[aw hp];have le:∀ t,a*t<=b↔t<=t0:=λt=>by rw[<-e,mul_le_mul_left hp]
    cases hh:s.hi with
    |none=>
     refine⟨_,rfl,λt=>?_,λl h=>.inl h,λh k=>.inr ⟨hp,by injection k with k;rw[<-k];exact e⟩⟩;rw[le];exact⟨λh=>⟨⟨h.1,λx hx=>by rw[hh]at hx;cases hx⟩,h.2 t0 rfl⟩,λh=>⟨h.1.1,λx hx=>by injection hx with hx;rw[<-hx];exact h.2⟩⟩
    |some h0=>
     dsimp only;by_cases al:t0<h0
     ·rw[aw al];refine⟨_,rfl,λt=>?_,λl h=>.inl h,λh k=>.inr ⟨hp,by injection k with k;rw[<-k];exact e⟩⟩;rw[le];exact⟨λh=>⟨⟨h.1,λx hx=>by rw[hh]at hx;injection hx with hx;rw[<-hx];exact OF.le_trans (h.2 t0 rfl) (OF.le_of_lt al)⟩,h.2 t0 rfl⟩,λh=>⟨h.1.1,λx hx=>by injection hx with hx;rw[<-hx];exact h.2⟩⟩
     ·rw[ao al];refine⟨_,rfl,λt=>?_,λl h=>.inl h,λh k=>.inl (hh.symm.trans k)⟩;rw[le];exact⟨λh=>⟨h,OF.le_trans (h.2 h0 hh) (OF.not_lt.1 al)⟩,λh=>h.1⟩
   ·rw[ao hp];have hn:a<0:=by
     rcases OF.pr (OF.not_lt.1 hp)with h|h
     ·exact h
     ·exact absurd h iW
    have le:∀ t,a*t<=b↔t0<=t:=λt=>by rw[<-e,<-mul_le_mul_left (a:=t0) (b:=t) (neg_pos.2 hn),OF.le_def,OF.le_def,show -a*t - -a*t0=a*t0-a*t from k6 a t t0 (λa t u=>-a*t - -a*u) (λa t u=>a*u-a*t) d_]
    cases hh:s.lo with
    |none=>
     refine⟨_,rfl,λt=>?_,λl k=>.inr ⟨hn,by injection k with k;rw[<-k];exact e⟩,λh k=>.inl k⟩;rw[le];exact⟨λh=>⟨⟨λx hx=>(by rw[hh]at hx;cases hx),h.2⟩,h.1 t0 rfl⟩,λh=>⟨λx hx=>by injection hx with hx;rw[<-hx];exact h.2,h.1.2⟩⟩
    |some h0=>
     dsimp only;by_cases al:h0<t0
     ·rw[aw al];refine⟨_,rfl,λt=>?_,λl k=>.inr ⟨hn,by injection k with k;rw[<-k];exact e⟩,λh k=>.inl k⟩;rw[le];exact⟨λh=>⟨⟨λx hx=>by rw[hh]at hx;injection hx with hx;rw[<-hx];exact OF.le_trans (OF.le_of_lt al) (h.1 t0 rfl),h.2⟩,h.1 t0 rfl⟩,λh=>⟨λx hx=>by injection hx with hx;rw[<-hx];exact h.2,h.1.2⟩⟩
     ·rw[ao al];refine⟨_,rfl,λt=>?_,λl h=>.inl (hh.symm.trans h),λh k=>.inl k⟩;rw[le];exact⟨λh=>⟨h,OF.le_trans (OF.not_lt.1 al) (h.1 h0 hh)⟩,λh=>h.1⟩
  obtain⟨s1,wJ,uO,dL,iv⟩:=key;rw[wJ];cases hl:s1.lo with
  |none=>
   refine⟨λs' h=>?_,λh=>by cases h⟩;injection h with h;subst h;exact⟨λ_ l h cg=>(by rw[hl]at cg;cases cg),uO,dL,iv⟩
  |some l=>
   cases hh:s1.hi with
   |none=>
    refine⟨λs' h=>?_,λh=>by cases h⟩;injection h with h;subst h;exact⟨λ_ l h _ Bz=>(by rw[hh]at Bz;cases Bz),uO,dL,iv⟩
   |some h=>
    dsimp only;by_cases al:l<h
    ·rw[aw al];refine⟨λs' h=>?_,λh=>by cases h⟩;injection h with h;subst h;refine⟨λ_ l' h' cg Bz=>?_,uO,dL,iv⟩;rw[hl]at cg;rw[hh]at Bz;injection cg with cg;injection Bz with Bz;rw[<-cg,<-Bz];exact al
    ·rw[ao al];refine⟨λs' h=>(by cases h),λ_ t1 t2 h1 k1 h2 k2 Uz=>al ?_⟩;have q1:=((uO t1).2 ⟨h1,k1⟩).1 l hl;have q2:=((uO t2).2 ⟨h2,k2⟩).2 h hh;exact OF.lt_of_le_of_lt q1 (OF.lt_of_lt_of_le Uz q2)
def FG:eO F->List (F×F)->Option (eO F)
 |s,[]=>some s
 |s,x::l=>(BB s x.1 x.2).bind λs'=>FG s' l
theorem UA:∀(l:List (F×F)) (s:eO F),s.Open->
  (∀ s',FG s l=some s'->s'.Open/\(∀ t,s'.Sat t↔s.Sat t/\∀ x∈l,x.1*t<=x.2)/\(∀ t,s'.lo=some t->s.lo=some t\/∃ x∈l,x.1<0/\x.1*t=x.2)/\(∀ t,s'.hi=some t->s.hi=some t\/∃ x∈l,0<x.1/\x.1*t=x.2))/\
  (FG s l=none->∀ t1 t2,s.Sat t1->(∀ x∈l,x.1*t1<=x.2)->s.Sat t2->(∀ x∈l,x.1*t2<=x.2)->t1<t2->False)
 |[],s,ho=>⟨λs' h=>by injection h with h;subst h;exact⟨ho,λt=>⟨λh=>⟨h,λx hx=>by cases hx⟩,λh=>h.1⟩,λt h=>.inl h,λt h=>.inl h⟩,λh=>by cases h⟩
 |x::l,s,ho=>by
  obtain⟨h1,h2⟩:=aLi s x.1 x.2;unfold FG;cases hn:BB s x.1 x.2 with
  |none=>
   refine⟨λs' h=>(by cases h),λ_ t1 t2 a b c d e=>?_⟩;exact h2 hn t1 t2 a (b x (aT ..)) c (d x (aT ..)) e
  |some s1=>
   obtain⟨o1,UB,zq,hi1⟩:=h1 s1 hn;obtain⟨k1,k2⟩:=UA l s1 (o1 ho);refine⟨λs' h=>?_,λh t1 t2 a b c d e=>?_⟩
   ·obtain⟨o2,aLj,vN,R5⟩:=k1 s' h;refine⟨o2,λt=>?_,λt ht=>?_,λt ht=>?_⟩
    ·rw[aLj,UB];constructor
     ·rintro⟨⟨p,q⟩,r⟩
      exact⟨p,λy hy=>by
       rcases cy.1 hy with rfl|hy
       ·exact q
       ·exact r y hy⟩
     ·rintro⟨p,q⟩
      exact⟨⟨p,q x (aT ..)⟩,λy hy=>q y (bB _ hy)⟩
    ·rcases vN t ht with h|⟨y,hy,h⟩
     ·rcases zq t h with h|h
      ·exact .inl h
      ·exact .inr ⟨x,aT ..,h⟩
     ·exact .inr ⟨y,bB _ hy,h⟩
    ·rcases R5 t ht with h|⟨y,hy,h⟩
     ·rcases hi1 t h with h|h
      ·exact .inl h
      ·exact .inr ⟨x,aT ..,h⟩
     ·exact .inr ⟨y,bB _ hy,h⟩
   ·exact k2 h t1 t2 ((UB t1).2 ⟨a,b x (aT ..)⟩) (λy hy=>b y (bB _ hy)) ((UB t2).2 ⟨c,d x (aT ..)⟩) (λy hy=>d y (bB _ hy)) e
end
section
variable{F:Type}[OF F]
def mh(p q:HS F):V3 F:=
 let d:=ax p.n q.n
 smul (smul (ax q.n d) p.d+smul (ax d p.n) q.d) (dot d d)⁻¹
theorem aBI{p q:HS F}(h:ax p.n q.n≠0):dR p (mh p q):=by
 unfold dR mh;dsimp only;have e:dot p.n (smul (ax q.n (ax p.n q.n)) p.d+smul (ax (ax p.n q.n) p.n) q.d)=p.d*dot (ax p.n q.n) (ax p.n q.n):=
  ring [p.n,q.n] [p.d,q.d] (λV S=>dot (V 0) (smul (ax (V 1) (ax (V 0) (V 1))) (S 0)+smul (ax (ax (V 0) (V 1)) (V 0)) (S 1))) (λV S=>S 0*dot (ax (V 0) (V 1)) (ax (V 0) (V 1))) d_
 rw[iZ,e,CR.mul_assoc,lI _ (Bu h),CR.mul_one]
theorem aBJ{p q:HS F}(h:ax p.n q.n≠0):dR q (mh p q):=by
 unfold dR mh;dsimp only;have e:dot q.n (smul (ax q.n (ax p.n q.n)) p.d+smul (ax (ax p.n q.n) p.n) q.d)=q.d*dot (ax p.n q.n) (ax p.n q.n):=
  ring [p.n,q.n] [p.d,q.d] (λV S=>dot (V 1) (smul (ax (V 1) (ax (V 0) (V 1))) (S 0)+smul (ax (ax (V 0) (V 1)) (V 0)) (S 1))) (λV S=>S 1*dot (ax (V 0) (V 1)) (ax (V 0) (V 1))) d_
 rw[iZ,e,CR.mul_assoc,lI _ (Bu h),CR.mul_one]
def zr(ps:List (HS F))(p q:HS F):Option (V3 F×V3 F):=
 let d:=ax p.n q.n
 if az d.x=0/\az d.y=0/\az d.z=0 then none
 else match FG ⟨none,none⟩ (ps.map λr=>(dot r.n d,r.d-dot r.n (mh p q)))with
  |some ⟨some lo,some hi⟩=>some (mh p q+smul d lo,mh p q+smul d hi)
  |_=>none
theorem OQ(d:V3 F):(az d.x=0/\az d.y=0/\az d.z=0)↔d=0:=by rw[eZ,eZ,eZ];exact⟨λh=>V3.ext h.1 h.2.1 h.2.2,λh=>by subst h;exact⟨rfl,rfl,rfl⟩⟩
theorem OR{ps:List (HS F)}{b d:V3 F}{t:F}:gH ps (b+smul d t)↔∀ x∈ps.map λr=>(dot r.n d,r.d-dot r.n b),x.1*t<=x.2:=by
 constructor
 ·intro h x hx;obtain⟨r,hr,rfl⟩:=di.1 hx;have:=h r hr;rw[k8,iZ]at this;dsimp only;rw[<-add_le_add_left (dot r.n b),show dot r.n b+(r.d-dot r.n b)=r.d from ko (dot r.n b) r.d (λa d=>a+(d-a)) (λ_ d=>d) d_];exact this
 ·intro h r hr;have:=h _ (di.2 ⟨r,hr,rfl⟩);dsimp only at this;rw[<-add_le_add_left (dot r.n b),show dot r.n b+(r.d-dot r.n b)=r.d from ko (dot r.n b) r.d (λa d=>a+(d-a)) (λ_ d=>d) d_]at this;rw[k8,iZ];exact this
theorem aBK:(⟨none,none⟩:eO F).Open:=λl h hl _=>by cases hl
theorem KL(t:F):(⟨none,none⟩:eO F).Sat t:=⟨λl h=>(by cases h),λl h=>(by cases h)⟩
theorem aLk{ps:List (HS F)}{p q:HS F}(hp:p∈ps)(hq:q∈ps){u v:V3 F}(h:zr ps p q=some (u,v)):kL ps u/\kL ps v:=by
 unfold zr at h;dsimp only at h;split at h
 ·cases h
 ·rename_i hd;rw[OQ]at hd;have tp:=aBI hd;have tq:=aBJ hd;generalize mh p q=b at *;split at h
  ·rename_i lo hi hn;injection h with h;injection h with h1 h2;obtain⟨ho,uO,dL,iv⟩:=(UA _ _ aBK).1 _ hn;have al:=ho lo hi rfl rfl
   -- a KM of the line on a OH aLl it
   have fin:∀ t:F,lo<=t->t<=hi->(∃ x∈ps.map λr=>(dot r.n (ax p.n q.n),r.d-dot r.n b),x.1≠0/\x.1*t=x.2)->kL ps (b+smul (ax p.n q.n) t):=by
    rintro t h1 h2 ⟨x,hx,kK,zk⟩
    obtain⟨r,hr,rfl⟩:=di.1 hx;refine⟨?_,p,hp,q,hq,r,hr,?_,?_,?_,?_⟩
    ·rw[OR];exact((uO t).1 ⟨λl hl=>by injection hl with hl;rw[<-hl];exact h1,λl hl=>by injection hl with hl;rw[<-hl];exact h2⟩).2
    ·intro e;rw[<-OD]at e;exact kK e
    ·unfold dR at *;rw[k8,iZ,FA,CR.zero_mul,CR.add_zero,tp]
    ·unfold dR at *;rw[k8,iZ,Dg,CR.zero_mul,CR.add_zero,tq]
    ·unfold dR;rw[k8,iZ];dsimp only at zk;rw[zk];exact ko (dot r.n b) r.d (λa d=>a+(d-a)) (λ_ d=>d) d_
   rw[<-h1,<-h2];constructor
   ·rcases dL lo rfl with k|⟨x,hx,kK,zk⟩
    ·cases k
    ·exact fin lo (OF.le_refl _) (OF.le_of_lt al) ⟨x,hx,OF.ne_of_lt kK,zk⟩
   ·rcases iv hi rfl with k|⟨x,hx,kK,zk⟩
    ·cases k
    ·exact fin hi (OF.le_of_lt al) (OF.le_refl _) ⟨x,hx,OF.ne_of_gt kK,zk⟩
  ·cases h
theorem aLm{ps:List (HS F)}(hc:Cl ps)(hp:gp ps){v x:V3 F}(hv:kL ps v)(hx:gH ps x)(aU:x≠v):
  ∃ p∈ps,∃ q∈ps,ax p.n q.n≠0/\(∃ u w,zr ps p q=some (u,w)/\(v=u\/v=w))/\(∃ u w,zr ps q p=some (u,w)/\(v=u\/v=w)):=by
 obtain⟨p,gZ,q,uC,tp,tq,hd,ba⟩:=aKI hp hv hx aU
 -- one order;c=d or c=-d is the direction aUO the aUP
 have one:∀ p q:HS F,p∈ps->q∈ps->dR p v->dR q v->ax p.n q.n≠0->∀ c:V3 F,(c=ax p.n q.n\/c=-ax p.n q.n)->(∀ r∈ps,dR r v->dot r.n c<=0)->
   ∃ u w,zr ps p q=some (u,w)/\(v=u\/v=w):=by
  intro p q gZ uC tp tq hd c UC ba;have pP:c≠0:=by
   rcases UC with rfl|rfl
   ·exact hd
   ·exact λe=>hd (neg_eq_zero.1 e)
  have bp:=aBI hd;have bq:=aBJ hd
  -- v on the line
  have OS:dot p.n (v-mh p q)=0/\dot q.n (v-mh p q)=0:=by unfold dR at *;rw[k9,k9,tp,tq,bp,bq,OF.sub_self,OF.sub_self];exact⟨rfl,rfl⟩
  obtain⟨t0,vO⟩:∃ t0,v=mh p q+smul (ax p.n q.n) t0:=
   ⟨_,by rw[<-aBp hd OS.1 OS.2,V3.add_sub_cancel]⟩
  -- a aUQ KM of the line
  obtain⟨e,he,⟨r,hr,oh,FD⟩,ct⟩:=yw hv.1 (hc.bounds hp pP);have aBL:0<e:=by
   rcases OF.pr he with h|h
   ·exact h
   ·rw[<-h,smul_zero,V3.add_zero]at FD;exact absurd (OF.lt_of_lt_of_le oh (ba r hr FD)) (OF.lt_irrefl _)
  -- a OH at v aLl the line
  have aBM:=hv.1;obtain⟨_,a1,eA,a2,hJ,a3,Fq,aLn,t1,t2,t3⟩:=hv;obtain⟨s,hs,ts,UD⟩:∃ s∈ps,dR s v/\dot s.n c<0:=by
   apply hZ;intro gF;have z:∀ a∈ps,dR a v->dot a.n c=0:=λa ha ta=>by
    rcases OF.pr (ba a ha ta)with h|h
    ·exact(gF ⟨a,ha,ta,h⟩).elim
    ·exact h
   exact pP (H0 aLn (z a1 eA t1) (z a2 hJ t2) (z a3 Fq t3))
  have FC:∀ t:F,v+smul (ax p.n q.n) t=mh p q+smul (ax p.n q.n) (t0+t):=λt=>by rw[vO];exact mN [mh p q,ax p.n q.n] [t0,t] (λV S=>V 0+smul (V 1) (S 0)+smul (V 1) (S 1)) (λV S=>V 0+smul (V 1) (S 0+S 1)) d_
  have aBN:∀ t:F,gH ps (v+smul (ax p.n q.n) t)->∀ x∈ps.map λr=>(dot r.n (ax p.n q.n),r.d-dot r.n (mh p q)),x.1*(t0+t)<=x.2:=λt h=>by rw[FC]at h;exact OR.1 h
  have f0:=aBN 0 (by rw[smul_zero,V3.add_zero];exact aBM);rw[CR.add_zero]at f0
  -- the other KM
  have f1:∃ t1:F,t1≠0/\gH ps (v+smul (ax p.n q.n) t1):=by
   rcases UC with rfl|rfl
   ·exact⟨e,OF.ne_of_gt aBL,ct⟩
   ·refine⟨-e,OF.ne_of_lt (Km.2 aBL),?_⟩;rw[show smul (ax p.n q.n) (-e)=smul (-ax p.n q.n) e from mN [ax p.n q.n] [e] (λV S=>smul (V 0) (-S 0)) (λV S=>smul (-V 0) (S 0)) d_];exact ct
  obtain⟨t1,jO,f1⟩:=f1;have f1:=aBN t1 f1;unfold zr;dsimp only;rw[ao (by rw[OQ];exact hd)];obtain⟨n1,n2⟩:=UA (ps.map λr=>(dot r.n (ax p.n q.n),r.d-dot r.n (mh p q))) ⟨none,none⟩ aBK;cases hN:FG ⟨none,none⟩ (ps.map λr=>(dot r.n (ax p.n q.n),r.d-dot r.n (mh p q)))with
  |none=>
   exfalso;rcases OF.lt_trichotomy 0 t1 with h|h|h
   ·exact n2 hN t0 (t0+t1) (KL _) f0 (KL _) f1 (by have:=(add_lt_add_left t0).2 h;rwa[CR.add_zero]at this)
   ·exact jO h.symm
   ·exact n2 hN (t0+t1) t0 (KL _) f1 (KL _) f0 (by have:=(add_lt_add_left t0).2 h;rwa[CR.add_zero]at this)
  |some sg=>
   obtain⟨ho,uO,_,_⟩:=n1 sg hN;have s0:=(uO t0).2 ⟨KL _,f0⟩
   -- beyond a OH
   have beyond:∀ c:V3 F,c≠0->∃ t:F,0<=t/\¬gH ps (v+smul c t):=by intro c pP;obtain⟨t,ht,⟨r,hr,oh,FD⟩,_⟩:=yw aBM (hc.bounds hp pP);refine⟨t+1,add_nonneg ht (OF.le_of_lt OF.zero_lt_one),λh=>?_⟩;have h1:=h r hr;rw[show v+smul c (t+1)=v+smul c t+c from mN [v,c] [t] (λV S=>V 0+smul (V 1) (S 0+1)) (λV S=>V 0+smul (V 1) (S 0)+V 1) d_,k8,show dot r.n (v+smul c t)=r.d from FD]at h1;have:=(add_lt_add_left r.d).2 oh;rw[CR.add_zero]at this;exact OF.lt_irrefl _ (OF.lt_of_lt_of_le this h1)
   obtain⟨lo,hi⟩:=sg;have iv:∃ h,hi=some h:=by
    cases hi with
    |some h=>exact⟨h,rfl⟩
    |none=>
     exfalso;obtain⟨t,ht,gF⟩:=beyond _ hd;apply gF;rw[FC,OR];refine((uO (t0+t)).1 ⟨λl hl=>?_,λh hh=>(by cases hh)⟩).2;refine OF.le_trans (s0.1 l hl) ?_;have:=(add_le_add_left t0).2 ht;rwa[CR.add_zero]at this
   have dL:∃ l,lo=some l:=by
    cases lo with
    |some h=>exact⟨h,rfl⟩
    |none=>
     exfalso;obtain⟨t,ht,gF⟩:=beyond (-ax p.n q.n) (λe=>hd (neg_eq_zero.1 e));apply gF;rw[show smul (-ax p.n q.n) t=smul (ax p.n q.n) (-t)from mN [ax p.n q.n] [t] (λV S=>smul (-V 0) (S 0)) (λV S=>smul (V 0) (-S 0)) d_,FC,OR];refine((uO (t0+-t)).1 ⟨λh hh=>(by cases hh),λl hl=>?_⟩).2;refine OF.le_trans ?_ (s0.2 l hl);have:=(add_le_add_left t0).2 (Kn.2 ht);rwa[CR.add_zero]at this
   obtain⟨hi,rfl⟩:=iv;obtain⟨lo,rfl⟩:=dL;have al:=ho lo hi rfl rfl;have l0:=s0.1 lo rfl;have h0:=s0.2 hi rfl;refine⟨_,_,rfl,?_⟩
   -- the value of s on the line
   have aBO:∀ t:F,(∀ x∈ps.map λr=>(dot r.n (ax p.n q.n),r.d-dot r.n (mh p q)),x.1*t<=x.2)->dot s.n (ax p.n q.n)*t<=dot s.n (ax p.n q.n)*t0:=by
    intro t h;have h1:=h _ (di.2 ⟨s,hs,rfl⟩);dsimp only at h1;have h2:dot s.n (ax p.n q.n)*t0=s.d-dot s.n (mh p q):=by have:dot s.n v=s.d:=ts;rw[vO,k8,iZ]at this;rw[<-this];exact ko (dot s.n (mh p q)) (dot s.n (ax p.n q.n)*t0) (λ_ b=>b) (λa b=>a+b-a) d_
    rw[h2];exact h1
   rcases UC with rfl|rfl
   ·left;have k:=aBO lo ((uO lo).1 ⟨λl hl=>(by injection hl with hl;rw[hl];exact OF.le_refl _),λh hh=>(by injection hh with hh;rw[<-hh];exact OF.le_of_lt al)⟩).2;have k2:t0<=lo:=by
     rw[<-mul_le_mul_left (neg_pos.2 UD),CR.neg_mul,CR.neg_mul,OF.le_def,show -(dot s.n (ax p.n q.n)*lo) - -(dot s.n (ax p.n q.n)*t0)=dot s.n (ax p.n q.n)*t0-dot s.n (ax p.n q.n)*lo from
       ko (dot s.n (ax p.n q.n)*lo) (dot s.n (ax p.n q.n)*t0) (λa b=>-a - -b) (λa b=>b-a) d_]
     exact k
    rw[OF.le_antisymm l0 k2];exact vO
   ·right;rw[tA,Km]at UD;have k:=aBO hi ((uO hi).1 ⟨λl hl=>(by injection hl with hl;rw[<-hl];exact OF.le_of_lt al),λh hh=>(by injection hh with hh;rw[hh];exact OF.le_refl _)⟩).2;rw[mul_le_mul_left UD]at k;rw[OF.le_antisymm k h0];exact vO
 refine⟨p,gZ,q,uC,hd,one p q gZ uC tp tq hd _ (.inl rfl) ba,one q p uC gZ tq tp (λe=>hd (by rw[HZ,e,V3.neg_zero])) _ (.inr ?_) ba⟩;rw[<-HZ]
def BC(ps:List (HS F))(x:V3 F):Prop:=∀ p∈ps,dot p.n x<p.d
def gJ(ps:List (HS F)):Prop:=∃ x,BC ps x
theorem BC.inside{ps:List (HS F)}{x:V3 F}(h:BC ps x):gH ps x:=λp hp=>OF.le_of_lt (h p hp)
def aBP(l:List (V3 F)):V3 F:=l.foldl (λs v=>s+v) 0
theorem aBQ(m:V3 F):∀(l:List (V3 F)) (s:V3 F),dot m (l.foldl (λs v=>s+v) s)=l.foldl (λ(a:F) v=>a+dot m v) (dot m s)
 |[],_=>rfl
 |v::l,s=>by rw[vl,aBQ,vl,k8]
theorem OT(f:V3 F->F):∀(l:List (V3 F)) (a:F),l.foldl (λ(a:F) v=>a+f v) a=a+l.foldl (λ(a:F) v=>a+f v) 0
 |[],a=>by rw[aBR,aBR,CR.add_zero]
 |v::l,a=>by rw[vl,vl,OT f l (a+f v),OT f l (0+f v),CR.zero_add,CR.add_assoc]
theorem aBS{f:V3 F->F}{d:F}:∀{l:List (V3 F)},(∀ v∈l,f v<=d)->l.foldl (λ(a:F) v=>a+f v) 0<=CR.ofNat l.length*d
 |[],_=>by rw[aBR,List.length_nil,CR.ofNat,CR.zero_mul];exact OF.le_refl _
 |v::l,h=>by rw[vl,OT,CR.zero_add,oD,CR.ofNat,CR.add_mul,CR.one_mul,CR.add_comm];exact OF.add_le_add (aBS λv hv=>h v (bB _ hv)) (h v (aT ..))
theorem aBT{f:V3 F->F}{d:F}:∀{l:List (V3 F)},(∀ v∈l,f v<=d)->(∃ v∈l,f v<d)->l.foldl (λ(a:F) v=>a+f v) 0<CR.ofNat l.length*d
 |[],_,h=>by obtain⟨v,hv,_⟩:=h;cases hv
 |v::l,h,k=>by
  rw[vl,OT,CR.zero_add,oD,CR.ofNat,CR.add_mul,CR.one_mul,CR.add_comm];have hl:∀ v∈l,f v<=d:=λv hv=>h v (bB _ hv);obtain⟨x,hx,xk⟩:=k;rcases cy.1 hx with rfl|hx
  ·exact add_lt_add_of_le_of_lt (aBS hl) xk
  ·exact add_lt_add_of_lt_of_le (aBT hl ⟨x,hx,xk⟩) (h v (aT ..))
theorem UE:∀{n:Nat},0<n->(0:F)<CR.ofNat n
 |n+1,_=>by
  rw[CR.ofNat];rcases nZ n with rfl|h
  ·rw[CR.ofNat,CR.zero_add];exact OF.zero_lt_one
  ·exact add_pos (UE h) OF.zero_lt_one
def Dk(l:List (V3 F)):V3 F:=smul (aBP l) (CR.ofNat l.length)⁻¹
theorem aLo(m:V3 F)(l:List (V3 F)):dot m (Dk l)=l.foldl (λ(a:F) v=>a+dot m v) 0*(CR.ofNat l.length)⁻¹:=by unfold Dk aBP;rw[iZ,aBQ,Df]
theorem aBU{m:V3 F}{d:F}{l:List (V3 F)}(h:∀ v∈l,dot m v<=d)(k:∃ v∈l,dot m v<d):dot m (Dk l)<d:=by
 have hl:0<l.length:=by
  obtain⟨v,hv,_⟩:=k;cases l with
  |nil=>cases hv
  |cons a l=>exact S1 _
 have hp:=UE (F:=F) hl;rw[aLo,<-mul_lt_mul_left hp,CR.mul_left_comm,lI _ (OF.ne_of_gt hp),CR.mul_one];exact aBT h k
theorem aBV{ps:List (HS F)}(hc:Cl ps)(hp:gp ps){l:List (V3 F)}(hl:∀ v,v∈l↔kL ps v)(hf:gJ ps):l≠[]/\BC ps (Dk l):=by
 obtain⟨x,hx⟩:=hf;have xu:∀ p∈ps,∃ v∈l,dot p.n v<p.d:=by intro p iP;obtain⟨v,hv,hm⟩:=top hc hp (m:=-p.n) hx.inside;refine⟨v,(hl v).2 hv,?_⟩;rw[Bt,Bt,OF.le_def,show -dot p.n v - -dot p.n x=dot p.n x-dot p.n v from ko (dot p.n v) (dot p.n x) (λa b=>-a - -b) (λa b=>b-a) d_]at hm;exact OF.lt_of_le_of_lt hm (hx p iP)
 obtain⟨⟨p,iP,_⟩,_⟩:=hc;refine⟨λe=>?_,λp iP=>aBU (λv hv=>((hl v).1 hv).1 p iP) (xu p iP)⟩;obtain⟨v,hv,_⟩:=xu p iP;rw[e]at hv;cases hv
theorem aLp{ps:List (HS F)}(hc:Cl ps)(hp:gp ps)(hf:gJ ps)(v:V3 F):∃ x,gH ps x/\x≠v:=by
 obtain⟨x,hx⟩:=hf;by_cases h:x=v
 ·obtain⟨p,iP,_⟩:=hc.1;have fV:=hp p iP;obtain⟨w,hw,hm⟩:=top hc hp (m:=p.n) hx.inside;by_cases hwx:w=x
  ·-- then every aUR is x,which is on a OH
   obtain⟨_,q,hq,_,_,_,_,_,tq,_⟩:=hw;have:=hx q hq;rw[hwx]at tq;rw[show dot q.n x=q.d from tq]at this;exact absurd this (OF.lt_irrefl _)
  ·exact⟨w,hw.1,λe=>hwx (e.trans h.symm)⟩
 ·exact⟨x,hx.inside,h⟩
end
section
variable{F:Type}[OF F]
def OU(l:List (V3 F)):Prop:=∃ o rest,l=o::rest/\∃ a∈rest,∃ b∈rest,∃ c∈rest,cL (a-o) (b-o) (c-o)≠0
theorem aLq{ps:List (HS F)}(hp:gp ps){l:List (V3 F)}(hl:∀ v∈l,gH ps v)(h:OU l):gJ ps:=by
 obtain⟨o,rest,rfl,a,ha,b,hb,c,hc,hd⟩:=h;have io:=hl o (aT ..);have ia:=hl a (bB _ ha);have ib:=hl b (bB _ hb);have ic:=hl c (bB _ hc);refine⟨Dk [o,a,b,c],λp iP=>aBU (λv hv=>?_) ?_⟩
 ·simp only[cy,jh,ji]at hv;rcases hv with rfl|rfl|rfl|rfl
  ·exact io p iP
  ·exact ia p iP
  ·exact ib p iP
  ·exact ic p iP
 ·apply hZ;intro gF;have tight:∀ v∈[o,a,b,c],dot p.n v=p.d:=by
   intro v hv;have ct:dot p.n v<=p.d:=by
    simp only[cy,jh,ji]at hv;rcases hv with rfl|rfl|rfl|rfl
    ·exact io p iP
    ·exact ia p iP
    ·exact ib p iP
    ·exact ic p iP
   rcases OF.pr ct with h|h
   ·exact(gF ⟨v,hv,h⟩).elim
   ·exact h
  have to:=tight o s_;have z:∀ v∈[o,a,b,c],dot (v-o) p.n=0:=λv hv=>by rw[zj,k9,tight v hv,to,OF.sub_self]
  exact hp p iP (H0 hd (z a s_) (z b s_) (z c s_))
theorem aLr{ps:List (HS F)}(hc:Cl ps)(hp:gp ps){l:List (V3 F)}(hl:∀ v,v∈l↔kL ps v)(hf:gJ ps):OU l:=by
 have aU:=(aBV hc hp hl hf).1;cases l with
 |nil=>exact absurd rfl aU
 |cons o rest=>
  apply hZ;intro gF;have hz:∀ a∈rest,∀ b∈rest,∀ c∈rest,cL (a-o) (b-o) (c-o)=0:=by intro a ha b hb c hc;apply hZ;intro h;exact gF ⟨o,rest,rfl,a,ha,b,hb,c,hc,h⟩
  -- a direction that all points have in Mz
  obtain⟨m,hm,OS⟩:∃ m:V3 F,m≠0/\∀ v∈rest,dot m (v-o)=0:=by
   by_cases h2:∃ a∈rest,∃ b∈rest,ax (a-o) (b-o)≠0
   ·obtain⟨a,ha,b,hb,h⟩:=h2;refine⟨_,h,λv hv=>?_⟩;rw[zj];exact hz v hv a ha b hb
   ·have vB:∀ a∈rest,∀ b∈rest,ax (a-o) (b-o)=0:=λa ha b hb=>hZ λh=>h2 ⟨a,ha,b,hb,h⟩;by_cases h1:∃ a∈rest,a-o≠0
    ·obtain⟨a,ha,h⟩:=h1;obtain⟨u,hu,OV⟩:=KF h;exact⟨u,hu,λv hv=>by rw[zj];exact OG h (vB a ha v hv) OV⟩
    ·obtain⟨p,iP,_⟩:=hc.1;exact⟨p.n,hp p iP,λv hv=>by rw[hZ (λh=>h1 ⟨v,hv,h⟩:¬¬(v-o=0)),Df]⟩
  have heq:∀ v,kL ps v->dot m v=dot m o:=by
   intro v hv;rcases cy.1 ((hl v).2 hv)with rfl|h
   ·rfl
   ·have:=OS v h;rw[k9]at this;exact OF.sub_eq_zero.1 this
  -- so every KM inside has the same product
  have all:∀ y,gH ps y->dot m y=dot m o:=by intro y hy;obtain⟨v,hv,h1⟩:=top hc hp (m:=m) hy;obtain⟨w,hw,h2⟩:=top hc hp (m:=-m) hy;rw[heq v hv]at h1;rw[Bt,Bt,heq w hw,OF.le_def,show -dot m o - -dot m y=dot m y-dot m o from ko (dot m o) (dot m y) (λa b=>-a - -b) (λa b=>b-a) d_]at h2;exact OF.le_antisymm h1 h2
  obtain⟨x,hx⟩:=hf;obtain⟨t,ht,⟨q,hq,_,vL⟩,ct⟩:=yw hx.inside (hc.bounds hp hm);have vO:t≠0:=by
   rintro rfl
   rw[smul_zero,V3.add_zero]at vL;have:=hx q hq;rw[show dot q.n x=q.d from vL]at this;exact OF.lt_irrefl _ this
  have h1:=all _ ct;rw[k8,iZ,all x hx.inside]at h1;have:dot m m*t=0:=CR.add_left_cancel (a:=dot m o) (by rw[h1,CR.add_zero]);exact mul_ne_zero (Bu hm) vO this
theorem Cl.more{ps qs:List (HS F)}(hc:Cl ps)(hp:gp ps)(h:∀ p∈ps,p∈qs):Cl qs:=by obtain⟨p,iP,q,lf,hd⟩:=hc.1;refine⟨⟨p,h p iP,q,h q lf,hd⟩,λa _ b _ bZ=>?_⟩;obtain⟨r,hr,oh⟩:=hc.bounds hp bZ;exact⟨r,h r hr,oh⟩
end
end
section
open CR OF
section
variable{F:Type}[OF F]
def dU(u v:V3 F):Int:=
 if az (u.x-v.x)≠0 then az (u.x-v.x)else if az (u.y-v.y)≠0 then az (u.y-v.y)else az (u.z-v.z)
theorem aLs(u v:V3 F):(u-v).x=u.x-v.x:=rfl
theorem aLt(u v:V3 F):(u-v).y=u.y-v.y:=rfl
theorem aLu(u v:V3 F):(u-v).z=u.z-v.z:=rfl
theorem aBW{u v:V3 F}:dU u v=1↔zp (u-v):=by
 unfold dU zp;rw[aLs,aLt,aLu,iA,iA,iA];have e:∀ a:F,a=0↔az a=0:=λa=>(eZ a).symm;rw[e (u.x-v.x),e (u.y-v.y)];rcases iN (u.x-v.x)with h|h|h<;>rw[h]<;>simp
 rcases iN (u.y-v.y)with h|h|h<;>rw[h]<;>simp
theorem aBX(u v:V3 F):dU v u=- dU u v:=by
 unfold dU;rw[Fc v.x u.x,Fc v.y u.y,Fc v.z u.z];rcases iN (u.x-v.x)with h|h|h<;>rw[h]<;>simp
 rcases iN (u.y-v.y)with h|h|h<;>rw[h]<;>simp
theorem KN{u v:V3 F}:dU u v=-1↔zp (v-u):=by rw[<-aBW,aBX u v];omega
theorem KO{u v:V3 F}:dU u v=0↔u=v:=by
 constructor
 ·intro h;apply hZ;intro aU;rcases aLg aU with k|k
  ·rw[KN.2 k]at h;cases h
  ·rw[aBW.2 k]at h;cases h
 ·rintro rfl
  unfold dU;rw[OF.sub_self,OF.sub_self,OF.sub_self,(eZ (0:F)).2 rfl];simp
theorem H3(u v:V3 F):dU u v=-1\/dU u v=0\/dU u v=1:=by
 unfold dU;split
 ·exact iN _
 ·split
  ·exact iN _
  ·exact iN _
def jH(u v:V3 F):Prop:=dU u v=-1
theorem KP{u v w:V3 F}(h:jH u v)(k:jH v w):jH u w:=by have h:=KN.1 h;have k:=KN.1 k;exact KN.2 (iQ.aBt (H:=aBH) h k)
theorem Dl(u:V3 F):¬jH u u:=λh=>by have:dU u u=0:=KO.2 rfl;rw[show dU u u=-1 from h]at this;cases this
theorem OW{u v:V3 F}(h:jH u v)(k:jH v u):False:=Dl u (KP h k)
theorem KQ{u v:V3 F}(h:dU u v=1):jH v u:=by unfold jH;rw[aBX u v,h]
def ml(v:V3 F):List (V3 F)->List (V3 F)
 |[]=>[v]
 |a::l=>if dU a v=0 then a::l else if dU a v=1 then v::a::l else a::ml v l
theorem OX{v x:V3 F}:∀{l:List (V3 F)},x∈ml v l↔x=v\/x∈l
 |[]=>by simp[ml]
 |a::l=>by
  unfold ml;split
  ·rename_i h;have e:=KO.1 h;subst e;simp
  ·split
   ·simp
   ·rw[cy,OX,cy];constructor
    ·rintro(h|h|h)
     ·exact .inr (.inl h)
     ·exact .inl h
     ·exact .inr (.inr h)
    ·rintro(h|h|h)
     ·exact .inr (.inl h)
     ·exact .inl h
     ·exact .inr (.inr h)
theorem UF{v:V3 F}:∀{l:List (V3 F)},l.Pairwise jH->(ml v l).Pairwise jH
 |[],_=>aBE ..
 |a::l,h=>by
  unfold ml;have h':=r8.1 h;split
  ·exact h
  ·rename_i h0;split
   ·rename_i h1;refine r8.2 ⟨λb hb=>?_,h⟩;rcases cy.1 hb with rfl|hb
    ·exact KQ h1
    ·exact KP (KQ h1) (h'.1 b hb)
   ·rename_i h1;refine r8.2 ⟨λb hb=>?_,UF h'.2⟩;rcases OX.1 hb with rfl|hb
    ·rcases H3 a b with k|k|k
     ·exact k
     ·exact absurd k h0
     ·exact absurd k h1
    ·exact h'.1 b hb
theorem OY:∀{l m:List (V3 F)},l.Pairwise jH->m.Pairwise jH->(∀ x,x∈l↔x∈m)->l=m
 |[],[],_,_,_=>rfl
 |[],b::m,_,_,h=>by have:=(h b).2 (aT ..);cases this
 |a::l,[],_,_,h=>by have:=(h a).1 (aT ..);cases this
 |a::l,b::m,hl,hm,h=>by
  have cg:=r8.1 hl;have bj:=r8.1 hm;have e:a=b:=by
   rcases cy.1 ((h a).1 (aT ..))with e|ha
   ·exact e
   ·rcases cy.1 ((h b).2 (aT ..))with e|hb
    ·exact e.symm
    ·exact(OW (cg.1 b hb) (bj.1 a ha)).elim
  subst e
  congr 1
  refine OY cg.2 bj.2 λx=>⟨λhx=>?_,λhx=>?_⟩
  ·rcases cy.1 ((h x).1 (bB _ hx))with rfl|rR
   ·exact(Dl _ (cg.1 _ hx)).elim
   ·exact rR
  ·rcases cy.1 ((h x).2 (bB _ hx))with rfl|rR
   ·exact(Dl _ (bj.1 _ hx)).elim
   ·exact rR
def KR(l:List (V3 F)):List (V3 F):=l.foldl (λs v=>ml v s) []
theorem aBY{x:V3 F}:∀(l s:List (V3 F)),x∈l.foldl (λs v=>ml v s) s↔x∈l\/x∈s
 |[],s=>by simp
 |v::l,s=>by
  rw[vl,aBY l,OX,cy];constructor
  ·rintro(h|h|h)
   ·exact .inl (.inr h)
   ·exact .inl (.inl h)
   ·exact .inr h
  ·rintro((h|h)|h)
   ·exact .inr (.inl h)
   ·exact .inl h
   ·exact .inr (.inr h)
theorem aBZ:∀(l s:List (V3 F)),s.Pairwise jH->(l.foldl (λs v=>ml v s) s).Pairwise jH
 |[],_,h=>h
 |v::l,s,h=>by rw[vl];exact aBZ l _ (UF h)
theorem UG{x:V3 F}{l:List (V3 F)}:x∈KR l↔x∈l:=by unfold KR;rw[aBY];simp
theorem KS(l:List (V3 F)):(KR l).Pairwise jH:=aBZ l [] aB0
end
end
section
open V3 (dot ax cL smul)
def cC(v:V3 K):RV:=⟨dQ v.x,dQ v.y,dQ v.z⟩
def bP(v:V3 K):Value:=(cC v).v
theorem OZ{u v:V3 K}(h:cC u=cC v):u=v:=by cases u;cases v;have h1:=Ku (cI RV.x h);have h2:=Ku (cI RV.y h);have h3:=Ku (cI RV.z h);dsimp only[cC]at h1 h2 h3;rw[h1,h2,h3]
def aF(n:Nat)(v:V3 K):Prop:=Sz n v.x/\Sz n v.y/\Sz n v.z
theorem aF.mono{m n:Nat}(h:m<=n){v:V3 K}(hv:aF m v):aF n v:=⟨hv.1.mono h,hv.2.1.mono h,hv.2.2.mono h⟩
theorem aF.sm{n:Nat}{v:V3 K}(h:aF n v)(hn:n<=aC):(cC v).Sm:=⟨C4 h.1 hn,C4 h.2.1 hn,C4 h.2.2 hn⟩
theorem aF.add{m n:Nat}{u v:V3 K}(hu:aF m u)(hv:aF n v):aF (m+n+1) (u+v):=⟨hu.1.add hv.1,hu.2.1.add hv.2.1,hu.2.2.add hv.2.2⟩
theorem aF.sub{m n:Nat}{u v:V3 K}(hu:aF m u)(hv:aF n v):aF (m+n+1) (u-v):=⟨hu.1.sub hv.1,hu.2.1.sub hv.2.1,hu.2.2.sub hv.2.2⟩
theorem aF.neg{n:Nat}{v:V3 K}(hv:aF n v):aF n (-v):=⟨hv.1.neg,hv.2.1.neg,hv.2.2.neg⟩
theorem aF.smul{m n:Nat}{v:V3 K}{k:K}(hv:aF m v)(hk:Sz n k):aF (m+n+4) (smul v k):=⟨hv.1.mul hk,hv.2.1.mul hk,hv.2.2.mul hk⟩
theorem aF.dot{m n:Nat}{u v:V3 K}(hu:aF m u)(hv:aF n v):Sz (3*(m+n)+14) (dot u v):=((hu.1.mul hv.1).add (hu.2.1.mul hv.2.1)).add (hu.2.2.mul hv.2.2) |>.mono o_
theorem aF.ax{m n:Nat}{u v:V3 K}(hu:aF m u)(hv:aF n v):aF (2*(m+n)+9) (ax u v):=
 ⟨((hu.2.1.mul hv.2.2).sub (hu.2.2.mul hv.2.1)).mono o_,((hu.2.2.mul hv.1).sub (hu.1.mul hv.2.2)).mono o_,((hu.1.mul hv.2.1).sub (hu.2.1.mul hv.1)).mono o_⟩
theorem jI{v:V3 K}{n:Nat}(h:aF n v)(hn:n<=aC):aD prog 67 [bP v] (.bool true):=Oz (r:=cC v) (kJ h.1 hn) (kJ h.2.1 hn) (kJ h.2.2 hn)
theorem vP{a b c:Int}(ha:a.natAbs<9223372036854775808)(hb:b.natAbs<9223372036854775808)(hc:c.natAbs<9223372036854775808):aD prog 106 [.int .i64 a,.int .i64 b,.int .i64 c] (bP ⟨kI a,kI b,kI c⟩):=
 aK func106 (λ_=>[(r5 ha).at 8,(r5 hb).at 10,(r5 hc).at 12])
def UH(f:FuncId):Value:=.agg #[.func (.func f) #[] #[]]
theorem aLv{u v:RV}{z:RV}(hu:aD prog 67 [u.v] (.bool true))(hv:aD prog 67 [v.v] (.bool true))
  (hx:aD prog 160 [u.x.v,v.x.v] z.x.v) (hy:aD prog 160 [u.y.v,v.y.v] z.y.v) (hz:aD prog 160 [u.z.v,v.z.v] z.z.v):aD prog 161 [UH 160,u.v,v.v] z.v:=
 aK func161 (λ_=>[hu.at 8,hv.at 12,hx.at 22,hy.at 29,hz.at 36])
theorem aLw{u v:RV}{z:RV}(hu:aD prog 67 [u.v] (.bool true))(hv:aD prog 67 [v.v] (.bool true))
  (hx:aD prog 168 [u.x.v,v.x.v] z.x.v) (hy:aD prog 168 [u.y.v,v.y.v] z.y.v) (hz:aD prog 168 [u.z.v,v.z.v] z.z.v):aD prog 161 [UH 168,u.v,v.v] z.v:=
 aK func161 (λ_=>[hu.at 8,hv.at 12,hx.at 22,hy.at 29,hz.at 36])
theorem aB1{u v:RV}{z:RV}(hu:aD prog 67 [u.v] (.bool true))(hv:aD prog 67 [v.v] (.bool true))
  (hx:aD prog 163 [u.x.v,v.x.v] z.x.v) (hy:aD prog 163 [u.y.v,v.y.v] z.y.v) (hz:aD prog 163 [u.z.v,v.z.v] z.z.v):aD prog 161 [UH 163,u.v,v.v] z.v:=
 aK func161 (λ_=>[hu.at 8,hv.at 12,hx.at 22,hy.at 29,hz.at 36])
theorem FH{u v:V3 K}{m n:Nat}(hu:aF m u)(hv:aF n v)(cT:m+n<aC):aD prog 119 [bP u,bP v] (bP (u+v)):=
 aK func119 (λ_=>[(aLv (u:=cC u) (v:=cC v) (z:=cC (u+v)) (jI hu o_) (jI hv o_) (uJ hu.1 hv.1 cT) (uJ hu.2.1 hv.2.1 cT) (uJ hu.2.2 hv.2.2 cT)).at 8])
theorem BD{u v:V3 K}{m n:Nat}(hu:aF m u)(hv:aF n v)(cT:m+n<aC):aD prog 153 [bP u,bP v] (bP (u-v)):=
 aK func153 (λ_=>[(aLw (u:=cC u) (v:=cC v) (z:=cC (u-v)) (jI hu o_) (jI hv o_) (Bm hu.1 hv.1 cT) (Bm hu.2.1 hv.2.1 cT) (Bm hu.2.2 hv.2.2 cT)).at 8])
instance:DecidableEq (V3 K):=λu v=>decidable_of_iff (u.x=v.x/\u.y=v.y/\u.z=v.z) ⟨λh=>V3.ext h.1 h.2.1 h.2.2,λh=>by subst h;exact⟨rfl,rfl,rfl⟩⟩
theorem KT:aF 1 (⟨kI 0,kI 0,kI 0⟩:V3 K):=⟨qH d_ d_,qH d_ d_,qH d_ d_⟩
theorem H4{v:V3 K}{n:Nat}(hv:aF n v)(hn:n+1<aC):aD prog 114 [bP v] (bP (-v)):=by
 have e:(⟨kI 0,kI 0,kI 0⟩:V3 K)-v=-v:=by cases v;show(⟨kI 0-_,kI 0-_,kI 0-_⟩:V3 K)=⟨-_,-_,-_⟩;rw[aJ6];congr 1<;>(rw[CR.sub_def];exact CR.zero_add _)
 have h:=BD KT hv o_;rw[e]at h;exact aK func114 (λ_=>[(vP (a:=0) (b:=0) (c:=0) d_ d_ d_).at 3,h.at 5])
theorem vQ{v:V3 K}{k:K}{m n:Nat}(hv:aF m v)(hk:Sz n k)(cT:m+n+8<=aC):aD prog 121 [bP v,b9 k] (bP (smul v k)):=
 aK func121 (λ_=>[(aB1 (u:=cC v) (v:=⟨dQ k,dQ k,dQ k⟩) (z:=cC (smul v k)) (jI hv o_) (jI (v:=⟨k,k,k⟩) ⟨hk,hk,hk⟩ o_) (oT hv.1 hk cT) (oT hv.2.1 hk cT) (oT hv.2.2 hk cT)).at 11])
theorem uP{u v:V3 K}{m n:Nat}(hu:aF m u)(hv:aF n v)(cT:3*(m+n)+16<aC):aD prog 127 [bP u,bP v] (b9 (dot u v)):=
 aK func127 (λ_=>[(aB1 (u:=cC u) (v:=cC v) (z:=⟨dQ (u.x*v.x),dQ (u.y*v.y),dQ (u.z*v.z)⟩) (jI hu o_) (jI hv o_) (oT hu.1 hv.1 o_) (oT hu.2.1 hv.2.1 o_) (oT hu.2.2 hv.2.2 o_)).at 9,(uJ (hu.1.mul hv.1) (hu.2.1.mul hv.2.1) o_).at 14,(uJ ((hu.1.mul hv.1).add (hu.2.1.mul hv.2.1)) (hu.2.2.mul hv.2.2) o_).at 17])
theorem FI{a b c d:K}{m n:Nat}(ha:Sz m a)(hb:Sz m b)(hc:Sz n c)(hd:Sz n d)(cT:2*(m+n)+16<aC):aD prog 150 [b9 a,b9 b,b9 c,b9 d] (b9 (a*d-b*c)):=
 aK func150 (λ_=>[(oT ha hd o_).at 11,(oT hb hc o_).at 14,(Bm (ha.mul hd) (hb.mul hc) o_).at 15])
theorem vR{u v:V3 K}{m n:Nat}(hu:aF m u)(hv:aF n v)(cT:2*(m+n)+16<aC):aD prog 112 [bP u,bP v] (bP (ax u v)):=
 aK func112 (λ_=>[(jI hu o_).at 6,(jI hv o_).at 10,(FI hu.2.1 hu.2.2 hv.2.1 hv.2.2 cT).at 22,(FI hu.2.2 hu.1 hv.2.2 hv.1 cT).at 31,(FI hu.1 hu.2.1 hv.1 hv.2.1 cT).at 40])
theorem Dm{v:V3 K}{n:Nat}(hv:aF n v)(hn:n<=aC):aD prog 68 [bP v] (.bool (decide (v=0))):=by have hz:(⟨kI 0,kI 0,kI 0⟩:V3 K)=0:=rfl;exact aK func68 (λ_=>[(vP (a:=0) (b:=0) (c:=0) d_ d_ d_).at 4,.step 5 (av f68 5) _ _ _ _ (Fk (neg:=true) k_ (cC v) (cC ⟨kI 0,kI 0,kI 0⟩) (hv.sm hn) (KT.sm d_) (b:=decide (v=0)) (by rw[aw rfl,BE];exact⟨λh=>by rw[h,hz],λh=>OZ h⟩))])
def O0:Int->Int->Int->Int:=λa b c=>if a≠0 then a else if b≠0 then b else c
theorem FJ{f:FuncId}{fn:Func}{l:List aP}{v:Value}(hf:prog.funcs[f]?=some fn)(N:Nat)(rs:∀ w,bE prog (aa.at w) N)(hN:N=(eL 0 l).length+(fn.ntmps-(eL 0 l).length):=by kernel_rfl)(hl:(l.all aP.ok)=true:=by kernel_rfl)(h:∀ w,nt (fQ (P:=prog) fn 100 (eL 0 l) (jt 0 l) (jG 0 l) (rs w)) []=nu (fQ fn 100 (eL 0 l) (jt 0 l) (jG 0 l) (rs w)) v []:=by intro _;kernel_rfl)(hv:flat v=true:=by kernel_rfl):cD prog f l v:=fJ mixed hf hl 100 hN rs h hv
theorem aLx(a b c:Int):cD prog 159 [.r 3 [.int .i64 a,.int .i64 b,.int .i64 c]] (.int .i64 (O0 a b c)):=by
 have bl:∀ z:Int,z≠0->(Value.bool (!(z==0)))=.bool true:=λz h=>by congr 1;simpa using h
 unfold O0;by_cases ha:a=0
 ·rw[ao (λh=>h ha)];subst ha;by_cases hb:b=0
  ·rw[ao (λh=>h hb)];subst hb;by_cases hc:c=0
   ·subst hc;exact FJ func159 18 (λ_=>[])
   ·exact FJ func159 18 (λ_=>[.rw 14 (.bool (!((0:Int)==0))) (.bool false) rfl,.rw 14 (.bool (!((0:Int)==0))) (.bool false) rfl,.rw 14 _ _ (bl c hc)])
  ·rw[aw hb];exact FJ func159 18 (λ_=>[.rw 14 (.bool (!((0:Int)==0))) (.bool false) rfl,.rw 14 _ _ (bl b hb)])
 ·rw[aw ha];exact FJ func159 18 (λ_=>[.rw 14 _ _ (bl a ha)])
theorem aB2(u v:V3 K):O0 (OF.az (u.x-v.x)) (OF.az (u.y-v.y)) (OF.az (u.z-v.z))=dU u v:=rfl
theorem UI{u v:V3 K}{m n:Nat}(hu:aF m u)(hv:aF n v)(cT:4*(m+n)+24<=aC):aD prog 117 [bP u,bP v] (.int .i64 (dU u v)):=by rw[<-aB2];refine aK func117 (λ_=>[(jI hu o_).at 6,(jI hv o_).at 10,(mg hu.1 hv.1 cT).at 17,(mg hu.2.1 hv.2.1 cT).at 22,(mg hu.2.2 hv.2.2 cT).at 27,.bs f117 28 2 3 3 1 [0,1,2] (.int .i64 0) [.int .i64 (OF.az (u.x-v.x)),.int .i64 (OF.az (u.y-v.y)),.int .i64 (OF.az (u.z-v.z))] #[.int .i64 (OF.az (u.x-v.x)),.int .i64 (OF.az (u.y-v.y)),.int .i64 (OF.az (u.z-v.z))] (.row [.int .i64 (OF.az (u.x-v.x)),.int .i64 (OF.az (u.y-v.y)),.int .i64 (OF.az (u.z-v.z))] 3 1) rfl (bf.1 k_) (bf.1 k_) k_ k_ d_ d_ k_,.step 29 (av f117 29) _ _ _ _ (dE (aLx _ _ _) (.w (k:=2) (cc:=0) (x:=.row [.int .i64 (OF.az (u.x-v.x)),.int .i64 (OF.az (u.y-v.y)),.int .i64 (OF.az (u.z-v.z))] 3 1) k_ k_ n_ .nil) (x:=.func 159) k_ k_ k_)])
def cF(p:HS K):RP:=⟨cC p.n,dQ p.d⟩
def cB(p:HS K):Value:=(cF p).v
theorem O1{p q:HS K}(h:cF p=cF q):p=q:=HS.ext (OZ (cI RP.n h)) (Ku (cI RP.d h))
def bo(n:Nat)(p:HS K):Prop:=aF n p.n/\Sz n p.d
theorem bo.mono{m n:Nat}(h:m<=n){p:HS K}(hp:bo m p):bo n p:=⟨hp.1.mono h,hp.2.mono h⟩
theorem bo.sm{n:Nat}{p:HS K}(h:bo n p)(hn:n<=aC):(cF p).Sm:=⟨h.1.sm hn,C4 h.2 hn⟩
instance:DecidableEq (HS K):=λp q=>decidable_of_iff (p.n=q.n/\p.d=q.d) ⟨λh=>HS.ext h.1 h.2,λh=>by subst h;exact⟨rfl,rfl⟩⟩
theorem zt{p:HS K}{n:Nat}(hp:bo n p)(hn:n<=aC):aD prog 39 [cB p] (.bool (decide (p.n≠0))):=by
 by_cases h:p.n=0
 ·rw[aJ (λe=>e h)];have hz:=Dm hp.1 hn;rw[aB h]at hz;exact aK func39 (λ_=>[(jI hp.1 hn).at 5,hz.at 9])
 ·rw[aB h];have hz:=Dm hp.1 hn;rw[aJ h]at hz;exact aK func39 (λ_=>[(jI hp.1 hn).at 5,hz.at 9,(kJ hp.2 hn).at 15])
theorem FK{p:HS K}{v:V3 K}{m n:Nat}(hp:bo m p)(hv:aF n v)(cT:4*(3*(m+n)+14+m)+30<=aC)(h:p.n≠0):aD prog 77 [cB p,bP v] (.int .i64 (OF.az (dot p.n v-p.d))):=by have h1:=zt hp o_;rw[aB h]at h1;exact aK func77 (λ_=>[h1.at 6,(jI hv o_).at 10,(uP hp.1 hv o_).at 16,(mg (hp.1.dot hv) hp.2 o_).at 19])
theorem aLy{x y:K}{m n:Nat}(h:y≠0)(hx:Sz m x)(hy:Sz n y)(cT:m+7*n+40<=aC):aD prog 197 [b9 x,b9 y] (b9 (x*y⁻¹)):=
 aK func197 (λ_=>[(HQ h hx hy cT).at 10])
theorem Sz.iO{x:K}{n:Nat}(h:Sz n x):Sz n (iO x):=by
 unfold _root_.Go.Proofs.YtjjefbkbljlgdaaGreatDoor.iO;split
 ·exact h.neg
 ·exact h
theorem O2{x:K}(h:x≠0):iO x≠0:=by
 unfold iO;split
 ·intro e;apply h;have:=cI (λz:K=>-z) e;rwa[CR.neg_neg,CR.neg_zero]at this
 ·exact h
def mn(x:K):K:=kI 1*(iO x)⁻¹
def Dn(p:HS K)(x:K):HS K:=⟨smul p.n (mn x),p.d*mn x⟩
def qf(v:V3 K):K:=if v.x≠0 then v.x else if v.y≠0 then v.y else v.z
def canon(p:HS K):HS K:=Dn p (qf p.n)
theorem O3{v:V3 K}(h:v≠0):qf v≠0:=by
 unfold qf;by_cases hx:v.x=0
 ·rw[ao (λe=>e hx)];by_cases hy:v.y=0
  ·rw[ao (λe=>e hy)];exact λhz=>h (V3.ext hx hy hz)
  ·rw[aw hy];exact hy
 ·rw[aw hx];exact hx
theorem Sz.mn{x:K}{n:Nat}(hx:x≠0)(h:Sz n x):Sz (7*n+29) (mn x):=(Sz.div (m:=1) (O2 hx) (qH d_ d_) h.iO).mono o_
theorem bo.Dn{p:HS K}{n:Nat}(hp:bo n p){x:K}(hx:x≠0)(h:Sz n x):bo (8*n+33) (Dn p x):=⟨(hp.1.smul (h.mn hx)).mono o_,(hp.2.mul (h.mn hx)).mono o_⟩
theorem aLz{v:V3 K}{n:Nat}(h:aF n v):Sz n (qf v):=by
 unfold qf;split
 ·exact h.1
 ·split
  ·exact h.2.1
  ·exact h.2.2
theorem bo.canon{p:HS K}{n:Nat}(hp:bo n p)(h:p.n≠0):bo (8*n+33) (canon p):=hp.Dn (O3 h) (aLz hp.1)
theorem aLA{B:aa}{o:Oper}{x:Operand}{k:Nat}(r:RV)(ho:dp o.op=some x):cA prog B o (.func (.func 196) #[] #[]::[r.v]) [(k,none)] (.func (.func 218) #[] #[.pointer (some ⟨k,0,some 7⟩)]) [(k,.aI r.cs 33)]:=
 aBi mixed func196 ho k_ 50 (λ_=>[]) (λ_=>k_) k_ k_
def zI:RI:=⟨false,[]⟩
def zN:RN:=⟨zI,zI,zI,zI,zI⟩
def zV:RV:=⟨zN,zN,zN⟩
def zP:RP:=⟨zV,zN⟩
def uQ(r q:RP):aH:=[(0,.aI r.cs 35),(1,.aI q.cs 35),(2,.aI [.int .i64 0] 41),(3,.aI r.n.cs 33)]
def H5:aV:=[(1,bX 0),(2,bX 1),(3,bX 2),(12,.func (.func 218) #[] #[bX 3])]
theorem aLB{B:aa}(r:RP):ah prog B 31 (KC f164 0) (jA 0 [r.v]) [] 0 ⟨.normal,[(1,bX 0),(2,bX 1),(3,bX 2)],[(0,.aI r.cs 35),(1,.aI zP.cs 35),(2,.aI [.int .i64 0] 41)],3⟩:=
 fe mixed 10 [] k_
def aLC:Code->Code|.seq _ y=>(match y with|.seq x _=>x|c=>c)|c=>c
def aLD(fn:Func):Code:=match fn.body with|some c=>c|none=>.skip
theorem aLE{B:aa}(r:RP)(hv:aD prog 39 [r.v] (.bool true)):ah prog B 31 (aLC (aLD f164)) [(1,bX 0),(2,bX 1),(3,bX 2)] [(0,.aI r.cs 35),(1,.aI zP.cs 35),(2,.aI [.int .i64 0] 41)] 3
  ⟨.normal,[(1,bX 0),(2,bX 1),(3,bX 2)],[(0,.aI r.cs 35),(1,.aI zP.cs 35),(2,.aI [.int .i64 0] 41)],3⟩:=
 fe mixed 10 [hv.at 7] k_
theorem aLF{B:aa}(r:RP):ah prog B 31 (KC f164 3) [(1,bX 0),(2,bX 1),(3,bX 2)] [(0,.aI r.cs 35),(1,.aI zP.cs 35),(2,.aI [.int .i64 0] 41)] 3 ⟨.normal,H5,uQ r zP,4⟩:=
 fe mixed 10 [.step 12 (av f164 12) _ _ _ _ (aLA (k:=3) (x:=.func 196) r.n k_)] k_
theorem UJ{p:HS K}{n:Nat}(hp:bo n p){x:K}(hx:Sz n x)(hn:16*n+80<=aC):
  On prog 4 31 #[13] (HW (vJ f164)) (HX (vJ f164)) H5 (uQ (cF p) zP) [] (uQ (cF p) (if x=0 then zP else cF (Dn p x))) [b9 x] (if x=0 then none else some .ret):=by
 have hs:=nG hx o_;by_cases h:x=0
 ·rw[aw h,aw h];have e:OF.az x=0:=(OF.eZ x).2 h;rw[e]at hs
  exact Ow (rA:=⟨.normal,(4,bX 5)::H5,(5,.aI (dQ x).cs 31)::uQ (cF p) zP,6⟩) (rB:=⟨.normal,[],uQ (cF p) zP,6⟩) k_ k_ k_ k_ k_ k_ k_ k_ rfl (λB=>fe mixed 10 [] k_) rfl k_ rfl
   (λB=>fe mixed 10 [hs.at 15,.rw 16 (.bool (!((0:Int)==0))) (.bool false) rfl] k_) (λk x h=>h) rfl
 ·rw[ao h,ao h];have e:OF.az x≠0:=λe=>h ((OF.eZ x).1 e)
  exact Ow (rA:=⟨.normal,(4,bX 5)::H5,(5,.aI (dQ x).cs 31)::uQ (cF p) zP,6⟩) (rB:=⟨.ret,[],uQ (cF p) (cF (Dn p x)),7⟩) k_ k_ k_ k_ k_ k_ k_ k_ rfl (λB=>fe mixed 10 [] k_) rfl k_ rfl
   (λB=>fe mixed 10 [hs.at 15,.rw 16 (.bool (!(OF.az x==0))) (.bool true) (by congr 1;simpa using e),(r5 (z:=1) d_).at 17,(T3 hx o_).at 19,(aLy (O2 h) (qH (z:=1) (n:=1) d_ d_) hx.iO o_).at 20,(vQ hp.1 (hx.mn h) o_).at 24,(oT hp.2 (hx.mn h) o_).at 28] k_) (λk x h=>h) rfl
theorem aLG{p:HS K}{n:Nat}(hp:bo n p)(hn:16*n+80<=aC)(aU:p.n≠0){T:Array Value}{m:Map}{S:Nat->Prop}(kt:Ov prog 4 31 H5 (uQ (cF p) zP) m S T)
  {fk:FuncId} {l D:Nat} {W1 W:World} {κ:Map} {c:Nat->Option Obj} {eY:aj} (hm:aM (pB W1 l S m) κ c W) (ha:cS c ((4,.fact (fj l (jU fk T #[13] (HW (vJ f164)) (HX (vJ f164)) D)))::(uQ (cF p) zP++[]))) (hu:eD c (4+1)) (gT:bI (aG κ) [bX 3] eY) :
  Calls prog 218 (.func (.yield l) #[] #[]::eY).toArray W λe W'=>∃ v tw c',e=.returned v/\Map.le κ tw/\aM (pB W1 l S m) tw c' W'/\
   cS c' ((4,.fact (fj l (Da (jU fk T #[13] (HW (vJ f164)) (HX (vJ f164)) D) (some .ret))))::(uQ (cF p) (cF (canon p))++[]))/\∀ k,k<4->c k=none->c' k=none:=by
 have st:=λ(o:Oper) (ho:dp o.op=some (.tmp 3)) (x:K) (hx:Sz n x)=>Oo (W1:=W1) (l:=l) (D:=D) (fk:=fk) (x:=.tmp 3) (o:=o) (UJ hp hx hn) ho kt.size kt.jA kt.low kt.set kt.born
 have st2:=λ(o:Oper) (ho:dp o.op=some (.tmp 8)) (x:K) (hx:Sz n x)=>Oo (W1:=W1) (l:=l) (D:=D) (fk:=fk) (x:=.tmp 8) (o:=o) (UJ hp hx hn) ho kt.size kt.jA kt.low kt.set kt.born
 have st3:=λ(o:Oper) (ho:dp o.op=some (.tmp 14)) (x:K) (hx:Sz n x)=>Oo (W1:=W1) (l:=l) (D:=D) (fk:=fk) (x:=.tmp 14) (o:=o) (UJ hp hx hn) ho kt.size kt.jA kt.low kt.set kt.born
 have s1:=st (av f218 6) k_ p.n.x hp.1.1;have s2:=st2 (av f218 11) k_ p.n.y hp.1.2.1;have s3:=st3 (av f218 17) k_ p.n.z hp.1.2.2;have hc:canon p=Dn p (qf p.n):=rfl;unfold qf at hc;by_cases hx:p.n.x=0
 ·rw[ao (λe=>e hx)]at hc;rw[aw hx,aw hx]at s1;by_cases hy:p.n.y=0
  ·rw[ao (λe=>e hy)]at hc;rw[aw hy,aw hy]at s2;have hz:p.n.z≠0:=λhz=>aU (V3.ext hx hy hz);rw[ao hz,ao hz,<-hc]at s3;exact Fv mixed func218 rfl 100 (v:=.tuple #[]) (rs:=[.step 6 _ _ _ _ _ s1,.step 11 _ _ _ _ _ s2,.step 17 _ _ _ _ _ s3]) hm ha hu gT k_
  ·rw[aw hy]at hc;rw[ao hy,ao hy,<-hc]at s2;exact Fv mixed func218 rfl 100 (v:=.tuple #[]) (rs:=[.step 6 _ _ _ _ _ s1,.step 11 _ _ _ _ _ s2]) hm ha hu gT k_
 ·rw[aw hx]at hc;rw[ao hx,ao hx,<-hc]at s1;exact Fv mixed func218 rfl 100 (v:=.tuple #[]) (rs:=[.step 6 _ _ _ _ _ s1]) hm ha hu gT k_
theorem KU{p:HS K}{n:Nat}(hp:bo n p)(hn:16*n+80<=aC)(aU:p.n≠0):aD prog 164 [cB p] (.tuple #[cB (canon p),.int .i64 0]):=by
 have hv:=zt hp o_;rw[aB aU]at hv;refine aBh (N:=31) func164 rfl rfl k_ λw a hf hm=>?_;refine lA (aLB (cF p) none _ _ a w _ hf hm n_ (λ_ _=>rfl) λuy cc0 a0 w0 aKx Ez kA oF CI Dd _=>?_);refine lA (aLE (cF p) hv none _ _ a0 w0 _ Ez kA oF CI λbM gn a1 w1 jq fv cW eA dK ig _=>?_);refine lA (lA (aLF (cF p) none _ _ a1 w1 _ fv cW eA dK λdC rD a2 w2 kW iG dx hJ fq fF _=>Jw ?_))
 refine aA6 (next:=4) (Os:=uQ (cF p) zP) (Vs:=[]) (cq:=uQ (cF p) (cF (canon p))) (gf:=218) (ca:=[bX 3]) (j:=some .ret) iG dx hJ fq (λk x h=>nH (p:=λp=>p.2.owns) k_ h) n_ k_ k_ k_ (HY rfl) (λk x h=>nH (p:=λp=>p.2.owns) k_ h) (λk x h=>Dc (nH (p:=oq 4) k_ h))
  (λfk l D W1 S kt κ c W eY hm ha hu gT=>aLG hp hn aU kt hm ha hu gT) λD bY w' HV hDw O4 yj Fq hu3=>?_
 refine Jx (aBg (B:=aa.at w) (fr:=H5) (M:=uQ (cF p) (cF (canon p))++[]) (v:=.tuple #[cB (canon p),.int .i64 0]) k_ O4 yj Fq rfl (λF h=>h) HV λau v' w' hc hG=>⟨?_,hG⟩);rw[hc.eR rfl]
theorem UK{p q:HS K}{m n:Nat}(hp:bo m p)(hq:bo n q)(hm:16*m+80<=aC)(hn:16*n+80<=aC)(fV:p.n≠0)(zu:q.n≠0):aD prog 124 [cB p,cB q] (.bool (decide (canon p=canon q))):=
 aK func124 (λ_=>[(KU hp hm fV).at 11,(KU hq hn zu).at 16,.step 28 (av f124 28) _ _ _ _ (TP (neg:=true) k_ (cF (canon p)) (cF (canon q)) ((hp.canon fV).sm o_) ((hq.canon zu).sm o_) (b:=decide (canon p=canon q)) (by rw[aw rfl,BE];exact⟨λh=>by rw[h],λh=>O1 h⟩))])
end
def aa.KV(w0:World)(S:Nat->Prop):aa where
 G w:=sT w0 w/\w.tape=w0.tape/\w.output=w0.output/\w0.heap.size<=w.heap.size/\∀ k,k<w0.heap.size->¬S k->w.heap[k]?=w0.heap[k]?
 cO k:=k<w0.heap.size/\¬S k
 lt w k h hk:=cx hk.1 h.2.2.2.1
 dep w w' h h1 h2 h3 h4 h5:=⟨h1.trans h.1,h2.trans h.2.1,h3.trans h.2.2.1,dh h.2.2.2.1 h4,λk hk hS=>(h5 k ⟨hk,hS⟩).trans (h.2.2.2.2 k hk hS)⟩
section
variable{P:Program}{B:aa}{w w4:World}{K:Nat}{S:Nat->Prop}{ι:Map}{c:Nat->Option Obj}
theorem aLH(h:aM B ι c w){Os cq:aH}(hO:cS c Os)(dH:∀ k x,ag Os k=some x->x.owns=true)(qK:∀ k x,ag cq k=some x->x.owns=true)
  (jQ:∀ k,ag cq k=none↔ag Os k=none) (hS:∀ b,S b->∃ k x o cap,ag Os k=some x/\ι k=some (.at b o cap)) (jz:∀ k x,ag cq k=some x->fP K x)
  {au:Map} {c':Nat->Option Obj} (hm:aM (aa.KV w S) au c' w4) (r6:cS c' cq) (dq:∀ k,k<K->∀ lc,au k=some lc->ι k=some lc)
  (mD:∀ k x,ag cq k=some x->k<K):aM B ι (ll c cq) w4:=by
 have bA:w.heap.size<=w4.heap.size:=hm.base.2.2.2.1;have aI:∀ b,b<w.heap.size->¬S b->w4.heap[b]?=w.heap[b]?:=hm.base.2.2.2.2;have KW:∀ b,S b->¬B.cO b:=λb hb=>by obtain⟨k,x,o,cap,e1,e2⟩:=hS b hb;exact(h.own k x b o cap (hO k x e1) (dH k x e1) e2).2
 have kinds:∀ k x,ll c cq k=some x->(ag cq k=some x/\c' k=some x/\x.owns=true)\/(ag Os k=none/\c k=some x):=λk x e=>by
  rw[vi]at e;cases ho:ag cq k with
  |some y=>rw[ho]at e;injection e with e;subst e;exact .inl ⟨rfl,r6 k y ho,qK k y ho⟩
  |none=>rw[ho]at e;exact .inr ⟨(jQ k).1 ho,e⟩
 have same:∀ k x,ag cq k=some x->au k=ι k:=λk x e=>by obtain⟨lc,q,_⟩:=hm.born k x (r6 k x e);rw[q,dq k (mD k x e) lc q]
 have C8:∀ k x b o cap,ag Os k=none->c k=some x->x.owns=true->ι k=some (.at b o cap)->¬S b:=λk x b o cap hn hc hx hl hs=>by obtain⟨k',x',o',aO,e1,e2⟩:=hS b hs;have:=h.inj k k' x x' b o cap o' aO hc hx (hO k' x' e1) (dH k' x' e1) hl e2;subst this;rw[hn]at e1;cases e1
 have C9:∀ k x b o cap,c k=some x->x.gj=true->ι k=some (.at b o cap)->¬S b:=λk x b o cap hc hx hl hs=>by obtain⟨k',x',o',aO,e1,e2⟩:=hS b hs;exact(h.seen k x b o cap hc hx hl).2 k' x' o' aO (hO k' x' e1) (dH k' x' e1) e2
 have xt:∀ k F v b,c k=some (.fact F)->ι k=some (.val v)->F.cO v w b->¬S b:=λk F v b hc hl hF hs=>by obtain⟨k',x',o',aO,e1,e2⟩:=hS b hs;exact h.apart k' k x' F b o' aO v (hO k' x' e1) (dH k' x' e1) e2 hc hl hF
 have part:∀ k x b o cap j y o' aO,ag cq k=some x->ι k=some (.at b o cap)->ag Os j=none->c j=some y->y.owns=true->ι j=some (.at b o' aO)->False:=λk x b o cap j y o' aO hk hl hj hc hy cg=>by
  rcases eC b w.heap.size with al|dM
  ·have q:=(hm.own k x b o cap (r6 k x hk) (qK k x hk) (by rw[same k x hk];exact hl)).2;exact q ⟨al,C8 j y b o' aO hj hc hy cg⟩
  ·have:=(h.own j y b o' aO hc hy cg).1;omega
 refine⟨B.dep w w4 h.base hm.base.1 hm.base.2.1 hm.base.2.2.1 bA λk hk=>aI k (B.lt w k h.base hk) λhs=>KW k hs hk,?_,?_,?_,?_,?_,?_,?_,?_,h.oC⟩
 ·intro k hk;rw[vi]at hk;cases ho:ag cq k with
  |some y=>rw[ho]at hk;cases hk
  |none=>rw[ho]at hk;exact h.dr k hk
 ·intro k x hk;rcases kinds k x hk with ⟨h1,h2,h3⟩|⟨h1,h2⟩
  ·obtain⟨lc,q1,q2⟩:=hm.born k x h2;exact⟨lc,by rw[<-same k x h1];exact q1,q2.below dq (jz k x h1)⟩
  ·obtain⟨lc,q1,q2⟩:=h.born k x h2;refine⟨lc,q1,q2.gB bA (λb o cap hx e=>?_) λF v b e1 e2 hF=>?_⟩
   ·subst e;rcases hx with hx|hx
    ·exact aI b (h.own k x b o cap h2 hx q1).1 (C8 k x b o cap h1 h2 hx q1)
    ·exact aI b (h.seen k x b o cap h2 hx q1).1 (C9 k x b o cap h2 hx q1)
   ·subst e1;subst e2;exact aI b (q2.wB rfl hF) (xt k F v b h2 q1 hF)
 ·intro k x b o cap hk hx hl;rcases kinds k x hk with ⟨h1,h2,h3⟩|⟨h1,h2⟩
  ·have cg:au k=some (.at b o cap):=by rw[same k x h1];exact hl
   obtain⟨q1,q2⟩:=hm.own k x b o cap h2 hx cg;refine⟨q1,λhF=>?_⟩;have fK:=B.lt w b h.base hF;exact q2 ⟨fK,λhs=>KW b hs hF⟩
  ·obtain⟨q1,q2⟩:=h.own k x b o cap h2 hx hl;exact⟨cx q1 bA,q2⟩
 ·intro k j x y b o cap o' aO hk hx hj hy hl cg;rcases kinds k x hk with ⟨h1,h2,h3⟩|⟨h1,h2⟩
  ·rcases kinds j y hj with ⟨p1,p2,p3⟩|⟨p1,p2⟩
   ·exact hm.inj k j x y b o cap o' aO h2 hx p2 hy (by rw[same k x h1];exact hl) (by rw[same j y p1];exact cg)
   ·exact(part k x b o cap j y o' aO h1 hl p1 p2 hy cg).elim
  ·rcases kinds j y hj with ⟨p1,p2,p3⟩|⟨p1,p2⟩
   ·exact(part j y b o' aO k x o cap p1 cg h1 h2 hx hl).elim
   ·exact h.inj k j x y b o cap o' aO h2 hx p2 hy hl cg
 ·intro k j x F b o cap v hk hx hl hj hv hF;rcases kinds j _ hj with ⟨_,_,p3⟩|⟨p1,p2⟩
  ·cases p3
  have hF:=h.B7 p2 hv bA (λk2 fF iG=>aI k2 fF (xt j F v k2 p2 hv iG)) hF;rcases kinds k x hk with ⟨h1,h2,h3⟩|⟨h1,h2⟩
  ·have cg:au k=some (.at b o cap):=by rw[same k x h1];exact hl
   have hb:b<w.heap.size:=by obtain⟨lc,q1,q2⟩:=h.born j _ p2;rw[hv]at q1;injection q1 with q1;subst q1;exact q2.wB rfl hF
   exact(hm.own k x b o cap h2 hx cg).2 ⟨hb,xt j F v b p2 hv hF⟩
  ·exact h.apart k j x F b o cap v h2 hx hl p2 hv hF
 ·intro k x b o cap hk hx hl;rcases kinds k x hk with ⟨h1,h2,h3⟩|⟨h1,h2⟩
  ·cases x<;>simp[Obj.owns,Obj.gj]at h3 hx
  ·obtain⟨q1,q2⟩:=h.seen k x b o cap h2 hx hl;refine⟨cx q1 bA,λj y o' aO hj hy cg=>?_⟩;rcases kinds j y hj with ⟨p1,p2,p3⟩|⟨p1,p2⟩
   ·have jw:au j=some (.at b o' aO):=by rw[same j y p1];exact cg
    exact(hm.own j y b o' aO p2 hy jw).2 ⟨q1,C9 k x b o cap h2 hx hl⟩
   ·exact q2 j y o' aO p2 hy cg
 ·intro j F hj;rcases kinds j _ hj with ⟨_,_,h3⟩|⟨h1,h2⟩
  ·cases h3
  ·exact h.fa j F h2
 ·intro j k F F' hj hk;rcases kinds j _ hj with ⟨_,_,h3⟩|⟨_,h2⟩
  ·cases h3
  rcases kinds k _ hk with ⟨_,_,h3⟩|⟨_,vB⟩
  ·cases h3
  exact h.one j k F F' h2 vB
def xz(P:Program)(f:FuncId)(K:Nat)(args:aj)(Os Vs:aH)(val:Value)(cq:aH):Prop:=
 ∀ B:aa,B.ds=[]->∀(ι:Map) (c:Nat->Option Obj) (w:World) (args':aj),aM B ι c w->cS c (Os++Vs)->eD c K->bI (aG ι) args args'->
  Calls P f args'.toArray w λe w'=>∃ v' au c',e=.returned v'/\Map.le ι au/\aG au val v'/\aM B au c' w'/\cS c' cq/\∀ k,k<K->ag (Os++Vs) k=none->c' k=c k
theorem ou{f:FuncId}{fn:Func}{args:aj}{Os Vs cq:aH}{val:Value}(gv:P.follows .mixedOrders=true)(hf:P.funcs[f]?=some fn)(n:Nat){N:Nat}(hN:N=args.length+(fn.ntmps-args.length))(rs:∀ B,bE P B N)
  (h:∀ B,nt (fQ (P:=P) fn n args (Os++Vs) K (rs B)) cq=nu (fQ fn n args (Os++Vs) K (rs B)) val cq):xz P f K args Os Vs val cq:=by
 intro B mE ι c w args' hm ha hu de;exact R2 gv hf hN n (h B) de hm ha hu (λau bY v' w' hle hc bj dz hk=>⟨v',au,bY,rfl,hle,hc,bj,λk x e=>dz (k,x) (j4 e),hk⟩) mE
theorem aB3(hm:aM B ι c w){Os Vs:aH}(hL:cS c (Os++Vs))(dq:∀ k x,ag (Os++Vs) k=some x->k<K/\fP K x)(dH:∀ k x,ag Os k=some x->x.owns=true)(pa:∀ k x,ag Vs k=some x->x.gj=true):
  ∃ S:Nat->Prop,(∀ b,S b->∃ k x o cap,ag Os k=some x/\ι k=some (.at b o cap))/\aM (aa.KV w S) (vG ι K) (oU c K (Os++Vs)) w/\cS (oU c K (Os++Vs)) (Os++Vs)/\eD (oU c K (Os++Vs)) K:=by
 refine⟨λb=>∃ k x o cap,ag Os k=some x/\ι k=some (.at b o cap),λb h=>h,?_,λk x e=>?_,λk hk=>by unfold oU;rw[ao o_]⟩
 ·refine Oi (L:=Os++Vs) hm hL (λk x e=>xq (dq k x e).1) (λk x lc e _ ho=>ho.below (λk hk l e=>by rw[xq hk];exact e) (dq k x e).2) ⟨.refl _,rfl,rfl,bh _,λ_ _ _=>rfl⟩ (λk x b o cap e hx hl hF=>?_) (bh _) (λk e=>?_) (λk x e=>?_) (λk F e=>?_) (λ_ _ _ _ _ _ h=>h) n_
  ·refine hF.2 ⟨k,x,o,cap,?_,hl⟩;rw[gM]at e;cases e1:ag Os k with
   |some y=>rw[e1]at e;exact e
   |none=>
    rw[e1]at e;have:=pa k x e;cases x<;>simp[Obj.owns,Obj.gj]at hx this
  ·unfold oU at e;unfold vG;split at e
   ·rename_i hk;rw[aw hk];split at e
    ·cases e
    ·cases hc:c k with
     |none=>exact hm.dr k hc
     |some x=>rw[hc]at e;cases e
   ·rename_i hk;rw[ao hk]
  ·unfold oU at e;split at e
   ·rename_i hk;split at e
    ·rename_i y hy;injection e with e;subst e;exact .inl hy
    ·cases hc:c k with
     |none=>rw[hc]at e;cases e
     |some y=>
      rw[hc]at e;injection e with e;obtain⟨lc,q,_⟩:=hm.born k y hc;exact .inr ⟨e.symm,lc,by rw[xq hk];exact q⟩
   ·cases e
  ·rw[gM]at e;cases e1:ag Os k with
   |some y=>rw[e1]at e;injection e with e;subst e;have:=dH k _ e1;cases this
   |none=>rw[e1]at e;have:=pa k _ e;cases this
 ·unfold oU;rw[aw (dq k x e).1,e]
theorem aB4(hm:aM B ι c w){L:aH}(hL:cS c L){B':aa}{au:Map}{c':Nat->Option Obj}(bj:aM B' au c' w4)(hle:Map.le (vG ι K) au)(gD:∀ k,k<K->ag L k=none->c' k=oU c K L k):
  ∀ k,k<K->∀ lc,au k=some lc->ι k=some lc:=λk hk lc e=>by
 cases qp:ι k with
 |some y7=>
  have:=hle k y7 (by rw[xq hk];exact qp);rw[e]at this;exact this.symm
 |none=>
  exfalso;have hc:c k=none:=by
   cases hc:c k with
   |none=>rfl
   |some y=>obtain⟨y7,q,_⟩:=hm.born k y hc;rw[qp]at q;cases q
  have vm:ag L k=none:=by
   cases e1:ag L k with
   |none=>rfl
   |some y=>rw[hL k y e1]at hc;cases hc
  have q1:c' k=none:=by rw[gD k hk vm];unfold oU;rw[aw hk,vm,hc];rfl
  rw[bj.dr k q1]at e;cases e
theorem O5{f:FuncId}{o:Oper}{x:Operand}{args ca:aj}{Os Vs cq:aH}{val:Value}(h:xz P f K (args++ca) Os Vs val cq)(ho:dp o.op=some x)(eG:gk P f=true)(nA:nr K val=true)
  (de:(args++ca).all (nr K)=true) (dq:((Os++Vs).all λp=>Nat.blt p.1 K&&oq K p)=true) (Fu:(cq.all (oq K))=true) (dH:(Os.all λp=>p.2.owns)=true) (qK:(cq.all λp=>p.2.owns)=true) (pa:(Vs.all λp=>p.2.gj)=true) (jQ:cq.map (·.1)=Os.map (·.1)) :
  cA P B o (.func (.func f) #[] ca.toArray::args) ((Os++Vs).map λp=>(p.1,some p.2)) val cq:=by
 have:=jB (P:=P) (B:=B) (o:=o) (x:=x) (f:=f) (fi:=[]) (args:=args) (ca:=ca) (need:=(Os++Vs).map λp=>(p.1,some p.2)) (val:=val) (cR:=cq) ho eG ?_
 ·simpa using this
 ·intro ι c w hm hn args' ha;rw[jo]at ha;have hL:cS c (Os++Vs):=Om hn;have KX:∀ k x,ag (Os++Vs) k=some x->k<K/\fP K x:=λk x e=>by have:=nH dq e;simp only[db,AF]at this;exact⟨this.1,Dc this.2⟩
  obtain⟨S,hS,Ky,Kz,uI⟩:=aB3 hm hL KX (λk x e=>nH dH e) (λk x e=>nH pa e);have bZ:bI (aG (vG ι K)) (args++ca) args':=by
   have key:∀{l l':aj},bI (aG ι) l l'->(∀ v∈l,nr K v=true)->bI (aG (vG ι K)) l l':=by
    intro l l' h hl;induction h with
    |nil=>exact .nil
    |cons h t ih=>exact .cons (h.low (λk hk l e=>by rw[xq hk];exact e) (hl _ (aT ..))) (ih λc hc=>hl c (bB _ hc))
   exact key ha (bf.1 de)
  refine(h (aa.KV w S) rfl _ _ w args' Ky Kz uI bZ).mono ?_
  rintro e w' ⟨v',au,c',rfl,hle,hc,bj,r6,gD⟩
  have Fs:=aB4 hm hL bj hle gD;refine⟨ι,v',rfl,Map.le.refl _,?_,aLH hm (λk x e=>hL k x (by rw[gM,e])) (λk x e=>nH dH e) (λk x e=>nH qK e) (HY jQ) hS (λk x e=>Dc (nH Fu e)) bj r6 Fs λk x e=>?_⟩
  ·exact hc.low Fs nA
  ·cases e1:ag Os k with
   |none=>rw[(HY jQ k).2 e1]at e;cases e
   |some y=>exact(KX k y (by rw[gM,e1])).1
theorem aB5{f:FuncId}{o:Oper}{x:Operand}{args ca:aj}{Os Vs:aH}{val:Value}(h:xz P f K (args++ca) Os Vs val Os)(ho:dp o.op=some x)(eG:gk P f=true)(nA:nr K val=true)
  (de:(args++ca).all (nr K)=true) (dq:((Os++Vs).all λp=>Nat.blt p.1 K&&oq K p)=true) (Fu:(Os.all (oq K))=true) (dH:(Os.all λp=>p.2.owns)=true) (pa:(Vs.all λp=>p.2.gj)=true) :
  cA P B o (.func (.func f) #[] ca.toArray::args) ((Os++Vs).map λp=>(p.1,some p.2)) val []:=by
 intro R ι c a w hv hm hn Kt Q hK;refine O5 h ho eG nA de dq Fu dH dH pa rfl R ι c a w hv hm hn Kt Q λau v' w' h1 h2 h3=>hK au v' w' h1 h2 ?_;have hL:cS c (Os++Vs):=Om hn;refine h3.ext λk=>?_;show c k=ll c Os k;rw[vi];cases e:ag Os k with
 |none=>rfl
 |some y=>exact hL k y (by rw[gM,e])
end
section
variable{α:Type}(enc:α->aj)
def dc(l:List α):aj:=l.flatMap enc
structure qM(s:Nat):Prop where
 len:∀ x,(enc x).length=s
 flat:∀ x,∀ v∈enc x,flat v=true
 one:∀ x,∀ v∈enc x,v.oneCell'=true
variable{enc}{s:Nat}
theorem Dp(x:α)(l:List α):dc enc (x::l)=enc x++dc enc l:=rfl
theorem H6(l m:List α):dc enc (l++m)=dc enc l++dc enc m:=by unfold dc;rw[UL]
theorem tB(h:qM enc s):∀ l:List α,(dc enc l).length=l.length*s
 |[]=>by simp[dc]
 |x::l=>by rw[Dp,iJ,h.len,tB h l,oD,yC,mF]
theorem KY(h:qM enc s)(l:List α):∀ v∈dc enc l,Go.Proofs.YtjjefbkbljlgdaaGreatDoor.flat v=true:=λv hv=>by unfold dc at hv;rw[BF]at hv;obtain⟨x,_,hx⟩:=hv;exact h.flat x v hx
theorem gU(h:qM enc s)(l:List α):(dc enc l).all Go.Proofs.YtjjefbkbljlgdaaGreatDoor.flat=true:=bf.2 (KY h l)
theorem UM(h:qM enc s):∀(l:List α) (m:Nat),(dc enc l).drop (m*s)=dc enc (l.drop m)
 |l,0=>by simp
 |[],m+1=>by simp[dc]
 |x::l,m+1=>by rw[Dp,yC,mF,<-Nc,Rk (h.len x),UM h l m,List.drop_succ_cons]
theorem UN(h:qM enc s):∀(l:List α) (m:Nat),(dc enc l).take (m*s)=dc enc (l.take m)
 |l,0=>by simp[dc]
 |[],m+1=>by simp[dc]
 |x::l,m+1=>by rw[Dp,yC,mF,List.take_succ_cons,Dp,aB6,h.len,EV,UN h l m,kj (by rw[h.len];omega)]
theorem O6(h:qM enc s){l:List α}{i:Nat}{x:α}(hx:l[i]?=some x):((dc enc l).drop (i*s)).take s=enc x:=by
 rw[UM h];have al:=(eE.1 hx).1;have e:l.drop i=x::l.drop (i+1):=by
  rw[O7 al]
  congr 1
  exact(eE.1 hx).2
 rw[e,Dp,Rj (h.len x)]
theorem O8:∀(vs a b:aj) (o:Nat),iT (a++b) (a.length+o) vs=a++iT b o vs
 |[],a,b,o=>rfl
 |v::vs,a,b,o=>by unfold iT;rw[UO _ _ o_,EV,ug,O8 vs]
theorem UP:∀(vs a b:aj),a.length=vs.length->iT (a++b) 0 vs=vs++b
 |[],a,b,h=>by rw[lq h];rfl
 |v::vs,[],b,h=>by cases h
 |v::vs,u::a,b,h=>by unfold iT;rw[EW,List.set_cons_zero];have:=O8 vs [v] (a++b) 0;rw[vS]at this;rw[jZ];have e:iT (v::(a++b)) 1 vs=v::iT (a++b) 0 vs:=this;rw[e,UP vs a b (by simpa using h)];rfl
theorem aB7(h:qM enc s):∀{l:List α} {i:Nat} {y:α},i<l.length->iT (dc enc l) (i*s) (enc y)=dc enc (l.set i y)
 |x::l,0,y,_=>by rw[lB,Dp,UP _ _ _ (by rw[h.len,h.len])];rfl
 |x::l,i+1,y,hi=>by rw[yC,mF,Dp];have:=O8 (enc y) (enc x) (dc enc l) (i*s);rw[h.len]at this;rw[this,aB7 h (by simpa using hi),List.set_cons_succ,Dp]
variable{P:Program}
def H7(P:Program)(t:TypeId):Option Nat:=match P.underlying t,P.info? t with
 |some d,some i=>if d.isRow then some i.size else none
 |_,_=>none
theorem aB8(h:qM enc s){t:TypeId}(ht:H7 P t=some s){l:List α}{i:Nat}{x:α}(hx:l[i]?=some x):du P t (dc enc l) (i*s)=some (.agg (enc x).toArray):=by
 unfold H7 at ht;split at ht
 ·rename_i d inf h1 h2;split at ht
  ·rename_i hr;injection ht with ht;unfold du;rw[h1,h2];dsimp only;have al:=(eE.1 hx).1;have:(i+1)*s<=l.length*s:=e8 s al;rw[yC]at this;rw[aw hr,ht,aw (by rw[Nat.ble_eq,tB h];exact this),O6 h hx]
  ·cases ht
 ·cases ht
theorem aLI(h:qM enc s){t:TypeId}(ht:H7 P t=some s){l:List α}{i:Nat}{y:α}(hi:i<l.length):eU P t (dc enc l) (i*s) (.agg (enc y).toArray)=some (dc enc (l.set i y)):=by
 unfold H7 at ht;split at ht
 ·rename_i d inf h1 h2;split at ht
  ·rename_i hr;injection ht with ht;unfold eU;rw[h2];dsimp only;have hc:(Value.agg (enc y).toArray).cells.toList=enc y:=rfl;have hs:(Value.agg (enc y).toArray).cells.size=s:=by show(enc y).toArray.size=s;rw[Mn,h.len]
   have:(i+1)*s<=l.length*s:=e8 s hi;rw[yC]at this;rw[aw (by simp only[db,Nat.ble_eq];refine⟨⟨by rw[hs,ht];simp,by rw[hs,tB h];exact this⟩,bf.2 λv hv=>h.one y v (by rwa[hc]at hv)⟩),hc,aB7 h hi]
  ·cases ht
 ·cases ht
end
section
open V3 (dot ax cL smul)
theorem gh:qM RV.cs 30 where
 len r:=rfl
 flat r:=RV.nF r
 one r v hv:=by simp only[RV.cs,RN.cs,dY,cy,jh,ji]at hv;rcases hv with (h|h|h|h|h|h|h|h|h|h)|(h|h|h|h|h|h|h|h|h|h)|(h|h|h|h|h|h|h|h|h|h)<;>subst h<;>rfl
theorem iD:qM RP.cs 40 where
 len r:=rfl
 flat r v hv:=by
  simp only[RP.cs,dY]at hv;rcases hv with h|h
  ·exact RV.nF _ v h
  ·exact RN.nF _ v h
 one r v hv:=by
  simp only[RP.cs,dY]at hv;rcases hv with h|h
  ·exact gh.one _ v h
  ·simp only[RN.cs,cy,jh,ji]at h;rcases h with (h|h|h|h|h|h|h|h|h|h)<;>subst h<;>rfl
abbrev da(l:List RP):aj:=dc RP.cs l
abbrev cE(l:List RV):aj:=dc RV.cs l
theorem vT{l:List RP}{i:Nat}{p:RP}(h:l[i]?=some p):du prog 35 (da l) (i*40)=some p.v:=aB8 iD k_ h
theorem sj{l:List RV}{i:Nat}{p:RV}(h:l[i]?=some p):du prog 33 (cE l) (i*30)=some p.v:=aB8 gh k_ h
def xA{α:Type}(b:α->Bool):List α->Nat->Int
 |[],_=>-1
 |x::l,i=>if b x then(i:Int)else xA b l (i+1)
theorem O9{α:Type}{b:α->Bool}:∀{l:List α} (i:Nat),(∀ x∈l,b x=false)->xA b l i=-1
 |[],_,_=>rfl
 |x::l,i,h=>by unfold xA;rw[h x (aT ..),O9 (i+1) λy hy=>h y (bB _ hy)];rfl
theorem Pa{α:Type}{b:α->Bool}:∀{l:List α} {e:Nat} {x:α} (i:Nat),l[e]?=some x->b x=true->(∀(j:Nat) (y:α),j<e->l[j]?=some y->b y=false)->xA b l i=((i+e:Nat):Int)
 |[],e,x,i,h,_,_=>by simp at h
 |y::l,0,x,i,h,hx,_=>by simp at h;subst h;unfold xA;rw[hx];rfl
 |y::l,e+1,x,i,h,hx,hb=>by unfold xA;rw[hb 0 y o_ rfl,Pa (i+1) (by simpa using h) hx λj z hj hz=>hb (j+1) z o_ (by simpa using hz)];simp;omega
theorem FL{α:Type}(b:α->Bool):∀(l:List α),(∀ x∈l,b x=false)\/∃(e:Nat) (x:α),l[e]?=some x/\b x=true/\∀(j:Nat) (y:α),j<e->l[j]?=some y->b y=false
 |[]=>.inl n_
 |x::l=>by
  cases hx:b x with
  |true=>exact .inr ⟨0,x,rfl,hx,λj y hj=>by omega⟩
  |false=>
   rcases FL b l with h|⟨e,y,h1,h2,h3⟩
   ·refine .inl λy hy=>?_;rcases cy.1 hy with rfl|hy
    ·exact hx
    ·exact h y hy
   ·refine .inr ⟨e+1,y,by simpa using h1,h2,λj z hj hz=>?_⟩;cases j with
    |zero=>simp at hz;subst hz;exact hx
    |succ j=>exact h3 j z o_ (by simpa using hz)
theorem aB9{α:Type}{b:α->Bool}{l:List α}:decide (xA b l 0>=0)=l.any b:=by
 rcases FL b l with h|⟨e,x,h1,h2,h3⟩
 ·rw[O9 0 h];have:l.any b=false:=by rw[Jt];intro x hx;rw[h x hx];simp
  rw[this];rfl
 ·rw[Pa 0 h1 h2 h3];have:l.any b=true:=rC.2 ⟨x,cQ h1,h2⟩;rw[this,BE];omega
section
variable{Bs:aa}{g:FuncId}{ps:List RP}{caps:aj}{b:RP->Bool}
def UQ(g:FuncId):Value:=.func (.func g) #[] #[bX 1]
def zv(g:FuncId)(n i:Nat):aV:=[(8,vI i),(6,sl 0 n),(7,vI n),(0,sl 0 n),(1,UQ g)]
def tC(ps:List RP)(caps:aj):aH:=[(0,.view (da ps)),(1,.view caps)]
noncomputable def ifS{i:Nat}{p:RP}{b:Bool}(hc:gk prog g=true)(jy:caps.all flat=true)(hi:i<ps.length)(hp:ps[i]?=some p)(h:cD prog g [.p p.v,.q caps] (.bool b))(more:bE prog Bs 19):bE prog Bs 19:=
 .lt 9 i ps.length true (aB hi)::.c9 f111 14 0 ps.length i 40 hi k_::.ld f111 15 35 0 (i*40) (.view (da ps)) p.v rfl (vT hp) k_::
  .step 16 (av f111 16) [UQ g,p.v] [(1,some (.view caps))] (.bool b) [] (aKz (vs:=[p.v]) (ca:=[bX 1]) (x:=.tmp 11) h (.p rfl (.q (x:=.view caps) rfl jy .nil)) k_ hc rfl)::more
theorem aLJ{i:Nat}{p:RP}(hc:gk prog g=true)(jy:caps.all flat=true)(hi:i<ps.length)(hp:ps[i]?=some p)(h:cD prog g [.p p.v,.q caps] (.bool false))(h63:ps.length<9223372036854775807):
  ah prog Bs 19 (aE (af f111 0)) (zv g ps.length i) (tC ps caps) 2 ⟨.normal,zv g ps.length (i+1),tC ps caps,2⟩:=
 aA (ifS hc jy hi hp h [.sum 18 i 1 (i+1) rfl o_])
theorem aLK{i:Nat}{p:RP}(hc:gk prog g=true)(jy:caps.all flat=true)(hi:i<ps.length)(hp:ps[i]?=some p)(h:cD prog g [.p p.v,.q caps] (.bool true)):
  ah prog Bs 19 (aE (af f111 0)) (zv g ps.length i) (tC ps caps) 2 ⟨.ret,[(4,vI i)],tC ps caps,2⟩:=
 aA (ifS hc jy hi hp h [])
theorem aLL:ah prog Bs 19 (aE (af f111 0)) (zv g ps.length ps.length) (tC ps caps) 2 ⟨.exit 0,[],tC ps caps,2⟩:=
 aA [.lt 9 ps.length ps.length false s_]
theorem dV{f:FuncId}{fn:Func}{l:List aP}{v:Value}(hf:prog.funcs[f]?=some fn)(hl:(l.all aP.ok)=true)(N:Nat)(rs:∀ w,bE prog (aa.at w) N)(hN:N=(eL 0 l).length+(fn.ntmps-(eL 0 l).length):=by kernel_rfl)(h:∀ w,nt (fQ (P:=prog) fn 100 (eL 0 l) (jt 0 l) (jG 0 l) (rs w)) []=nu (fQ fn 100 (eL 0 l) (jt 0 l) (jG 0 l) (rs w)) v []:=by intro _;kernel_rfl)(hv:flat v=true:=by kernel_rfl):cD prog f l v:=fJ mixed hf hl 100 hN rs h hv
theorem aLM(hc:gk prog g=true)(jy:caps.all flat=true)(h63:ps.length<9223372036854775807)(h:∀ p∈ps,cD prog g [.p p.v,.q caps] (.bool (b p))):cD prog 111 [.r ps.length (da ps),.f g caps] (.int .i64 (xA b ps 0)):=by
 have ay:([aP.r ps.length (da ps),.f g caps].all aP.ok)=true:=by simp only[dG,fB,aP.ok,gU iD,jy,vU]
 have tD:∀(B:aa) e,e<=ps.length->(∀ j y,j<e->ps[j]?=some y->b y=false)->∀ i,i<e->ah prog B 19 (aE (af f111 0)) (zv g ps.length i) (tC ps caps) 2 ⟨.normal,zv g ps.length (i+1),tC ps caps,2⟩:=λB e he hb i hi=>by
  have al:i<ps.length:=by omega
  have hp:ps[i]?=some ps[i]:=bd al;have hh:=h ps[i] (dS al);rw[hb i ps[i] hi hp]at hh;exact aLJ hc jy al hp hh h63
 rcases FL b ps with hn|⟨e,x,h1,h2,h3⟩
 ·rw[O9 0 hn];have lo:∀ B:aa,ah prog B 19 (.block 0 (af f111 0)) (zv g ps.length 0) (tC ps caps) 2 ⟨.normal,[],tC ps caps,2⟩:=λB=>
   bO (id:=0) (ch ps.length (λi=>zv g ps.length i) (λ_=>tC ps caps) (λi k _=>Iff.rfl) (tD B ps.length (bh _) λj y _ hy=>hn y (cQ hy)) aLL n_)
  exact dV func111 ay 19 (λw=>[.code 0 _ _ _ _ _ (lo _)])
 ·have al:=(eE.1 h1).1;have hh:=h x (cQ h1);rw[h2]at hh;rw[Pa 0 h1 h2 h3,jZ];have lo:∀ B:aa,ah prog B 19 (.block 0 (af f111 0)) (zv g ps.length 0) (tC ps caps) 2 ⟨.ret,[(4,vI e)],tC ps caps,2⟩:=λB=>
   bO (id:=0) (ch e (λi=>zv g ps.length i) (λ_=>tC ps caps) (λi k _=>Iff.rfl) (tD B e o_ h3) (aLK hc jy al h1 hh) n_)
  exact dV func111 ay 19 (λw=>[.code 0 _ _ _ _ _ (lo _)])
theorem aLN(hc:gk prog g=true)(jy:caps.all flat=true)(h63:ps.length<9223372036854775807)(h:∀ p∈ps,cD prog g [.p p.v,.q caps] (.bool (b p))):cD prog 70 [.r ps.length (da ps),.f g caps] (.bool (ps.any b)):=by
 have ay:([aP.r ps.length (da ps),.f g caps].all aP.ok)=true:=by simp only[dG,fB,aP.ok,gU iD,jy,vU]
 rw[<-aB9];exact dV func70 ay 9 (λw=>[.step 7 (av f70 7) [.func (.func 111) #[] #[],sl 0 ps.length,UQ g] [(0,some (.view (da ps))),(1,some (.view caps))] (.int .i64 (xA b ps 0)) []
  (dE (aLM hc jy h63 h) (.w (x:=.view (da ps)) rfl (gU iD ps) (λh=>by rw[lq h];rfl) (.f (x:=.view caps) rfl jy .nil)) (x:=.func 111) k_ k_ rfl)])
end
def aQ(ps:List (HS K)):aj:=da (ps.map cF)
def fC(ps:List (HS K)):aP:=.r ps.length (aQ ps)
theorem cZ(ps:List (HS K)):(aQ ps).all flat=true:=gU iD _
theorem zw{ps:List (HS K)}{i:Nat}{p:HS K}(h:ps[i]?=some p):du prog 35 (aQ ps) (i*40)=some (cB p):=vT (by rw[Cd,h];rfl)
theorem iE{ps:List (HS K)}(h:ps.length=0):aQ ps=[]:=by rw[lq h];rfl
def aR(vs:List (V3 K)):aj:=cE (vs.map cC)
def uR(vs:List (V3 K)):aP:=.r vs.length (aR vs)
theorem dW(vs:List (V3 K)):(aR vs).all flat=true:=gU gh _
theorem mP{vs:List (V3 K)}{i:Nat}{v:V3 K}(h:vs[i]?=some v):du prog 33 (aR vs) (i*30)=some (bP v):=sj (by rw[Cd,h];rfl)
theorem xB{vs:List (V3 K)}(h:vs.length=0):aR vs=[]:=by rw[lq h];rfl
open Classical in
theorem UR{g:FuncId}{caps:aj}{ps:List (HS K)}{b:HS K->Bool}(hc:gk prog g=true)(jy:caps.all flat=true)(h63:ps.length<9223372036854775807)(h:∀ p∈ps,cD prog g [.p (cB p),.q caps] (.bool (b p))):
  cD prog 70 [fC ps,.f g caps] (.bool (ps.any b)):=by
 have:=aLN (g:=g) (caps:=caps) (ps:=ps.map cF) (b:=λr=>if hr:∃ p∈ps,cF p=r then b hr.choose else false) hc jy (by rw[ek];exact h63) (λr hr=>by obtain⟨p,hp,rfl⟩:=di.1 hr;have hex:∃ q∈ps,cF q=cF p:=⟨p,hp,rfl⟩;rw[dif_pos hex];have e:hex.choose=p:=O1 hex.choose_spec.2;rw[e];exact h p hp)
 rw[ek]at this;have e:(ps.map cF).any (λr=>if hr:∃ p∈ps,cF p=r then b hr.choose else false)=ps.any b:=by
  rw[List.any_map];have:∀ l:List (HS K),(∀ p∈l,p∈ps)->l.any ((λr=>if hr:∃ p∈ps,cF p=r then b hr.choose else false)∘cF)=l.any b:=by
   intro l;induction l with
   |nil=>intro _;rfl
   |cons p l ih=>
    intro hl;rw[List.any_cons,List.any_cons,ih λq hq=>hl q (bB _ hq)];refine cI (·||l.any b) ?_;have hex:∃ q∈ps,cF q=cF p:=⟨p,hl p (aT ..),rfl⟩;show(if hr:∃ q∈ps,cF q=cF p then b hr.choose else false)=b p;rw[dif_pos hex,O1 hex.choose_spec.2]
  exact this ps λp hp=>hp
 rw[e]at this;exact this
theorem aLO{p:HS K}{v:V3 K}{m n:Nat}(hp:bo m p)(hv:aF n v)(cT:4*(3*(m+n)+14)+20<=aC):cD prog 151 [.p (cB p),.q (cC v).cs] (.bool (decide (OF.az (dot p.n v)>0))):=by have h1:=uP hp.1 hv (show 3*(m+n)+16<aC by omega);have h2:=nG (hp.1.dot hv) cT;generalize OF.az (dot p.n v)=z at *;exact FJ func151 10 (λ_=>[h1.at 7,h2.at 8])
theorem aLP{p:HS K}{v:V3 K}{m n:Nat}(hp:bo m p)(hv:aF n v)(cT:4*(3*(m+n)+14+m)+30<=aC)(h:p.n≠0):cD prog 122 [.p (cB p),.q (cC v).cs] (.bool (decide (OF.az (dot p.n v-p.d)>=0))):=
 FJ func122 8 (λ_=>[(FK hp hv cT h).at 6])
theorem aLQ{p q:HS K}{m n:Nat}(hp:bo m p)(hq:bo n q)(hm:16*m+80<=aC)(hn:16*n+80<=aC)(fV:p.n≠0)(zu:q.n≠0):cD prog 123 [.p (cB q),.q (cF p).cs] (.bool (decide (canon p=canon q))):=
 FJ func123 7 (λ_=>[(UK hp hq hm hn fV zu).at 6])
def Dq(ps:List (HS K))(v:V3 K):Bool:=!decide (v=0)&&!ps.any λp=>decide (OF.az (dot p.n v)>0)
theorem aLR{ps:List (HS K)}{v:V3 K}{m n:Nat}(bW:∀ p∈ps,bo m p)(hv:aF n v)(cT:4*(3*(m+n)+14)+20<=aC)(h63:ps.length<9223372036854775807):cD prog 113 [fC ps,.p (bP v)] (.bool (Dq ps v)):=by
 have hz:=Dm hv o_;have ay:([fC ps,.p (bP v)].all aP.ok)=true:=by simp only[dG,fB,fC,aP.ok,cZ,jk,lD];rfl
 unfold Dq;by_cases h:v=0
 ·rw[aB h]at hz ⊢;exact dV func113 ay 14 (λ_=>[hz.at 6])
 ·rw[aJ h]at hz ⊢;have hc:=UR (g:=151) (caps:=(cC v).cs) (ps:=ps) (b:=λp=>decide (OF.az (dot p.n v)>0)) k_ (bf.2 (RV.nF _)) h63 λp hp=>aLO (bW p hp) hv cT;generalize (ps.any λp=>decide (OF.az (dot p.n v)>0))=t at *;exact dV func113 ay 14 (λ_=>[hz.at 6,.step 11 (av f113 11) [.func (.func 70) #[] #[],sl 0 ps.length,.func (.func 151) #[] #[bX 1]] [(0,some (.view (aQ ps))),(1,some (.aI (cC v).cs 33))] (.bool t) []
   (dE hc (.w (x:=.view (aQ ps)) rfl (cZ ps) iE (.f (x:=.aI (cC v).cs 33) rfl (bf.2 (RV.nF _)) .nil)) (x:=.func 70) k_ k_ rfl)])
def qg(ps:List (HS K))(u:V3 K):Bool:=Dq ps u||Dq ps (-u)
def qh(p:HS K)(l:List (HS K)):Bool:=l.any λq=>!decide (ax p.n q.n=0)
def tE:List (HS K)->Nat->Bool
 |_,0=>false
 |l,i+1=>match l[i]? with
  |some p=>tE l i||qh p (l.take i)
  |none=>tE l i
section
variable{Bs:aa}{ps:List (HS K)}
def BG(n i:Nat)(s:Bool)(j:Nat):aV:=[(20,vI j),(18,sl 0 i),(19,vI i),(0,sl 0 n),(5,bX 1),(3,.bool s)]
def sk(ps:List (HS K))(p:HS K):aH:=[(0,.view (aQ ps)),(1,.aI (cF p).cs 35)]
theorem aCa(p:HS K)(m:Nat):∀ x∈sk ps p,fP m x.2:=λx hx=>by
 simp only[sk,cy,jh,ji]at hx;rcases hx with rfl|rfl
 ·exact λv hv=>iK (bf.1 (cZ ps) v hv)
 ·exact λv hv=>iK (iD.flat _ v hv)
noncomputable def H8{i j:Nat}{p q:HS K}{m:Nat}(hj:j<i)(hq:ps[j]?=some q)(bW:∀ p∈ps,bo m p)(hp:bo m p)(hm:100*m+1000<=aC)(s:Bool)(more:bE prog Bs 47):bE prog Bs 47:=
 .lt 21 j i true (aB hj)::.c9 f72 22 0 i j 40 hj k_::.ld f72 23 35 0 (j*40) (.view (aQ ps)) (cB q) rfl (zw hq) k_::
  (vR hp.1 (bW q (cQ hq)).1 o_).at 28::
  (if s then more else(Dm (hp.1.ax (bW q (cQ hq)).1) o_).at 32::more)
theorem Pb{u:V3 K}{m n:Nat}(bW:∀ p∈ps,bo m p)(hu:aF n u)(cT:4*(3*(m+n)+14)+20<=aC)(h63:ps.length<9223372036854775807){o:Oper}{x:Operand}(ho:dp o.op=some x):
  cA prog Bs o [.func (.func 113) #[] #[],sl 0 ps.length,bP u] [(0,some (.view (aQ ps)))] (.bool (Dq ps u)) []:=
 dE (aLR bW hu cT h63) (.w (x:=.view (aQ ps)) rfl (cZ ps) iE (.p k_ .nil)) ho k_ k_
theorem aLS{i j:Nat}{p q:HS K}{m:Nat}(hj:j<i)(hq:ps[j]?=some q)(bW:∀ p∈ps,bo m p)(hp:bo m p)(hm:100*m+1000<=aC)(h63:ps.length<9223372036854775807)(mQ:i<=ps.length)(s:Bool)(hb:qg ps (ax p.n q.n)=false):
  ah prog Bs 47 (aE (af f72 2)) (BG ps.length i s j) (sk ps p) 2 ⟨.normal,BG ps.length i (s||!decide (ax p.n q.n=0)) (j+1),sk ps p,2⟩:=by
 have US:=bW q (cQ hq);have hc:=hp.1.ax US.1;unfold qg at hb;rw[Mx]at hb;have o1:=λBs=>Pb (Bs:=Bs) (x:=.func 113) (o:=av f72 37) bW hc o_ h63 k_;have o2:=λBs=>Pb (Bs:=Bs) (x:=.func 113) (o:=av f72 42) bW hc.neg o_ h63 k_;rw[hb.1]at o1;rw[hb.2]at o2;have ng:=H4 hc o_;have hs:∀ d:Bool,(s||!d)=(if s then true else !d):=λd=>by cases s<;>rfl
 cases s
 ·exact vn mixed 100 (ij:=4) (H8 hj hq bW hp hm false [.step 37 _ _ _ _ _ (o1 _),ng.at 41,.step 42 _ _ _ _ _ (o2 _),.sum 44 j 1 (j+1) rfl o_]) k_ rfl k_ (aCa _ 2) k_
 ·exact vn mixed 100 (ij:=4) (H8 hj hq bW hp hm true [.step 37 _ _ _ _ _ (o1 _),ng.at 41,.step 42 _ _ _ _ _ (o2 _),.sum 44 j 1 (j+1) rfl o_]) k_ rfl k_ (aCa _ 2) k_
theorem aLT{i j:Nat}{p q:HS K}{m:Nat}(hj:j<i)(hq:ps[j]?=some q)(bW:∀ p∈ps,bo m p)(hp:bo m p)(hm:100*m+1000<=aC)(h63:ps.length<9223372036854775807)(s:Bool)(hb:qg ps (ax p.n q.n)=true):
  ah prog Bs 47 (aE (af f72 2)) (BG ps.length i s j) (sk ps p) 2 ⟨.ret,[(2,.bool false)],sk ps p,4⟩:=by
 have US:=bW q (cQ hq);have hc:=hp.1.ax US.1;unfold qg at hb;have o1:=λBs=>Pb (Bs:=Bs) (x:=.func 113) (o:=av f72 37) bW hc o_ h63 k_;have o2:=λBs=>Pb (Bs:=Bs) (x:=.func 113) (o:=av f72 42) bW hc.neg o_ h63 k_;have ng:=H4 hc o_;cases h1:Dq ps (ax p.n q.n)with
 |true=>
  rw[h1]at o1;cases s
  ·exact aA (H8 hj hq bW hp hm false [.step 37 _ _ _ _ _ (o1 _)])
  ·exact aA (H8 hj hq bW hp hm true [.step 37 _ _ _ _ _ (o1 _)])
 |false=>
  rw[h1,yK]at hb;rw[h1]at o1;rw[hb]at o2;cases s
  ·exact aA (H8 hj hq bW hp hm false [.step 37 _ _ _ _ _ (o1 _),ng.at 41,.step 42 _ _ _ _ _ (o2 _)])
  ·exact aA (H8 hj hq bW hp hm true [.step 37 _ _ _ _ _ (o1 _),ng.at 41,.step 42 _ _ _ _ _ (o2 _)])
theorem aLU{i:Nat}{p:HS K}(s:Bool):ah prog Bs 47 (aE (af f72 2)) (BG ps.length i s i) (sk ps p) 2 ⟨.exit 2,[(3,.bool s)],sk ps p,2⟩:=
 aA [.lt 21 i i false s_]
theorem aLV{p q:HS K}{j:Nat}(hq:ps[j]?=some q):qh p (ps.take (j+1))=(qh p (ps.take j)||!decide (ax p.n q.n=0)):=by unfold qh;rw[vV,hq,List.any_append];simp
theorem aCb{i:Nat}{p:HS K}{m:Nat}(mQ:i<=ps.length)(bW:∀ p∈ps,bo m p)(hp:bo m p)(hm:100*m+1000<=aC)(h63:ps.length<9223372036854775807)(s:Bool):
  ah prog Bs 47 (.block 2 (af f72 2)) (BG ps.length i s 0) (sk ps p) 2 (if(ps.take i).any (λq=>qg ps (ax p.n q.n))=true then⟨.ret,[(2,.bool false)],sk ps p,4⟩else⟨.normal,[(3,.bool (s||qh p (ps.take i)))],sk ps p,2⟩):=by
 have at':∀{j:Nat},j<i->(ps.take i)[j]?=ps[j]?:=λhj=>by rw[ue,aw hj]
 have tD:∀ e,e<=i->(∀(j:Nat) y,j<e->(ps.take i)[j]?=some y->qg ps (ax p.n y.n)=false)->∀ j,j<e->
   ah prog Bs 47 (aE (af f72 2)) (BG ps.length i (s||qh p (ps.take j)) j) (sk ps p) 2 ⟨.normal,BG ps.length i (s||qh p (ps.take (j+1))) (j+1),sk ps p,2⟩:=λe he hb j hj=>by
  have hq:ps[j]?=some ps[j]:=bd o_;have:=aLS (Bs:=Bs) (p:=p) (show j<i by omega) hq bW hp hm h63 mQ (s||qh p (ps.take j)) (hb j _ hj (by rw[at' o_];exact hq));rwa[Bool.or_assoc,<-aLV hq]at this
 have e0:(s||qh p (ps.take 0))=s:=by simp[qh]
 rcases FL (λq:HS K=>qg ps (ax p.n q.n)) (ps.take i)with hn|⟨e,q,h1,h2,h3⟩
 ·have:¬(ps.take i).any (λq=>qg ps (ax p.n q.n))=true:=by rw[Pc,Jt];intro x hx;rw[hn x hx];simp
  rw[ao this];have:=ch (P:=prog) (B:=Bs) (N:=47) i (λj=>BG ps.length i (s||qh p (ps.take j)) j) (λ_=>sk ps p) (λi k _=>Iff.rfl) (tD i (bh _) λj y _ hy=>hn y (cQ hy)) (aLU _) n_;rw[e0]at this;exact bO (id:=2) this
 ·have ha:(ps.take i).any (λq=>qg ps (ax p.n q.n))=true:=rC.2 ⟨q,cQ h1,h2⟩;rw[aw ha];have hei:e<i:=by have:=(eE.1 h1).1;rw[jL]at this;omega
  have:=ch (P:=prog) (B:=Bs) (N:=47) e (λj=>BG ps.length i (s||qh p (ps.take j)) j) (λ_=>sk ps p) (λi k _=>Iff.rfl) (tD e o_ h3) (aLT hei (by rw[<-at' hei];exact h1) bW hp hm h63 _ h2) n_;rw[e0]at this;exact bO (id:=2) this
def FM(ps:List (HS K))(i:Nat):Bool:=match ps[i]? with
 |some p=>(ps.take i).any λq=>qg ps (ax p.n q.n)
 |none=>false
def Pd(ps:List (HS K))(n:Nat):Bool:=(List.range n).any (FM ps)
theorem Pe{i:Nat}{p:HS K}(h:ps[i]?=some p):FM ps i=(ps.take i).any λq=>qg ps (ax p.n q.n):=by unfold FM;rw[h]
theorem aCc{i:Nat}{p:HS K}(h:ps[i]?=some p):tE ps (i+1)=(tE ps i||qh p (ps.take i)):=by show(match ps[i]? with|some p=>tE ps i||qh p (ps.take i)|none=>tE ps i)=_;rw[h]
def qN(ps:List (HS K)):Bool:=!Pd ps ps.length&&tE ps ps.length
def zx(n i:Nat)(s:Bool):aV:=[(11,vI i),(9,sl 0 n),(10,vI n),(0,sl 0 n),(3,.bool s)]
def qO(ps:List (HS K)):aH:=[(0,.view (aQ ps))]
theorem aLW(m:Nat):∀ x∈qO ps,fP m x.2:=λx hx=>by simp only[qO,cy,jh,ji]at hx;subst hx;exact λv hv=>iK (bf.1 (cZ ps) v hv)
noncomputable def Dr{i:Nat}{p:HS K}(hi:i<ps.length)(hp:ps[i]?=some p)(more:bE prog Bs 47):bE prog Bs 47:=
 .lt 12 i ps.length true (aB hi)::.c9 f72 14 0 ps.length i 40 hi k_::.ld f72 15 35 0 (i*40) (.view (aQ ps)) (cB p) rfl (zw hp) k_::.upto f72 18 0 ps.length i 40 o_ k_::more
theorem aLX{i:Nat}{p:HS K}{m:Nat}(hi:i<ps.length)(hp:ps[i]?=some p)(bW:∀ p∈ps,bo m p)(hm:100*m+1000<=aC)(h63:ps.length<9223372036854775807)(s:Bool)(hb:(ps.take i).any (λq=>qg ps (ax p.n q.n))=false):
  ah prog Bs 47 (aE (af f72 0)) (zx ps.length i s) (qO ps) 1 ⟨.normal,zx ps.length (i+1) (s||qh p (ps.take i)),qO ps,1⟩:=by
 have lo:=aCb (Bs:=Bs) (show i<=ps.length by omega) bW (bW p (cQ hp)) hm h63 s;rw[hb,ao s_]at lo;generalize qh p (ps.take i)=t at *;exact vn mixed 100 (ij:=2) (Dr hi hp [.code 2 _ _ _ _ _ lo,.sum 45 i 1 (i+1) rfl o_]) k_ rfl k_ (aLW 1) k_
theorem aLY{i:Nat}{p:HS K}{m:Nat}(hi:i<ps.length)(hp:ps[i]?=some p)(bW:∀ p∈ps,bo m p)(hm:100*m+1000<=aC)(h63:ps.length<9223372036854775807)(s:Bool)(hb:(ps.take i).any (λq=>qg ps (ax p.n q.n))=true):
  ah prog Bs 47 (aE (af f72 0)) (zx ps.length i s) (qO ps) 1 ⟨.ret,[(2,.bool false)],qO ps,4⟩:=by
 have lo:=aCb (Bs:=Bs) (show i<=ps.length by omega) bW (bW p (cQ hp)) hm h63 s;rw[aw hb]at lo;exact aA (Dr hi hp [.code 2 _ _ _ _ _ lo])
theorem aLZ(s:Bool):ah prog Bs 47 (aE (af f72 0)) (zx ps.length ps.length s) (qO ps) 1 ⟨.exit 0,[(3,.bool s)],qO ps,1⟩:=
 aA [.lt 12 ps.length ps.length false s_]
theorem aL0{m:Nat}(bW:∀ p∈ps,bo m p)(hm:100*m+1000<=aC)(h63:ps.length<9223372036854775807):cD prog 72 [fC ps] (.bool (qN ps)):=by
 have ay:([fC ps].all aP.ok)=true:=by simp only[dG,fB,fC,aP.ok,cZ,jk]
 have tD:∀(B:aa) e,e<=ps.length->(∀(j:Nat) y,j<e->(List.range ps.length)[j]?=some y->FM ps y=false)->∀ i,i<e->
   ah prog B 47 (aE (af f72 0)) (zx ps.length i (tE ps i)) (qO ps) 1 ⟨.normal,zx ps.length (i+1) (tE ps (i+1)),qO ps,1⟩:=λB e he hb i hi=>by
  have al:i<ps.length:=by omega
  have hp:ps[i]?=some ps[i]:=bd al;rw[aCc hp];exact aLX al hp bW hm h63 _ (by rw[<-Pe hp];exact hb i i hi (KZ al))
 unfold qN Pd;rcases FL (FM ps) (List.range ps.length)with hn|⟨e,y,h1,h2,h3⟩
 ·have ha:(List.range ps.length).any (FM ps)=false:=by rw[Jt];intro x hx;rw[hn x hx];simp
  rw[ha];have lo:∀ B:aa,ah prog B 47 (.block 0 (af f72 0)) (zx ps.length 0 false) (qO ps) 1 ⟨.normal,[(3,.bool (tE ps ps.length))],qO ps,1⟩:=λB=>
   bO (id:=0) (ch ps.length (λi=>zx ps.length i (tE ps i)) (λ_=>qO ps) (λi k _=>Iff.rfl) (tD B ps.length (bh _) λj y _ hy=>hn y (cQ hy)) (aLZ _) n_)
  generalize tE ps ps.length=t at *;exact dV func72 ay 47 (λw=>[.code 0 _ _ _ _ _ (lo _)])
 ·have ha:(List.range ps.length).any (FM ps)=true:=rC.2 ⟨y,cQ h1,h2⟩;rw[ha];have al:e<ps.length:=by have:=(eE.1 h1).1;rwa[yB]at this
  have hy:y=e:=by rw[KZ al]at h1;injection h1 with h1;exact h1.symm
  subst hy;have hp:ps[y]?=some ps[y]:=bd al;have lo:∀ B:aa,ah prog B 47 (.block 0 (af f72 0)) (zx ps.length 0 false) (qO ps) 1 ⟨.ret,[(2,.bool false)],qO ps,4⟩:=λB=>
   bO (id:=0) (ch y (λi=>zx ps.length i (tE ps i)) (λ_=>qO ps) (λi k _=>Iff.rfl) (tD B y o_ h3) (aLY al hp bW hm h63 _ (by rw[<-Pe hp];exact h2)) n_)
  exact dV func72 ay 47 (λw=>[.code 0 _ _ _ _ _ (lo _)])
end
end
section
variable{P:Program}{B:aa}{N:Nat}
def UT(o:Oper):Bool:=match o.op with|.nilCheck _=>true|_=>false
theorem aL1{o:Oper}(ho:UT o=true)(k off:Nat):cA P B o [.pointer (some ⟨k,off,some 7⟩)] [] (.pointer (some ⟨k,off,some 7⟩)) []:=by
 unfold UT at ho;split at ho
 ·rename_i x bN;refine gY.step λι c ρ w aN hm hn=>?_;rw[bN]at aN;obtain⟨u,hu,hc⟩:=lT aN;have hu:ρ x=u:=by simpa[Op.operands]using hu
  obtain⟨b,oo,cap,hb,he⟩:=hc.yg rfl;refine⟨ι,.pointer (some ⟨b,oo+off,none⟩),w,Map.le.refl _,.ptr hb,hm,.inl ?_⟩;simp only[execOp,bN,hu,he];simp[go_sem]
 ·cases ho
def aX.ck(fn:Func)(key k off:Nat)(ho:UT (av fn key)=true):aX P B N:=.step key (av fn key) [.pointer (some ⟨k,off,some 7⟩)] [] (.pointer (some ⟨k,off,some 7⟩)) [] (aL1 ho k off)
end
section
open V3 (dot ax cL smul)
def UU:Option K->aj
 |some x=>(dQ x).cs
 |none=>zN.cs
def qP(s:eO K)(b d:V3 K):aj:=UU s.lo++(UU s.hi++(.bool s.lo.isSome::.bool s.hi.isSome::((cC b).cs++(cC d).cs)))
def qQ(s:eO K)(a b:K):eO K:=
 if OF.az a=0 then s
 else if OF.az a>0 then(match s.hi with|some h=>if OF.az (b*a⁻¹-h)<0 then⟨s.lo,some (b*a⁻¹)⟩else s|none=>⟨s.lo,some (b*a⁻¹)⟩)
 else(match s.lo with|some l=>if OF.az (b*a⁻¹-l)>0 then⟨some (b*a⁻¹),s.hi⟩else s|none=>⟨some (b*a⁻¹),s.hi⟩)
def aCd(s:eO K):Bool:=match s.lo,s.hi with
 |some l,some h=>decide (OF.az (l-h)<0)
 |_,_=>true
def sn(s:eO K)(a b:K):Bool:=if OF.az a=0 then decide (OF.az b>=0)else aCd (qQ s a b)
def nJ(n:Nat)(x:Option K):Prop:=∀ y,x=some y->Sz n y
theorem aL2{s:eO K}{p:HS K}{b d:V3 K}{m q z:Nat}(hp:bo m p)(hb:aF q b)(hd:aF q d)(dL:nJ z s.lo)(iv:nJ z s.hi)(hn:1000*(m+q)+100*z+10000<=aC):
  xz prog 155 20 [bX 6,cB p] [(6,.aI (qP s b d) 160)] [] (.bool (sn s (dot p.n d) (p.d-dot p.n b))) [(6,.aI (qP (qQ s (dot p.n d) (p.d-dot p.n b)) b d) 160)]:=by
 have iW:Sz (3*(m+q)+14) (dot p.n d):=hp.1.dot hd;have jz:Sz (m+(3*(m+q)+14)+1) (p.d-dot p.n b):=hp.2.sub (hp.1.dot hb);have d1:=uP hp.1 hd o_;have d2:=uP hp.1 hb o_;have sb:=Bm hp.2 (hp.1.dot hb) o_;have ow:=nG iW o_;have sgb:=nG jz o_;unfold sn qQ;generalize p.d-dot p.n b=y at *;generalize dot p.n d=a at *;obtain⟨lo,hi⟩:=s;dsimp only at dL iv ⊢;by_cases oF:a=0
 ·have e:OF.az a=0:=(OF.eZ a).2 oF;rw[aw e,aw e];have dv:=aJ7 jz o_;rw[<-oF]at dv;cases lo<;>cases hi<;>exact ou mixed func155 100 (N:=116) k_ (λ_=>[.ck f155 12 6 0 k_,d1.at 15,.ck f155 21 6 0 k_,d2.at 24,sb.at 25,dv.at 29,sgb.at 36]) (λ_=>k_)
 ·have e:OF.az a≠0:=λh=>oF ((OF.eZ a).1 h);rw[ao e,ao e];have dv:=HQ oF jz iW o_;have ht:=Sz.div oF jz iW;generalize y*a⁻¹=t at *;by_cases h:OF.az a>0
  ·rw[aw h];rcases lo with _|lo
   ·rcases hi with _|hi
    ·exact ou mixed func155 100 (N:=116) k_ (λ_=>[.ck f155 12 6 0 k_,d1.at 15,.ck f155 21 6 0 k_,d2.at 24,sb.at 25,dv.at 29,ow.at 40,.rw 41 (.bool (decide (OF.az a>0))) (.bool true) (by rw[aB h]),.ck f155 44 6 0 k_,.ck f155 61 6 0 k_,.ck f155 63 6 0 k_,.ck f155 93 6 0 k_]) (λ_=>k_)
    ·dsimp only;by_cases hc:OF.az (t-hi)<0
     ·rw[aw hc];exact ou mixed func155 100 (N:=116) k_ (λ_=>[.ck f155 12 6 0 k_,d1.at 15,.ck f155 21 6 0 k_,d2.at 24,sb.at 25,dv.at 29,ow.at 40,.rw 41 (.bool (decide (OF.az a>0))) (.bool true) (by rw[aB h]),.ck f155 44 6 0 k_,.ck f155 51 6 0 k_,(mg ht (iv _ rfl) o_).at 54,.rw 55 (.bool (decide (OF.az (t-hi)<0))) (.bool true) (by rw[aB hc]),.ck f155 61 6 0 k_,.ck f155 63 6 0 k_,.ck f155 93 6 0 k_]) (λ_=>k_)
     ·rw[ao hc];exact ou mixed func155 100 (N:=116) k_ (λ_=>[.ck f155 12 6 0 k_,d1.at 15,.ck f155 21 6 0 k_,d2.at 24,sb.at 25,dv.at 29,ow.at 40,.rw 41 (.bool (decide (OF.az a>0))) (.bool true) (by rw[aB h]),.ck f155 44 6 0 k_,.ck f155 51 6 0 k_,(mg ht (iv _ rfl) o_).at 54,.rw 55 (.bool (decide (OF.az (t-hi)<0))) (.bool false) (by rw[aJ hc]),ow.at 67,.rw 68 (.bool (decide (OF.az a<0))) (.bool false) (by rw[aJ o_]),.ck f155 93 6 0 k_]) (λ_=>k_)
   ·rcases hi with _|hi
    ·exact ou mixed func155 100 (N:=116) k_ (λ_=>[.ck f155 12 6 0 k_,d1.at 15,.ck f155 21 6 0 k_,d2.at 24,sb.at 25,dv.at 29,ow.at 40,.rw 41 (.bool (decide (OF.az a>0))) (.bool true) (by rw[aB h]),.ck f155 44 6 0 k_,.ck f155 61 6 0 k_,.ck f155 63 6 0 k_,.ck f155 93 6 0 k_,.ck f155 99 6 0 k_,.ck f155 106 6 0 k_,.ck f155 110 6 0 k_,(mg (dL _ rfl) ht o_).at 113]) (λ_=>k_)
    ·dsimp only;by_cases hc:OF.az (t-hi)<0
     ·rw[aw hc];exact ou mixed func155 100 (N:=116) k_ (λ_=>[.ck f155 12 6 0 k_,d1.at 15,.ck f155 21 6 0 k_,d2.at 24,sb.at 25,dv.at 29,ow.at 40,.rw 41 (.bool (decide (OF.az a>0))) (.bool true) (by rw[aB h]),.ck f155 44 6 0 k_,.ck f155 51 6 0 k_,(mg ht (iv _ rfl) o_).at 54,.rw 55 (.bool (decide (OF.az (t-hi)<0))) (.bool true) (by rw[aB hc]),.ck f155 61 6 0 k_,.ck f155 63 6 0 k_,.ck f155 93 6 0 k_,.ck f155 99 6 0 k_,.ck f155 106 6 0 k_,.ck f155 110 6 0 k_,(mg (dL _ rfl) ht o_).at 113]) (λ_=>k_)
     ·rw[ao hc];exact ou mixed func155 100 (N:=116) k_ (λ_=>[.ck f155 12 6 0 k_,d1.at 15,.ck f155 21 6 0 k_,d2.at 24,sb.at 25,dv.at 29,ow.at 40,.rw 41 (.bool (decide (OF.az a>0))) (.bool true) (by rw[aB h]),.ck f155 44 6 0 k_,.ck f155 51 6 0 k_,(mg ht (iv _ rfl) o_).at 54,.rw 55 (.bool (decide (OF.az (t-hi)<0))) (.bool false) (by rw[aJ hc]),ow.at 67,.rw 68 (.bool (decide (OF.az a<0))) (.bool false) (by rw[aJ o_]),.ck f155 93 6 0 k_,.ck f155 99 6 0 k_,.ck f155 106 6 0 k_,.ck f155 110 6 0 k_,(mg (dL _ rfl) (iv _ rfl) o_).at 113]) (λ_=>k_)
  ·rw[ao h];rcases lo with _|lo
   ·rcases hi with _|hi
    ·exact ou mixed func155 100 (N:=116) k_ (λ_=>[.ck f155 12 6 0 k_,d1.at 15,.ck f155 21 6 0 k_,d2.at 24,sb.at 25,dv.at 29,ow.at 40,.rw 41 (.bool (decide (OF.az a>0))) (.bool false) (by rw[aJ h]),ow.at 67,.rw 68 (.bool (decide (OF.az a<0))) (.bool true) (by rw[aB o_]),.ck f155 71 6 0 k_,.ck f155 88 6 0 k_,.ck f155 90 6 0 k_,.ck f155 93 6 0 k_,.ck f155 99 6 0 k_]) (λ_=>k_)
    ·exact ou mixed func155 100 (N:=116) k_ (λ_=>[.ck f155 12 6 0 k_,d1.at 15,.ck f155 21 6 0 k_,d2.at 24,sb.at 25,dv.at 29,ow.at 40,.rw 41 (.bool (decide (OF.az a>0))) (.bool false) (by rw[aJ h]),ow.at 67,.rw 68 (.bool (decide (OF.az a<0))) (.bool true) (by rw[aB o_]),.ck f155 71 6 0 k_,.ck f155 88 6 0 k_,.ck f155 90 6 0 k_,.ck f155 93 6 0 k_,.ck f155 99 6 0 k_,.ck f155 106 6 0 k_,.ck f155 110 6 0 k_,(mg ht (iv _ rfl) o_).at 113]) (λ_=>k_)
   ·rcases hi with _|hi
    ·dsimp only;by_cases hc:OF.az (t-lo)>0
     ·rw[aw hc];exact ou mixed func155 100 (N:=116) k_ (λ_=>[.ck f155 12 6 0 k_,d1.at 15,.ck f155 21 6 0 k_,d2.at 24,sb.at 25,dv.at 29,ow.at 40,.rw 41 (.bool (decide (OF.az a>0))) (.bool false) (by rw[aJ h]),ow.at 67,.rw 68 (.bool (decide (OF.az a<0))) (.bool true) (by rw[aB o_]),.ck f155 71 6 0 k_,.ck f155 78 6 0 k_,(mg ht (dL _ rfl) o_).at 81,.rw 82 (.bool (decide (OF.az (t-lo)>0))) (.bool true) (by rw[aB hc]),.ck f155 88 6 0 k_,.ck f155 90 6 0 k_,.ck f155 93 6 0 k_,.ck f155 99 6 0 k_]) (λ_=>k_)
     ·rw[ao hc];exact ou mixed func155 100 (N:=116) k_ (λ_=>[.ck f155 12 6 0 k_,d1.at 15,.ck f155 21 6 0 k_,d2.at 24,sb.at 25,dv.at 29,ow.at 40,.rw 41 (.bool (decide (OF.az a>0))) (.bool false) (by rw[aJ h]),ow.at 67,.rw 68 (.bool (decide (OF.az a<0))) (.bool true) (by rw[aB o_]),.ck f155 71 6 0 k_,.ck f155 78 6 0 k_,(mg ht (dL _ rfl) o_).at 81,.rw 82 (.bool (decide (OF.az (t-lo)>0))) (.bool false) (by rw[aJ hc]),.ck f155 93 6 0 k_,.ck f155 99 6 0 k_]) (λ_=>k_)
    ·dsimp only;by_cases hc:OF.az (t-lo)>0
     ·rw[aw hc];exact ou mixed func155 100 (N:=116) k_ (λ_=>[.ck f155 12 6 0 k_,d1.at 15,.ck f155 21 6 0 k_,d2.at 24,sb.at 25,dv.at 29,ow.at 40,.rw 41 (.bool (decide (OF.az a>0))) (.bool false) (by rw[aJ h]),ow.at 67,.rw 68 (.bool (decide (OF.az a<0))) (.bool true) (by rw[aB o_]),.ck f155 71 6 0 k_,.ck f155 78 6 0 k_,(mg ht (dL _ rfl) o_).at 81,.rw 82 (.bool (decide (OF.az (t-lo)>0))) (.bool true) (by rw[aB hc]),.ck f155 88 6 0 k_,.ck f155 90 6 0 k_,.ck f155 93 6 0 k_,.ck f155 99 6 0 k_,.ck f155 106 6 0 k_,.ck f155 110 6 0 k_,(mg ht (iv _ rfl) o_).at 113]) (λ_=>k_)
     ·rw[ao hc];exact ou mixed func155 100 (N:=116) k_ (λ_=>[.ck f155 12 6 0 k_,d1.at 15,.ck f155 21 6 0 k_,d2.at 24,sb.at 25,dv.at 29,ow.at 40,.rw 41 (.bool (decide (OF.az a>0))) (.bool false) (by rw[aJ h]),ow.at 67,.rw 68 (.bool (decide (OF.az a<0))) (.bool true) (by rw[aB o_]),.ck f155 71 6 0 k_,.ck f155 78 6 0 k_,(mg ht (dL _ rfl) o_).at 81,.rw 82 (.bool (decide (OF.az (t-lo)>0))) (.bool false) (by rw[aJ hc]),.ck f155 93 6 0 k_,.ck f155 99 6 0 k_,.ck f155 106 6 0 k_,.ck f155 110 6 0 k_,(mg (dL _ rfl) (iv _ rfl) o_).at 113]) (λ_=>k_)
end
def H9(P:Program)(f:FuncId)(l:List aP)(ty:TypeId)(size n:Nat)(xs:aj)(u:Value):Prop:=
 ∀ w vs,r7 w l vs->Calls P f vs.toArray w λe w'=>∃ v,e=.returned (.tuple #[v,u])/\w'.ownsRow w.heap.size ty size v n xs/\Below w.heap.size w w'
section
variable{P:Program}{B:aa}{N:Nat}
theorem aL3{f:FuncId}{fn:Func}{l:List aP}{ty:TypeId}{size m:Nat}{xs:aj}{u:Value}{k:Nat}(gv:P.follows .mixedOrders=true)(hf:P.funcs[f]?=some fn)(hl:(l.all aP.ok)=true)(n:Nat){N:Nat}(hN:N=(eL 0 l).length+(fn.ntmps-(eL 0 l).length))
  (rs:∀ w,bE P (aa.at w) N) (h:∀ w,nt (fQ (P:=P) fn n (eL 0 l) (jt 0 l) (jG 0 l) (rs w)) [(k,.row xs ty size)]=nu (fQ fn n (eL 0 l) (jt 0 l) (jG 0 l) (rs w)) (.tuple #[.slice (some ⟨k,0,some 7⟩) m 0,u]) [(k,.row xs ty size)])
  (hx:(xs.all flat)=true) (hlen:xs.length=m*size) (hu:flat u=true):H9 P f l ty size m xs u:=by
 intro w vs ct;obtain⟨ι,c,h1,h2,h3,h4,h5,h6,h7⟩:=vK ct (bf.1 hl) 0 _ _ (qB w) n_ (λ_ _=>rfl);refine rJ gv hf hN n (h w) h6 h2 h4 h3 λau bY v' w' hle hc hm dz=>?_;obtain⟨cM,rfl,ht⟩:=hc.ub;have ht:bI (aG au) [.slice (some ⟨k,0,some 7⟩) m 0,u] cM.toList:=ht;cases aN:cM.toList with
 |nil=>rw[aN]at ht;cases ht
 |cons a t=>
  rw[aN]at ht;cases ht with
  |cons q1 q2=>
   cases q2 with
   |cons q3 q4=>
    cases q4;refine⟨a,?_,?_,hm.base⟩
    ·rw[q3.eR hu]at aN
     congr 2
     apply GG;rw[aN]
    ·have:=vo hm (dz (k,_) (aT ..)) q1 o_ (bf.1 hx);rwa[<-hlen,nI]at this
theorem UW{f:FuncId}{l:List aP}{ty:TypeId}{size n:Nat}{xs:aj}{u:Value}{vs:aj}{nd:List (Nat×Option Obj)}{o:Oper}{x:Operand}(h:H9 P f l ty size n xs u)(hs:fm B l vs nd)(ho:dp o.op=some x)(eG:gk P f=true)(hx:(xs.all flat)=true)(hu:flat u=true)(k:Nat):
  cA P B o (.func (.func f) #[] #[]::vs) ((k,none)::nd) (.tuple #[.slice (some ⟨k,0,some 7⟩) n 0,u]) [(k,.row xs ty size)]:=by
 have:=jB (P:=P) (B:=B) (o:=o) (x:=x) (f:=f) (fi:=[]) (args:=vs) (ca:=[]) (need:=(k,none)::nd) (val:=.tuple #[.slice (some ⟨k,0,some 7⟩) n 0,u]) (cR:=[(k,.row xs ty size)]) ho eG ?_
 ·simpa using this
 ·intro ι c w hm hn args' ha;rw[jo,iY]at ha;refine(h w args' (Br hs hm (λp hp=>hn p (bB _ hp)) ha)).mono ?_
  rintro e w' ⟨v,rfl,h1,h2⟩
  obtain⟨au,q1,q2,q3⟩:=EG hm h2 (k:=k) (hn (k,none) (aT ..)) h1 (bf.1 hx);exact⟨au,_,rfl,q1,.tup (.cons q3 (.cons (.same hu) .nil)),q2⟩
end
section
open V3 (dot ax cL smul)
def dX(p q:HS K):V3 K:=ax p.n q.n
def vW(p q:HS K):V3 K:=smul (smul (ax q.n (dX p q)) p.d+smul (ax (dX p q) p.n) q.d) (kI 1*(dot (dX p q) (dX p q))⁻¹)
def ox(s:eO K)(b d:V3 K):List (HS K)->eO K
 |[]=>s
 |p::l=>ox (qQ s (dot p.n d) (p.d-dot p.n b)) b d l
def vX(s:eO K)(b d:V3 K):List (HS K)->Bool
 |[]=>true
 |p::l=>sn s (dot p.n d) (p.d-dot p.n b)&&vX (qQ s (dot p.n d) (p.d-dot p.n b)) b d l
theorem aCe{b d:V3 K}{p:HS K}:∀(l:List (HS K)) (s:eO K),ox s b d (l++[p])=qQ (ox s b d l) (dot p.n d) (p.d-dot p.n b)
 |[],s=>rfl
 |q::l,s=>aCe l _
def K0(ps:List (HS K))(p q:HS K):eO K:=ox ⟨none,none⟩ (vW p q) (dX p q) ps
def FN(ps:List (HS K))(p q:HS K):Option (V3 K×V3 K):=
 if dX p q=0 then none
 else if vX ⟨none,none⟩ (vW p q) (dX p q) ps then(match (K0 ps p q).lo,(K0 ps p q).hi with
  |some l,some h=>some (vW p q+smul (dX p q) l,vW p q+smul (dX p q) h)
  |_,_=>none)
 else none
theorem UX{p q:HS K}{m:Nat}(hp:bo m p)(hq:bo m q):aF (4*m+9) (dX p q):=(hp.1.ax hq.1).mono o_
theorem aCf{p q:HS K}{m:Nat}(hp:bo m p)(hq:bo m q)(h:dX p q≠0)(hd:dot (dX p q) (dX p q)≠0):aF (300*m+1000) (vW p q):=by have hc:=UX hp hq;have h1:=(hq.1.ax hc).smul hp.2;have h2:=(hc.ax hp.1).smul hq.2;have h3:=Sz.div (m:=1) hd (qH (z:=1) d_ d_) (hc.dot hc);exact((h1.add h2).smul h3).mono o_
theorem aL4{s:eO K}{a b:K}{z A C:Nat}(dL:nJ z s.lo)(iv:nJ z s.hi)(ha:Sz A a)(hb:Sz C b)(hz:C+7*A+28<=z):nJ z (qQ s a b).lo/\nJ z (qQ s a b).hi:=by
 unfold qQ;by_cases h0:OF.az a=0
 ·rw[aw h0];exact⟨dL,iv⟩
 ·rw[ao h0];have oF:a≠0:=λe=>h0 ((OF.eZ a).2 e);have ht:Sz z (b*a⁻¹):=(Sz.div oF hb ha).mono hz;have Pf:nJ z (some (b*a⁻¹)):=λy e=>by injection e with e;subst e;exact ht
  obtain⟨lo,hi⟩:=s;dsimp only at dL iv ⊢;split
  ·split
   ·split
    ·exact⟨dL,Pf⟩
    ·exact⟨dL,iv⟩
   ·exact⟨dL,Pf⟩
  ·split
   ·split
    ·exact⟨Pf,iv⟩
    ·exact⟨dL,iv⟩
   ·exact⟨Pf,iv⟩
theorem Pg{b d:V3 K}{m q z:Nat}(hb:aF q b)(hd:aF q d)(hz:m+(3*(m+q)+14)+1+7*(3*(m+q)+14)+28<=z):∀(l:List (HS K)) (s:eO K),(∀ p∈l,bo m p)->nJ z s.lo->nJ z s.hi->nJ z (ox s b d l).lo/\nJ z (ox s b d l).hi
 |[],s,_,h1,h2=>⟨h1,h2⟩
 |p::l,s,hl,h1,h2=>by have hp:=hl p (aT ..);obtain⟨q1,q2⟩:=aL4 h1 h2 (hp.1.dot hd) (hp.2.sub (hp.1.dot hb)) hz;exact Pg hb hd hz l _ (λr hr=>hl r (bB _ hr)) q1 q2
theorem aL5{s:eO K}{b d:V3 K}{t:K}{q z:Nat}(hb:aF q b)(hd:aF q d)(ht:Sz z t)(hn:10*q+10*z+100<=aC):
  xz prog 156 20 ([b9 t]++[bX 7,bX 3]) [(6,.aI (qP s b d) 160),(7,.aI [bX 6] 158),(3,.aI (cC d).cs 33)] [] (bP (b+smul d t)) [(6,.aI (qP s b d) 160),(7,.aI [bX 6] 158),(3,.aI (cC d).cs 33)]:=by
 have h1:=vQ hd ht o_;have h2:=FH hb (hd.smul ht) o_;obtain⟨lo,hi⟩:=s;cases lo<;>cases hi<;>exact ou mixed func156 100 (N:=13) k_ (λ_=>[.ck f156 6 6 0 k_,h1.at 11,h2.at 12]) (λ_=>k_)
theorem aCg(x:Option K):∀ v∈UU x,flat v=true:=by
 cases x with
 |none=>exact RN.nF zN
 |some y=>exact RN.nF _
theorem Ph(s:eO K)(b d:V3 K):∀ v∈qP s b d,flat v=true:=λv hv=>by
 simp only[qP,dY,cy]at hv;rcases hv with h|h|rfl|rfl|h|h
 ·exact aCg _ v h
 ·exact aCg _ v h
 ·rfl
 ·rfl
 ·exact RV.nF _ v h
 ·exact RV.nF _ v h
theorem zy{m k:Nat}{x:Obj}(h:∀ v∈x.cells,flat v=true):oq m (k,x)=true:=bf.2 λv hv=>iK (h v hv)
section
variable{Bs:aa}{ps:List (HS K)}
theorem UY{b d:V3 K}:∀(l:List (HS K)) (s:eO K),vX s b d l=true↔∀(i:Nat) (p:HS K),l[i]?=some p->sn (ox s b d (l.take i)) (dot p.n d) (p.d-dot p.n b)=true
 |[],s=>by simp[vX]
 |q::l,s=>by
  unfold vX;rw[db,UY l];constructor
  ·rintro⟨h1,h2⟩ i p hp
   cases i with
   |zero=>simp at hp;subst hp;exact h1
   |succ i=>exact h2 i p (by simpa using hp)
  ·intro h;exact⟨h 0 q rfl,λi p hp=>h (i+1) p (by simpa using hp)⟩
def eI(n i:Nat):aV:=[(54,vI i),(52,sl 0 n),(53,vI n),(0,sl 0 n),(12,bX 7),(8,bX 3)]
def eJ(ps:List (HS K))(s:eO K)(b d:V3 K):aH:=[(0,.view (aQ ps)),(6,.aI (qP s b d) 160),(7,.aI [bX 6] 158)]
theorem aL6{s:eO K}{b d:V3 K}:∀ x∈eJ ps s b d,fP 8 x.2:=λx hx=>by
 simp only[eJ,cy,jh,ji]at hx;rcases hx with rfl|rfl|rfl
 ·exact λv hv=>iK (bf.1 (cZ ps) v hv)
 ·exact λv hv=>iK (Ph _ _ _ v hv)
 ·exact Dc (p:=(7,.aI [bX 6] 158)) k_
theorem aL7{s:eO K}{p:HS K}{b d:V3 K}{m q z:Nat}(hp:bo m p)(hb:aF q b)(hd:aF q d)(dL:nJ z s.lo)(iv:nJ z s.hi)(hn:1000*(m+q)+100*z+10000<=aC){o:Oper}{x:Operand}(ho:dp o.op=some x):
  cA prog Bs o [.func (.func 155) #[] #[],bX 6,cB p] [(6,some (.aI (qP s b d) 160))] (.bool (sn s (dot p.n d) (p.d-dot p.n b))) [(6,.aI (qP (qQ s (dot p.n d) (p.d-dot p.n b)) b d) 160)]:=
 O5 (K:=20) (args:=[bX 6,cB p]) (ca:=[]) (Os:=[(6,.aI (qP s b d) 160)]) (Vs:=[]) (aL2 hp hb hd dL iv hn) ho k_ k_ k_ (by simp only[iY,dG,fB,jk];rw[zy (x:=.aI (qP s b d) 160) (Ph _ _ _)];rfl)
  (by simp only[dG,fB,jk];exact zy (x:=.aI (qP (qQ s (dot p.n d) (p.d-dot p.n b)) b d) 160) (Ph _ _ _)) rfl rfl rfl rfl
noncomputable def eS{s:eO K}{i:Nat}{p:HS K}{b d:V3 K}{m q z:Nat}{t:Bool}(hi:i<ps.length)(ja:ps[i]?=some p)(hp:bo m p)(hb:aF q b)(hd:aF q d)(dL:nJ z s.lo)(iv:nJ z s.hi)(hn:1000*(m+q)+100*z+10000<=aC)(ht:sn s (dot p.n d) (p.d-dot p.n b)=t)(more:bE prog Bs 89):bE prog Bs 89:=
 .lt 55 i ps.length true (aB hi)::.c9 f115 56 0 ps.length i 40 hi k_::.ld f115 57 35 0 (i*40) (.view (aQ ps)) (cB p) rfl (zw ja) k_::
  .step 60 (av f115 60) _ _ (.bool t) _ (ht▸aL7 (x:=.func 155) hp hb hd dL iv hn k_)::more
theorem aL8{s:eO K}{i:Nat}{p:HS K}{b d:V3 K}{m q z:Nat}(hi:i<ps.length)(ja:ps[i]?=some p)(hp:bo m p)(hb:aF q b)(hd:aF q d)(dL:nJ z s.lo)(iv:nJ z s.hi)(hn:1000*(m+q)+100*z+10000<=aC)(h63:ps.length<9223372036854775807)
  (ht:sn s (dot p.n d) (p.d-dot p.n b)=true):ah prog Bs 89 (aE (af f115 0)) (eI ps.length i) (eJ ps s b d) 8 ⟨.normal,eI ps.length (i+1),eJ ps (qQ s (dot p.n d) (p.d-dot p.n b)) b d,8⟩:=
 vn mixed 100 (ij:=9) (eS hi ja hp hb hd dL iv hn ht [.sum 62 i 1 (i+1) rfl o_]) k_ rfl k_ aL6 k_
theorem aL9{s:eO K}{i:Nat}{p:HS K}{b d:V3 K}{m q z:Nat}(hi:i<ps.length)(ja:ps[i]?=some p)(hp:bo m p)(hb:aF q b)(hd:aF q d)(dL:nJ z s.lo)(iv:nJ z s.hi)(hn:1000*(m+q)+100*z+10000<=aC)
  (ht:sn s (dot p.n d) (p.d-dot p.n b)=false):ah prog Bs 89 (aE (af f115 0)) (eI ps.length i) (eJ ps s b d) 8 ⟨.ret,[(6,.slice none 0 0),(7,.bool false)],eJ ps (qQ s (dot p.n d) (p.d-dot p.n b)) b d,9⟩:=
 aA (eS hi ja hp hb hd dL iv hn ht [])
theorem aMa{s:eO K}{b d:V3 K}:ah prog Bs 89 (aE (af f115 0)) (eI ps.length ps.length) (eJ ps s b d) 8 ⟨.exit 0,[(12,bX 7),(8,bX 3)],eJ ps s b d,8⟩:=
 aA [.lt 55 ps.length ps.length false s_]
theorem aCh{b d:V3 K}(s s':eO K)(k:Nat):ag (eJ ps s b d) k=none↔ag (eJ ps s' b d) k=none:=HY (L':=eJ ps s b d) (L:=eJ ps s' b d) rfl k
theorem aMb{b d:V3 K}{m q z:Nat}(bW:∀ p∈ps,bo m p)(hb:aF q b)(hd:aF q d)(hz:m+(3*(m+q)+14)+1+7*(3*(m+q)+14)+28<=z)(hn:1000*(m+q)+100*z+10000<=aC)(h63:ps.length<9223372036854775807):
  (vX ⟨none,none⟩ b d ps=true->ah prog Bs 89 (.block 0 (af f115 0)) (eI ps.length 0) (eJ ps ⟨none,none⟩ b d) 8 ⟨.normal,[(12,bX 7),(8,bX 3)],eJ ps (ox ⟨none,none⟩ b d ps) b d,8⟩)/\
  (vX ⟨none,none⟩ b d ps=false->∃ s,ah prog Bs 89 (.block 0 (af f115 0)) (eI ps.length 0) (eJ ps ⟨none,none⟩ b d) 8 ⟨.ret,[(6,.slice none 0 0),(7,.bool false)],eJ ps s b d,9⟩):=by
 have Pj:∀ i,nJ z (ox ⟨none,none⟩ b d (ps.take i)).lo/\nJ z (ox ⟨none,none⟩ b d (ps.take i)).hi:=λi=>Pg hb hd hz (ps.take i) _ (λp hp=>bW p (Ia hp)) n_ n_;have tk:∀{i:Nat} {p:HS K},ps[i]?=some p->ps.take (i+1)=ps.take i++[p]:=λh=>by rw[vV,h];rfl
 let K1:Nat->Bool:=λi=>match ps[i]? with|some p=>sn (ox ⟨none,none⟩ b d (ps.take i)) (dot p.n d) (p.d-dot p.n b)|none=>true
 have Pk:∀{i:Nat} {p:HS K},ps[i]?=some p->K1 i=sn (ox ⟨none,none⟩ b d (ps.take i)) (dot p.n d) (p.d-dot p.n b):=λh=>by simp only[K1,h]
 have tD:∀ e,e<=ps.length->(∀ i,i<e->K1 i=true)->∀ i,i<e->
   ah prog Bs 89 (aE (af f115 0)) (eI ps.length i) (eJ ps (ox ⟨none,none⟩ b d (ps.take i)) b d) 8 ⟨.normal,eI ps.length (i+1),eJ ps (ox ⟨none,none⟩ b d (ps.take (i+1))) b d,8⟩:=λe he ay i hi=>by
  have al:i<ps.length:=by omega
  have hp:ps[i]?=some ps[i]:=bd al;have h:=ay i hi;rw[Pk hp]at h;rw[tk hp,aCe];exact aL8 al hp (bW _ (dS al)) hb hd (Pj i).1 (Pj i).2 hn h63 h
 refine⟨λba=>?_,λgF=>?_⟩
 ·have ay:∀ i,i<ps.length->K1 i=true:=λi hi=>by have hp:ps[i]?=some ps[i]:=bd hi;rw[Pk hp];exact(UY ps _).1 ba i _ hp
  have:=ch (P:=prog) (B:=Bs) (N:=89) ps.length (λi=>eI ps.length i) (λi=>eJ ps (ox ⟨none,none⟩ b d (ps.take i)) b d) (λi k _=>aCh _ _ k) (tD ps.length (bh _) ay) aMa n_;rw[nI]at this;exact bO (id:=0) this
 ·rcases FL (λi=>!K1 i) (List.range ps.length)with Cj|⟨e,y,h1,h2,h3⟩
  ·exfalso;have:vX ⟨none,none⟩ b d ps=true:=(UY ps _).2 λi p hp=>by have al:=(eE.1 hp).1;have:=Cj i (j5.2 al);rw[Pk hp]at this;simpa using this
   rw[this]at gF;cases gF
  ·have al:e<ps.length:=by have:=(eE.1 h1).1;rwa[yB]at this
   have hy:y=e:=by rw[KZ al]at h1;injection h1 with h1;exact h1.symm
   subst hy;have hp:ps[y]?=some ps[y]:=bd al;rw[Pk hp]at h2
   have:=ch (P:=prog) (B:=Bs) (N:=89) y (λi=>eI ps.length i) (λi=>eJ ps (ox ⟨none,none⟩ b d (ps.take i)) b d) (λi k _=>aCh _ _ k)
    (tD y o_ λi hi=>by have:=h3 i i hi (KZ o_);simpa using this) (aL9 al hp (bW _ (dS al)) hb hd (Pj y).1 (Pj y).2 hn (by simpa using h2)) n_
   exact⟨_,bO (id:=0) this⟩
end
theorem aCi{Bs:aa}{s:eO K}{b d:V3 K}{t:K}{q z:Nat}(hb:aF q b)(hd:aF q d)(ht:Sz z t)(hn:10*q+10*z+100<=aC){o:Oper}{x:Operand}(ho:dp o.op=some x):
  cA prog Bs o [.func (.func 156) #[] #[bX 7,bX 3],b9 t] [(6,some (.aI (qP s b d) 160)),(7,some (.aI [bX 6] 158)),(3,some (.aI (cC d).cs 33))] (bP (b+smul d t)) []:=by
 have l6:oq 20 (6,.aI (qP s b d) 160)=true:=zy (x:=.aI (qP s b d) 160) (Ph _ _ _);have l7:oq 20 (7,.aI [bX 6] 158)=true:=k_;have l3:oq 20 (3,.aI (cC d).cs 33)=true:=k_
 exact aB5 (K:=20) (args:=[b9 t]) (ca:=[bX 7,bX 3]) (Os:=[(6,.aI (qP s b d) 160),(7,.aI [bX 6] 158),(3,.aI (cC d).cs 33)]) (Vs:=[]) (aL5 hb hd ht hn) ho k_ k_ k_
  (by simp only[iY,dG,fB,jk,l6,l7,l3];rfl) (by simp only[dG,fB,jk,l6,l7,l3]) rfl rfl
set_option maxRecDepth 8000 in
theorem aMc{ps:List (HS K)}{p q:HS K}{m:Nat}(bW:∀ p∈ps,bo m p)(hp:bo m p)(hq:bo m q)(hm:10000000*(m+10)<=aC)(h63:ps.length<9223372036854775807)(lH:dX p q≠0->dot (dX p q) (dX p q)≠0):
  match FN ps p q with
  |some (u,v)=>H9 prog 115 [fC ps,.p (cB p),.p (cB q)] 33 30 2 (aR [u,v]) (.bool true)
  |none=>cD prog 115 [fC ps,.p (cB p),.p (cB q)] (.tuple #[.slice none 0 0,.bool false]):=by
 have ay:([fC ps,.p (cB p),.p (cB q)].all aP.ok)=true:=by simp only[dG,fB,fC,aP.ok,cZ,jk,lD];rfl
 have c1:aD prog 112 [bP p.n,bP q.n] (bP (dX p q)):=vR hp.1 hq.1 o_;have hD:=UX hp hq;have z1:=Dm hD o_;unfold FN;by_cases h0:dX p q=0
 ·rw[aw h0];rw[aB h0]at z1;exact dV func115 ay 89 (λ_=>[c1.at 20,z1.at 22])
 ·rw[ao h0];rw[aJ h0]at z1;have kh:=lH h0;obtain⟨r,hr⟩:∃ r,r=300*m+1000:=⟨_,rfl⟩;obtain⟨z,hz⟩:∃ z,z=30*(m+r)+500:=⟨_,rfl⟩;have hB:aF r (vW p q):=hr▸aCf hp hq h0 kh;have FO:aF r (dX p q):=hD.mono o_;have c2:=vR hq.1 hD o_;have s2:=vQ (hq.1.ax hD) hp.2 o_;have c3:=vR hD hp.1 o_;have s3:=vQ (hD.ax hp.1) hq.2 o_;have a1:=FH ((hq.1.ax hD).smul hp.2) ((hD.ax hp.1).smul hq.2) o_;have o1:=r5 (z:=1) d_;have dd:=uP hD hD o_;have one:Sz 1 (kI 1):=qH d_ d_;have hDD:=hD.dot hD;have dv:=HQ kh one hDD o_;have mI:=Sz.div kh one hDD;have s4:=vQ (((hq.1.ax hD).smul hp.2).add ((hD.ax hp.1).smul hq.2)) mI o_;have lo:=λBs=>aMb (Bs:=Bs) (ps:=ps) (m:=m) (q:=r) (z:=z) bW hB FO o_ o_ h63;have zs:=Pg (m:=m) (q:=r) (z:=z) hB FO o_ ps ⟨none,none⟩ bW n_ n_;unfold K0;have e1:smul (smul (ax q.n (dX p q)) p.d+smul (ax (dX p q) p.n) q.d) (kI 1*(dot (dX p q) (dX p q))⁻¹)=vW p q:=rfl;rw[e1]at s4;generalize vW p q=eb at *;generalize dX p q=ed at *;by_cases hs:vX ⟨none,none⟩ eb ed ps=true
  ·rw[aw hs];have Cn:=λBs=>(lo Bs).1 hs;clear lo;obtain⟨zl,zh⟩:=zs;generalize ox ⟨none,none⟩ eb ed ps=sg at *;obtain⟨l,h⟩:=sg;rcases l with _|l
   ·cases h<;>exact dV func115 ay 89 (λw=>[c1.at 20,z1.at 22,c2.at 26,s2.at 29,c3.at 33,s3.at 36,a1.at 37,o1.at 39,dd.at 42,dv.at 43,s4.at 48,.code 0 _ _ _ _ _ (Cn _),.ck f115 64 6 0 k_])
   ·rcases h with _|h
    ·exact dV func115 ay 89 (λw=>[c1.at 20,z1.at 22,c2.at 26,s2.at 29,c3.at 33,s3.at 36,a1.at 37,o1.at 39,dd.at 42,dv.at 43,s4.at 48,.code 0 _ _ _ _ _ (Cn _),.ck f115 64 6 0 k_,.ck f115 70 6 0 k_])
    ·exact aL3 (k:=8) mixed func115 ay 100 (N:=89) k_ (λw=>[c1.at 20,z1.at 22,c2.at 26,s2.at 29,c3.at 33,s3.at 36,a1.at 37,o1.at 39,dd.at 42,dv.at 43,s4.at 48,.code 0 _ _ _ _ _ (Cn _),.ck f115 64 6 0 k_,.ck f115 70 6 0 k_,.ck f115 78 6 0 k_,.step 81 (av f115 81) _ _ _ _ (aCi (s:=⟨some l,some h⟩) (x:=.tmp 76) hB FO (zl l rfl) o_ k_),.ck f115 84 6 0 k_,.step 87 (av f115 87) _ _ _ _ (aCi (s:=⟨some l,some h⟩) (x:=.tmp 82) hB FO (zh h rfl) o_ k_),.bs f115 88 8 2 33 30 [0,1] zV.v [bP (eb+smul ed l),bP (eb+smul ed h)] (aR [eb+smul ed l,eb+smul ed h]).toArray (.row (aR [eb+smul ed l,eb+smul ed h]) 33 30) rfl (bf.1 k_) (bf.1 (dW _)) k_ k_ d_ d_ k_]) (λ_=>k_) (dW _) k_ k_
  ·rw[ao hs];have Cn:=λBs=>(lo Bs).2 (by simpa using hs);exact dV func115 ay 89 (λw=>[c1.at 20,z1.at 22,c2.at 26,s2.at 29,c3.at 33,s3.at 36,a1.at 37,o1.at 39,dd.at 42,dv.at 43,s4.at 48,.code 0 _ _ _ _ _ (Cn _).choose_spec])
def zz(p q:Int):K:=(Fr.mk p 0 0 0 q).val
theorem aMd{p q:Int}(hq:q≠0):b9 (zz p q)=ik (Fr.mk p 0 0 0 q).low:=by show(rZ (bH (Fr.mk p 0 0 0 q).val)).v=(rZ _).v;rw[Fg (x:=Fr.mk p 0 0 0 q) hq]
theorem aMe{p q:Int}{n:Nat}(hq:q≠0)(h1:p.natAbs<2^n)(h2:q.natAbs<2^n):Sz n (zz p q):=by unfold Sz zz;rw[Fg (x:=Fr.mk p 0 0 0 q) hq];have hp:0<2^n:=cG d_;exact dD.low ⟨h1,hp,hp,hp,h2⟩ hq
def BH(l:List (V3 K)):V3 K:=l.foldl (·+·) ⟨kI 0,kI 0,kI 0⟩
def BI(l:List (V3 K)):V3 K:=smul (BH l) (zz 1 l.length)
theorem aMf(l:List (V3 K))(v:V3 K):BH (l++[v])=BH l+v:=by unfold BH;rw[aCj];rfl
theorem aCk{m:Nat}(l:List (V3 K))(hl:∀ v∈l,aF m v):aF (1+l.length*(m+1)) (BH l):=by
 have key:∀(l:List (V3 K)) (u:V3 K) (n:Nat),(∀ v∈l,aF m v)->aF n u->aF (n+l.length*(m+1)) (l.foldl (·+·) u):=by
  intro l;induction l with
  |nil=>intro u n _ h;exact h.mono o_
  |cons v l ih=>
   intro u n hl h;have:=ih (u+v) (n+m+1) (λx hx=>hl x (bB _ hx)) (h.add (hl v (aT ..)));refine this.mono ?_;rw[oD,yC];omega
 exact key l _ 1 hl KT
def qR(ps:List (HS K))(vs:List (V3 K)):Bool:=!decide (vs.length=0)&&!ps.any λp=>decide (OF.az (dot p.n (BI vs)-p.d)>=0)
section
variable{Bs:aa}{ps:List (HS K)}{vs:List (V3 K)}
def K3(n i:Nat):aV:=[(17,vI i),(15,sl 1 n),(16,vI n),(5,bX 2)]
def tF(vs:List (V3 K))(s:V3 K):aH:=[(1,.view (aR vs)),(2,.aI (cC s).cs 33)]
theorem aMg{s:V3 K}:∀ x∈tF vs s,fP 3 x.2:=λx hx=>by
 simp only[tF,cy,jh,ji]at hx;rcases hx with rfl|rfl
 ·exact λv hv=>iK (bf.1 (dW vs) v hv)
 ·exact λv hv=>iK (RV.nF _ v hv)
theorem aMh{i:Nat}{v s:V3 K}{m n:Nat}(hi:i<vs.length)(hv:vs[i]?=some v)(hs:aF n s)(hm:aF m v)(cT:m+n<aC)(h63:vs.length<9223372036854775807):
  ah prog Bs 38 (aE (af f74 0)) (K3 vs.length i) (tF vs s) 3 ⟨.normal,K3 vs.length (i+1),tF vs (s+v),3⟩:=
 vn mixed 100 (ij:=4) [.lt 18 i vs.length true (aB hi),.c9 f74 19 1 vs.length i 30 hi k_,.ld f74 20 33 1 (i*30) (.view (aR vs)) (bP v) rfl (mP hv) k_,(FH hs hm o_).at 23,.sum 24 i 1 (i+1) rfl o_] k_ rfl k_ aMg k_
theorem aMi{s:V3 K}:ah prog Bs 38 (aE (af f74 0)) (K3 vs.length vs.length) (tF vs s) 3 ⟨.exit 0,[(5,bX 2)],tF vs s,3⟩:=
 aA [.lt 18 vs.length vs.length false s_]
theorem aMj(s s':V3 K)(k:Nat):ag (tF vs s) k=none↔ag (tF vs s') k=none:=HY (L':=tF vs s) (L:=tF vs s') rfl k
theorem aMk{m:Nat}(aN:∀ v∈vs,aF m v)(hm:m+(1+vs.length*(m+1))<aC)(h63:vs.length<9223372036854775807):
  ah prog Bs 38 (.block 0 (af f74 0)) (K3 vs.length 0) (tF vs ⟨kI 0,kI 0,kI 0⟩) 3 ⟨.normal,[(5,bX 2)],tF vs (BH vs),3⟩:=by
 have:=ch (P:=prog) (B:=Bs) (N:=38) vs.length (λi=>K3 vs.length i) (λi=>tF vs (BH (vs.take i))) (λi k _=>aMj _ _ k) (λi hi=>by have hv:vs[i]?=some vs[i]:=bd hi;have hs:=aCk (m:=m) (vs.take i) λv hv=>aN v (Ia hv);have hle:(vs.take i).length*(m+1)<=vs.length*(m+1):=e8 _ (by rw[jL];omega);rw[vV,hv];show ah _ _ _ _ _ _ _ ⟨_,_,tF vs (BH (vs.take i++[vs[i]])),_⟩;rw[aMf];exact aMh hi hv hs (aN _ (dS hi)) o_ h63) (by rw[nI];exact aMi) n_
 exact bO (id:=0) this
theorem aMl{m q:Nat}(bW:∀ p∈ps,bo m p/\p.n≠0)(aN:∀ v∈vs,aF q v)(hm:100*(m+vs.length*(q+1))+10000<=aC)(h63:vs.length<2^40)(aMm:ps.length<9223372036854775807):cD prog 74 [fC ps,uR vs] (.bool (qR ps vs)):=by
 have ay:([fC ps,uR vs].all aP.ok)=true:=by simp only[dG,fB,fC,uR,aP.ok,cZ,dW,jk]
 unfold qR;by_cases h0:vs.length=0
 ·rw[aB h0];exact dV func74 ay 38 (λw=>[.fh 13 vs.length 0 true (by simp[h0])])
 ·rw[aJ h0];have uC:q+1<=vs.length*(q+1):=UZ _ o_;have lo:=λBs=>aMk (Bs:=Bs) aN o_ o_;have aU:(vs.length:Int)≠0:=by omega
  have rt:=aJX (p:=1) (q:=(vs.length:Int)) (n:=40) aU d_ (by simpa using h63) d_;rw[<-aMd aU]at rt;have hr:=aMe (p:=1) (q:=(vs.length:Int)) (n:=40) aU d_ (by simpa using h63);have hs:=aCk vs aN;have sc:=vQ hs hr o_;have Ds:aF (1+vs.length*(q+1)+40+4) (BI vs):=hs.smul hr;have hc:=UR (g:=122) (caps:=(cC (BI vs)).cs) (ps:=ps) (b:=λp=>decide (OF.az (dot p.n (BI vs)-p.d)>=0)) k_ (bf.2 (RV.nF _)) aMm λp hp=>aLP (bW p hp).1 Ds o_ (bW p hp).2;have e:smul (BH vs) (zz 1 (vs.length:Int))=BI vs:=rfl;rw[e]at sc;generalize (ps.any λp=>decide (OF.az (dot p.n (BI vs)-p.d)>=0))=t at *;generalize BI vs=mv at *;exact dV func74 ay 38 (λw=>[.fh 13 vs.length 0 false (by simp[h0]),(vP (a:=0) (b:=0) (c:=0) d_ d_ d_).at 14,.code 0 _ _ _ _ _ (lo _),rt.at 28,sc.at 33,.step 36 (av f74 36) [.func (.func 70) #[] #[],sl 0 ps.length,.func (.func 122) #[] #[bX 4]] [(0,some (.view (aQ ps))),(4,some (.aI (cC mv).cs 33))] (.bool t) []
   (dE hc (.w (x:=.view (aQ ps)) rfl (cZ ps) iE (.f (x:=.aI (cC mv).cs 33) rfl (bf.2 (RV.nF _)) .nil)) (x:=.func 70) k_ k_ rfl)])
end
def qS(ps:List (HS K))(p q:HS K):List (V3 K):=match FN ps p q with|some (u,v)=>[u,v]|none=>[]
def lg(ps:List (HS K))(p:HS K)(l:List (HS K)):List (V3 K):=l.flatMap (qS ps p)
theorem aMn{ps:List (HS K)}{p q:HS K}(l:List (HS K)):lg ps p (l++[q])=lg ps p l++qS ps p q:=by unfold lg;rw[UL];simp
theorem aMo(ps:List (HS K))(p q:HS K):(qS ps p q).length<=2:=by
 unfold qS;split
 ·exact bh _
 ·exact kU _
theorem U0(ps:List (HS K))(p:HS K):∀ l:List (HS K),(lg ps p l).length<=2*l.length
 |[]=>kU _
 |q::l=>by have h1:=U0 ps p l;have h2:=aMo ps p q;show(qS ps p q++lg ps p l).length<=_;rw[iJ,oD];omega
theorem su(l:List (V3 K)):(aR l).length=l.length*30:=by unfold aR;rw[tB gh,ek]
theorem U1(l m:List (V3 K)):aR l++aR m=aR (l++m):=by unfold aR cE;rw[sW,H6]
theorem K4(l:List (V3 K)):∀ v∈aR l,v.oneCell'=true:=λv hv=>by unfold aR cE dc at hv;rw[BF]at hv;obtain⟨x,_,hx⟩:=hv;exact gh.one x v hx
section
variable{Bs:aa}{ps:List (HS K)}
def K5(n i j L:Nat):aV:=[(21,vI j),(19,sl 0 i),(20,vI i),(0,sl 0 n),(5,bX 2),(3,sl 3 L)]
def zC(ps:List (HS K))(p:HS K):aH:=[(0,.view (aQ ps)),(2,.aI (cF p).cs 35)]
def qT(acc:List (V3 K)):List Obj:=[.row (aR acc) 33 30]
theorem aMp{i j m:Nat}{p q:HS K}{acc:List (V3 K)}(hj:j<i)(mQ:i<=ps.length)(hq:ps[j]?=some q)(bW:∀ p∈ps,bo m p)(hp:bo m p)(hm:10000000*(m+10)<=aC)(h63:ps.length<1000)(U2:acc.length<=1000000)(lH:dX p q≠0->dot (dX p q) (dX p q)≠0):
  ∃ σ ij,(∀ BJ:List (V3 K),CL (zC ps p++dP [some 1] (qT BJ)) 3 σ (K5 ps.length i (j+1) (acc++qS ps p q).length) (zC ps p) (qT (acc++qS ps p q))=true)/\
   ah prog Bs 42 (aE (af f73 2)) (K5 ps.length i j acc.length) (zC ps p++marks 3 (qT acc)) 4 ⟨.normal,gR 3 σ (K5 ps.length i (j+1) (acc++qS ps p q).length),zC ps p++dP σ (qT (acc++qS ps p q)),ij⟩:=by
 have he:=aMc bW hp (bW q (cQ hq)) hm o_ lH;unfold qS;cases hk:FN ps p q with
 |none=>
  rw[hk]at he;dsimp only at he ⊢;rw[iY];refine⟨[some 3],5,λBJ=>k_,?_⟩;exact aA [.lt 22 j i true (aB hj),.c9 f73 23 0 i j 40 hj k_,.ld f73 24 35 0 (j*40) (.view (aQ ps)) (cB q) rfl (zw hq) k_,.step 29 (av f73 29) [.func (.func 115) #[] #[],sl 0 ps.length,cB p,cB q] [(0,some (.view (aQ ps)))] (.tuple #[.slice none 0 0,.bool false]) []
    (dE he (.w (x:=.view (aQ ps)) rfl (cZ ps) iE (.p k_ (.p k_ .nil))) (x:=.func 115) k_ k_ k_),.sum 36 j 1 (j+1) rfl o_]
 |some uv=>
  obtain⟨u,v⟩:=uv;rw[hk]at he;dsimp only at he ⊢;have hl:(acc++[u,v]).length=acc.length+2:=by simp
  rw[hl];refine⟨[some 6],7,λBJ=>k_,?_⟩;exact aA [.lt 22 j i true (aB hj),.c9 f73 23 0 i j 40 hj k_,.ld f73 24 35 0 (j*40) (.view (aQ ps)) (cB q) rfl (zw hq) k_,.step 29 (av f73 29) [.func (.func 115) #[] #[],sl 0 ps.length,cB p,cB q] [(5,none),(0,some (.view (aQ ps)))] (.tuple #[sl 5 2,.bool true]) [(5,.row (aR [u,v]) 33 30)]
    (UW he (.w (x:=.view (aQ ps)) rfl (cZ ps) iE (.p k_ (.p k_ .nil))) (x:=.func 115) k_ k_ (dW _) k_ 5),
   .pj f73 35 6 3 acc.length 2 (acc.length+2) 33 30 360 (aR acc) 5 (.row (aR [u,v]) 33 30) (aR (acc++[u,v])) rfl rfl (su _) (su _) (U1 _ _) (K4 _) d_ (by simp[maxLen];omega) o_ k_,
   .sum 36 j 1 (j+1) rfl o_]
theorem aMq{p:HS K}:∀ x∈zC ps p,fP 3 x.2:=λx hx=>by
 simp only[zC,cy,jh,ji]at hx;rcases hx with rfl|rfl
 ·exact λv hv=>iK (bf.1 (cZ ps) v hv)
 ·exact λv hv=>iK (iD.flat _ v hv)
theorem aCl{m:Nat}{acc:List (V3 K)}:∀ x∈qT acc,fP m x:=λx hx=>by simp only[qT,cy,jh,ji]at hx;subst hx;exact λv hv=>iK (bf.1 (dW acc) v hv)
theorem aMr{i m:Nat}{p:HS K}{acc:List (V3 K)}(mQ:i<=ps.length)(bW:∀ p∈ps,bo m p)(hp:bo m p)(hm:10000000*(m+10)<=aC)(h63:ps.length<=500)(U2:acc.length+2*i<=1000000)
  (lH:∀ p q:HS K,dX p q≠0->dot (dX p q) (dX p q)≠0) :
  ah prog Bs 42 (.block 2 (af f73 2)) (gR 3 [some 1] (K5 ps.length i 0 acc.length)) (zC ps p++dP [some 1] (qT acc)) 3
   ⟨.normal,[(3,sl 3 (acc++lg ps p (ps.take i)).length)],zC ps p++marks 3 (qT (acc++lg ps p (ps.take i))),4⟩:=by
 have hlen:∀ j,j<=i->(acc++lg ps p (ps.take j)).length<=1000000:=λj hj=>by have:=U0 ps p (ps.take j);rw[jL]at this;rw[iJ];omega
 have:=rS (P:=prog) (B:=Bs) (N:=42) (b:=aE (af f73 2)) (next:=3) (p:=1) (r:=⟨.exit 2,[(3,sl 3 (acc++lg ps p (ps.take i)).length)],zC ps p++marks 3 (qT (acc++lg ps p (ps.take i))),4⟩) i
  (λj=>K5 ps.length i j (acc++lg ps p (ps.take j)).length) (λ_=>zC ps p) (λj=>qT (acc++lg ps p (ps.take j))) [some 1] (λ_ _=>rfl) (λj _=>⟨aMq,aCl⟩) k_ k_
  (λj hj=>by
   have hq:ps[j]?=some ps[j]:=bd o_;have e:acc++lg ps p (ps.take (j+1))=(acc++lg ps p (ps.take j))++qS ps p ps[j]:=by
    rw[vV,hq,Ey]
    congr 1
    exact aMn _
   obtain⟨σ,ij,h1,h2⟩:=aMp (Bs:=Bs) (acc:=acc++lg ps p (ps.take j)) hj mQ hq bW hp hm o_ (hlen j o_) (lH p ps[j]);rw[e];exact⟨σ,ij,h1 _,h2⟩)
  (by generalize acc++lg ps p (ps.take i)=a;exact aA [.lt 22 i i false s_]) n_
 have e0:acc++lg ps p (ps.take 0)=acc:=by simp[lg]
 rw[e0]at this;exact bO (id:=2) this
def K6(ps:List (HS K))(i:Nat):List (V3 K):=match ps[i]? with|some p=>lg ps p (ps.take i)|none=>[]
def mR(ps:List (HS K))(n:Nat):List (V3 K):=(List.range n).flatMap (K6 ps)
theorem Pl{i:Nat}{p:HS K}(h:ps[i]?=some p):K6 ps i=lg ps p (ps.take i):=by unfold K6;rw[h]
theorem aCm(n:Nat):mR ps (n+1)=mR ps n++K6 ps n:=by unfold mR;rw[HM,UL];simp
theorem Pm:∀ n,n<=ps.length->(mR ps n).length<=n*(2*ps.length)
 |0,_=>by simp[mR]
 |n+1,h=>by have h1:=Pm n o_;have hp:ps[n]?=some ps[n]:=bd o_;have h2:=U0 ps ps[n] (ps.take n);rw[jL]at h2;rw[aCm,Pl hp,iJ,yC];omega
def Pn(n i L:Nat):aV:=[(12,vI i),(10,sl 0 n),(11,vI n),(0,sl 0 n),(3,sl 1 L)]
def Dt(ps:List (HS K)):aH:=[(0,.view (aQ ps))]
theorem aMs{m:Nat}:∀ x∈Dt ps,fP m x.2:=λx hx=>by simp only[Dt,cy,jh,ji]at hx;subst hx;exact λv hv=>iK (bf.1 (cZ ps) v hv)
theorem aMt{i m:Nat}{p:HS K}{acc:List (V3 K)}(hi:i<ps.length)(ja:ps[i]?=some p)(bW:∀ p∈ps,bo m p)(hm:10000000*(m+10)<=aC)(h63:ps.length<=500)(U2:acc.length+2*i<=1000000)
  (lH:∀ p q:HS K,dX p q≠0->dot (dX p q) (dX p q)≠0) :
  ah prog Bs 42 (aE (af f73 0)) (Pn ps.length i acc.length) (Dt ps++marks 1 (qT acc)) 2
   ⟨.normal,gR 1 [some 3] (Pn ps.length (i+1) (acc++lg ps p (ps.take i)).length),Dt ps++dP [some 3] (qT (acc++lg ps p (ps.take i))),4⟩:=by
 have lo:=aMr (Bs:=Bs) (acc:=acc) (p:=p) (show i<=ps.length by omega) bW (bW p (cQ ja)) hm h63 U2 lH;generalize acc++lg ps p (ps.take i)=a at *;exact aA [.lt 13 i ps.length true (aB hi),.c9 f73 15 0 ps.length i 40 hi k_,.ld f73 16 35 0 (i*40) (.view (aQ ps)) (cB p) rfl (zw ja) k_,.upto f73 19 0 ps.length i 40 o_ k_,.code 2 _ _ _ _ _ lo,.sum 37 i 1 (i+1) rfl o_]
theorem aMu{m:Nat}(bW:∀ p∈ps,bo m p)(hm:10000000*(m+10)<=aC)(h63:ps.length<=500)(lH:∀ p q:HS K,dX p q≠0->dot (dX p q) (dX p q)≠0):
  ah prog Bs 42 (.block 0 (af f73 0)) (gR 1 [none] (Pn ps.length 0 0)) (Dt ps++dP [none] (qT [])) 1 ⟨.normal,[(3,sl 1 (mR ps ps.length).length)],Dt ps++marks 1 (qT (mR ps ps.length)),2⟩:=by
 have:=rS (P:=prog) (B:=Bs) (N:=42) (b:=aE (af f73 0)) (next:=1) (p:=1) (r:=⟨.exit 0,[(3,sl 1 (mR ps ps.length).length)],Dt ps++marks 1 (qT (mR ps ps.length)),2⟩) ps.length
  (λi=>Pn ps.length i (mR ps i).length) (λ_=>Dt ps) (λi=>qT (mR ps i)) [none] (λ_ _=>rfl) (λj _=>⟨aMs,aCl⟩) k_ k_
  (λi hi=>by have hp:ps[i]?=some ps[i]:=bd hi;have hl:=Pm i (by omega:i<=ps.length);have jw:i*(2*ps.length)<=500*1000:=yN o_ o_;refine⟨[some 3],4,k_,?_⟩;rw[aCm,Pl hp];exact aMt hi hp bW hm h63 o_ lH)
  (by generalize mR ps ps.length=a;exact aA [.lt 13 ps.length ps.length false s_]) n_
 exact bO (id:=0) this
end
end
section
open Go Go.RowKit
deriving instance DecidableEq for RI
deriving instance DecidableEq for RN
deriving instance DecidableEq for RV
deriving instance DecidableEq for RP
theorem Du{α:Type}[DecidableEq α]:∀(a b:List α),a.length=b.length->a=b\/∃(e:Nat) (x y:α),a[e]?=some x/\b[e]?=some y/\x≠y/\∀(j:Nat) (u v:α),j<e->a[j]?=some u->b[j]?=some v->u=v
 |[],[],_=>.inl rfl
 |[],_::_,h=>by cases h
 |_::_,[],h=>by cases h
 |x::a,y::b,h=>by
  by_cases kk:x=y
  ·subst kk;rcases Du a b (by simpa using h)with h|⟨e,u,v,h1,h2,h3,h4⟩
   ·exact .inl (by rw[h])
   ·refine .inr ⟨e+1,u,v,by simpa using h1,by simpa using h2,h3,λj p q hj hp hq=>?_⟩;cases j with
    |zero=>simp at hp hq;rw[<-hp,<-hq]
    |succ j=>exact h4 j p q o_ (by simpa using hp) (by simpa using hq)
  ·exact .inr ⟨0,x,y,rfl,rfl,kk,λj u v hj=>by omega⟩
section
variable{Bs:aa}{a b:List RV}
def Dv(n i:Nat):aV:=[(13,vI i),(11,sl 0 n),(12,vI n),(0,sl 0 n),(1,sl 1 n)]
def vY(a b:List RV):aH:=[(0,.view (cE a)),(1,.view (cE b))]
noncomputable def aCn{n i:Nat}{x y:RV}{t:Bool}(hi:i<n)(hx:a[i]?=some x)(hy:b[i]?=some y)(kM:x.Sm)(xC:y.Sm)(ht:(!t)=true↔x=y)(more:bE prog Bs 26):bE prog Bs 26:=
 .lt 14 i n true (aB hi)::.c9 f65 18 0 n i 30 hi k_::.ld f65 19 33 0 (i*30) (.view (cE a)) x.v rfl (sj hx) k_::.c9 f65 22 1 n i 30 hi k_::.ld f65 23 33 1 (i*30) (.view (cE b)) y.v rfl (sj hy) k_::
  .step 24 (av f65 24) [x.v,y.v] [] (.bool t) [] (Fk (neg:=false) k_ x y kM xC ht)::more
theorem aCo{n i:Nat}{x:RV}(hi:i<n)(hx:a[i]?=some x)(hy:b[i]?=some x)(kM:x.Sm)(h63:n<9223372036854775807):
  ah prog Bs 26 (aE (af f65 0)) (Dv n i) (vY a b) 2 ⟨.normal,Dv n (i+1),vY a b,2⟩:=
 aA (aCn (t:=false) hi hx hy kM kM s_ [.sum 25 i 1 (i+1) rfl o_])
theorem aMv{n i:Nat}{x y:RV}(hi:i<n)(hx:a[i]?=some x)(hy:b[i]?=some y)(kM:x.Sm)(xC:y.Sm)(aU:x≠y):
  ah prog Bs 26 (aE (af f65 0)) (Dv n i) (vY a b) 2 ⟨.ret,[(4,.bool false)],vY a b,2⟩:=
 aA (aCn (t:=true) hi hx hy kM xC (by simp[aU]) [])
theorem aMw{n:Nat}:ah prog Bs 26 (aE (af f65 0)) (Dv n n) (vY a b) 2 ⟨.exit 0,[],vY a b,2⟩:=
 aA [.lt 14 n n false s_]
theorem aMx(ha:∀ x∈a,x.Sm)(hb:∀ x∈b,x.Sm)(h63:a.length<9223372036854775807):cD prog 65 [.r a.length (cE a),.r b.length (cE b)] (.bool (decide (a=b))):=by
 have ay:([aP.r a.length (cE a),.r b.length (cE b)].all aP.ok)=true:=by simp only[dG,fB,aP.ok,gU gh,jk]
 by_cases hl:a.length=b.length
 ·have aU:(Value.bool (!((a.length:Int)==(b.length:Int))))=.bool false:=by rw[hl];simp
  rcases Du a b hl with h|⟨e,x,y,h1,h2,h3,h4⟩
  ·rw[aB h];subst h;have lo:∀ B:aa,ah prog B 26 (.block 0 (af f65 0)) (Dv a.length 0) (vY a a) 2 ⟨.normal,[],vY a a,2⟩:=λB=>
    bO (id:=0) (ch a.length (λi=>Dv a.length i) (λ_=>vY a a) (λi k _=>Iff.rfl) (λi hi=>by have hx:a[i]?=some a[i]:=bd hi;exact aCo hi hx hx (ha _ (dS hi)) h63) aMw n_)
   exact dV func65 ay 26 (λw=>[.rw 10 _ _ aU,.code 0 _ _ _ _ _ (lo _)])
  ·have bZ:a≠b:=λh=>by subst h;rw[h1]at h2;injection h2 with h2;exact h3 h2
   rw[aJ bZ];have al:=(eE.1 h1).1;have lo:∀ B:aa,ah prog B 26 (.block 0 (af f65 0)) (Dv a.length 0) (vY a b) 2 ⟨.ret,[(4,.bool false)],vY a b,2⟩:=λB=>
    bO (id:=0) (ch e (λi=>Dv a.length i) (λ_=>vY a b) (λi k _=>Iff.rfl) (λi hi=>by have hx:a[i]?=some a[i]:=bd o_;have hy:b[i]?=some b[i]:=bd o_;have:=h4 i _ _ hi hx hy;rw[<-this]at hy;exact aCo o_ hx hy (ha _ (dS _)) h63) (aMv al h1 h2 (ha _ (cQ h1)) (hb _ (cQ h2)) h3) n_)
   have Bp:([aP.r a.length (cE a),.r a.length (cE b)].all aP.ok)=true:=by simp only[dG,fB,aP.ok,gU gh,jk]
   rw[<-hl]at aU ⊢;exact dV func65 Bp 26 (λw=>[.rw 10 _ _ aU,.code 0 _ _ _ _ _ (lo _)])
 ·have bZ:a≠b:=λh=>hl (by rw[h]);rw[aJ bZ];exact dV func65 ay 26 (λw=>[.rw 10 (.bool (!((a.length:Int)==(b.length:Int)))) (.bool true) (by congr 1;simp;omega)])
end
end
section
variable{P:Program}{B:aa}{N:Nat}
theorem aCp{ι:Map}{off:Nat}:∀{l l':aj},bI (aG ι) l l'->∀(k:Nat) {cs bt:Array Value},bI (aG ι) cs.toList bt.toList->
  bI (aG ι) ((l.zipIdx k).foldl (λ(cs:Array Value) p=>cs.setIfInBounds (off+p.2) p.1) cs).toList ((l'.zipIdx k).foldl (λ(cs:Array Value) p=>cs.setIfInBounds (off+p.2) p.1) bt).toList
 |_,_,.nil,k,cs,bt,h=>h
 |_,_,.cons (a:=a) (b:=b) bZ ht,k,cs,bt,h=>by simp only[List.zipIdx_cons,vl];refine aCp ht (k+1) ?_;simp only[aGY];exact h.set bZ _
theorem Po{ι:Map}{place:Nat->Option (Nat×Nat)}:∀(idx:List Nat) {vs cM:aj} {cs bt r:Array Value},bI (aG ι) vs cM->bI (aG ι) cs.toList bt.toList->Instr.fill place cs (idx.zip vs)=some r->
  ∃ r',Instr.fill place bt (idx.zip cM)=some r'/\bI (aG ι) r.toList r'.toList
 |[],vs,cM,cs,bt,r,_,hc,h=>by simp only[List.zip_nil_left,Instr.fill]at h ⊢;injection h with h;subst h;exact⟨bt,rfl,hc⟩
 |i::idx,_,_,cs,bt,r,.nil,hc,h=>by simp only[List.zip_nil_right,Instr.fill]at h ⊢;injection h with h;subst h;exact⟨bt,rfl,hc⟩
 |i::idx,_,_,cs,bt,r,.cons (a:=v) (b:=v') hv ht,hc,h=>by
  simp only[List.zip_cons_cons,Instr.fill]at h ⊢;split at h
  ·cases h
  ·rename_i off size hp;have jc:=hv.cells;have bA:v'.cells.size=v.cells.size:=by have:=jc.length;simpa using this.symm
   have fX:bt.size=cs.size:=by have:=hc.length;simpa using this.symm
   split at h
   ·cases h
   ·rename_i pO;rw[bA,fX,ao pO];refine Po idx ht ?_ h;have:=aCp (off:=off) jc 0 hc;rw[<-aA4,<-aA4,Array.toList_zipIdx,Array.toList_zipIdx];exact this
def aCq(o:Oper):Option (TypeId×List Nat):=match o.op with
 |.build t parts=>some (t,parts.toList.map (·.1))
 |_=>none
theorem Pp{o:Oper}{t:TypeId}{idx:List Nat}(ho:aCq o=some (t,idx)){vs:aj}{cells:Array Value}(hz:∀ it z,P.info? t=some it->it.zero=some z->∀ v∈z.cells.toList,flat v=true)(h:P.built t (idx.zip vs)=some cells):
  cA P B o vs [] (.agg cells) []:=by
 unfold aCq at ho;split at ho
 ·rename_i t' parts bN;injection ho with ho;injection ho with h1 h2;subst h1;subst h2;refine gY.step λι c ρ w aN hm hn=>?_;rw[bN]at aN;have aN:bI (aG ι) vs ((parts.toList.map (·.2)).map ρ):=by simpa[Op.operands]using aN
  have hex:∃ cells',P.built t' ((parts.toList.map (·.1)).zip ((parts.toList.map (·.2)).map ρ))=some cells'/\bI (aG ι) cells.toList cells'.toList:=by
   unfold Program.built at h ⊢;split at h
   ·rename_i it n e hi hu;split at h
    ·rename_i z ie U3 hz2;exact Po _ aN (kg (hz it z hi U3)) h
    ·cases h
   ·rename_i it fields hi hu;split at h
    ·rename_i z places U3 hz2;exact Po _ aN (kg (hz it z hi U3)) h
    ·cases h
   ·cases h
  obtain⟨cells',e1,e2⟩:=hex;refine⟨ι,.agg cells',w,Map.le.refl _,?_,hm,.inl ?_⟩
  ·have:=aG.agg (ι:=ι) e2;simpa using this
  ·have bW:(parts.map λ(i,x)=>(i,ρ x)).toList=(parts.toList.map (·.1)).zip ((parts.toList.map (·.2)).map ρ):=by rw[<-Nh parts.toList rfl];simp
   have:=run_build (P:=P) w t' (parts.map λ(i,x)=>(i,ρ x)) cells' (by rw[bW];exact e1);simp only[execOp,bN];simp[this]
 ·cases ho
end
def iF:Value->Option Nat
 |.slice (some a) _ _=>some a.block
 |_=>none
def xD(w w':World)(b:Nat):Prop:=∀ cs ty f,w.heap[b]?=some (Go.Obj.cells cs ty f)->w'.heap[b]?=some (Go.Obj.cells cs ty f)
theorem U4{w w':World}{b o:Nat}{u:Value}(h:xD w w' b)(hc:w.cell? ⟨b,o,none⟩=some u):w'.cell? ⟨b,o,none⟩=some u:=by
 unfold World.cell? at hc ⊢;dsimp only at hc ⊢;split at hc
 ·rename_i cs ty f he;rw[h _ _ _ he];exact hc
 ·cases hc
theorem cK.kept{w w':World}{v:Value}{n:Nat}{xs:aj}(h:cK w v n xs)(hs:w.heap.size<=w'.heap.size)(hk:∀ b,iF v=some b->xD w w' b):cK w' v n xs:=by
 rcases h with h|⟨b,o,c,h1,h2,h3,h4⟩
 ·exact .inl h
 ·exact .inr ⟨b,o,c,h1,h2,cx h3 hs,λj u hj=>U4 (hk b (by rw[h1];rfl)) (h4 j u hj)⟩
theorem cK.lt{w:World}{v:Value}{n:Nat}{xs:aj}(h:cK w v n xs){b:Nat}(hb:iF v=some b):b<w.heap.size:=by
 rcases h with ⟨h,_⟩|⟨b',o,c,h1,h2,h3,h4⟩
 ·rw[h]at hb;cases hb
 ·rw[h1]at hb;injection hb with hb;subst hb;exact h3
def ai(l:List Nat):aj:=l.map vI
def iV(z:Int):Value:=.int .i64 z
def eB(l:List Int):aj:=l.map iV
inductive ku(w:World):List (Int×List Int)->aj->Prop
 |nil:ku w [] []
 |cons {i:Int} {l:List Int} {u:Value} {fs:List (Int×List Int)} {cs:aj}:cK w u l.length (eB l)->flat u=true->ku w fs cs->ku w ((i,l)::fs) (iV i::u::cs)
theorem ku.length{w:World}{fs:List (Int×List Int)}{cs:aj}(h:ku w fs cs):cs.length=fs.length*2:=by
 induction h with
 |nil=>rfl
 |cons _ _ _ ih=>simp only[oD,ih];omega
theorem ku.flat{w:World}{fs:List (Int×List Int)}{cs:aj}(h:ku w fs cs):∀ v∈cs,Go.Proofs.YtjjefbkbljlgdaaGreatDoor.flat v=true:=by
 induction h with
 |nil=>intro v hv;cases hv
 |cons _ hu _ ih=>
  intro v hv;rcases cy.1 hv with rfl|hv
  ·rfl
  ·rcases cy.1 hv with rfl|hv
   ·exact hu
   ·exact ih v hv
theorem ku.kept{w w':World}{fs:List (Int×List Int)}{cs:aj}(h:ku w fs cs)(hs:w.heap.size<=w'.heap.size)(hk:∀ u∈cs,∀ b,iF u=some b->xD w w' b):ku w' fs cs:=by
 induction h with
 |nil=>exact .nil
 |cons h1 h2 _ ih=>exact .cons (h1.kept hs (hk _ (bB _ (aT ..)))) h2 (ih λu hu=>hk u (bB _ (bB _ hu)))
theorem ku.lt{w:World}{fs:List (Int×List Int)}{cs:aj}(h:ku w fs cs):∀ u∈cs,∀ b,iF u=some b->b<w.heap.size:=by
 induction h with
 |nil=>intro u hu;cases hu
 |cons h1 _ _ ih=>
  intro u hu b hb;rcases cy.1 hu with rfl|hu
  ·cases hb
  ·rcases cy.1 hu with rfl|hu
   ·exact h1.lt hb
   ·exact ih u hu b hb
def K7(w:World)(v:Value)(fs:List (Int×List Int)):Prop:=∃ cs,cK w v fs.length cs/\ku w fs cs
def Pq(n:Nat)(v:Value)(w:World)(k:Nat):Prop:=
 iF v=some k\/∃ b o c j u,v=.slice (some ⟨b,o,none⟩) n c/\j<n*2/\w.cell? ⟨b,o+j,none⟩=some u/\iF u=some k
theorem Pr{w:World}{v:Value}{fs:List (Int×List Int)}{cs:aj}(h1:cK w v fs.length cs)(h2:ku w fs cs){b o c j:Nat}{u:Value}(hv:v=.slice (some ⟨b,o,none⟩) fs.length c)(hj:j<fs.length*2)(hu:w.cell? ⟨b,o+j,none⟩=some u):u∈cs:=by
 rcases h1 with ⟨h,_⟩|⟨b',o',c',e,_,_,h4⟩
 ·rw[h]at hv;cases hv
 ·rw[e]at hv;injection hv with hv _ _;injection hv with hv;injection hv with e1 e2 _;subst e1;subst e2;have al:j<cs.length:=by rw[h2.length];exact hj
  have pC:cs[j]?=some cs[j]:=bd al;have:=h4 j _ pC;rw[hu]at this;injection this with this;rw[this];exact dS al
theorem aCr{w w':World}{v:Value}{fs:List (Int×List Int)}(h:K7 w v fs)(hs:w.heap.size<=w'.heap.size)(hk:∀ k,Pq fs.length v w k->xD w w' k):
  K7 w' v fs/\∀ k,Pq fs.length v w' k->Pq fs.length v w k:=by
 obtain⟨cs,h1,h2⟩:=h;have Ib:∀ b,iF v=some b->xD w w' b:=λb hb=>hk b (.inl hb);have Ps:∀ u∈cs,∀ b,iF u=some b->xD w w' b:=λu hu b hb=>by
  rcases h1 with ⟨_,_,h⟩|⟨b',o',c',e,_,_,h4⟩
  ·rw[h]at hu;cases hu
  ·obtain⟨j,hj,rfl⟩:=kN hu;refine hk b (.inr ⟨b',o',c',j,_,e,by rw[<-h2.length];exact hj,h4 j _ (bd hj),hb⟩)
 refine⟨⟨cs,h1.kept hs Ib,h2.kept hs Ps⟩,λk hF=>?_⟩;rcases hF with hF|⟨b,o,c,j,u,e,hj,hc,hb⟩
 ·exact .inl hF
 ·have:=Pr (h1.kept hs Ib) (h2.kept hs Ps) e hj hc;rcases h1 with ⟨h,_⟩|⟨b',o',c',e',_,_,h4⟩
  ·rw[h]at e;cases e
  ·rw[e']at e;injection e with e1 _ e3;injection e1 with e1;injection e1 with e1 e2 _;subst e1;subst e2;subst e3;have al:j<cs.length:=by rw[h2.length];exact hj
   have h5:=h4 j _ (bd al);have h6:=U4 (Ib b' (by rw[e'];rfl)) h5;rw[hc]at h6;injection h6 with h6;exact .inr ⟨b',o',c',j,u,e',hj,by rw[h6];exact h5,hb⟩
def fo(fs:List (Int×List Int)):Fact where
 G v w:=K7 w v fs
 cO v w k:=Pq fs.length v w k
 lt v w k h hF:=by
  obtain⟨cs,h1,h2⟩:=h;rcases hF with hF|⟨b,o,c,j,u,e,hj,hc,hb⟩
  ·exact h1.lt hF
  ·exact h2.lt u (Pr h1 h2 e hj hc) k hb
 dep v w w' h hs hk:=aCr h hs λk hF cs ty f hc=>(hk k hF).trans hc
 soft _ v w w' h hs hk:=aCr h hs hk
theorem aCs(l:List Int):(eB l).all flat=true:=by rw[bf];intro v hv;obtain⟨z,_,rfl⟩:=di.1 hv;rfl
theorem FP(cells:aj)(i:Nat):du prog 3 cells i=cells[i]?:=by kernel_rfl
theorem Pt{l:List Int}{i:Nat}{z:Int}(h:l[i]?=some z):du prog 3 (eB l) i=some (iV z):=by rw[FP];show(l.map iV)[i]?=_;rw[Cd,h];rfl
section
variable{Bs:aa}{a b:List Int}
def Dw(n i:Nat):aV:=[(13,vI i),(11,sl 0 n),(12,vI n),(0,sl 0 n),(1,sl 1 n)]
def v7(a b:List Int):aH:=[(0,.view (eB a)),(1,.view (eB b))]
noncomputable def aCt{n i:Nat}{x y:Int}{t:Bool}(hi:i<n)(hx:a[i]?=some x)(hy:b[i]?=some y)(ht:(!(x==y))=t)(more:bE prog Bs 26):bE prog Bs 26:=
 .lt 14 i n true (aB hi)::.ix f64 18 0 n i hi k_::.ld f64 19 3 0 i (.view (eB a)) (iV x) rfl (Pt hx) k_::.ix f64 22 1 n i hi k_::.ld f64 23 3 1 i (.view (eB b)) (iV y) rfl (Pt hy) k_::
  .rw 24 (.bool (!(x==y))) (.bool t) (by rw[ht])::more
theorem aCu{n i:Nat}{x:Int}(hi:i<n)(hx:a[i]?=some x)(hy:b[i]?=some x)(h63:n<9223372036854775807):
  ah prog Bs 26 (aE (af f64 0)) (Dw n i) (v7 a b) 2 ⟨.normal,Dw n (i+1),v7 a b,2⟩:=
 aA (aCt (t:=false) hi hx hy s_ [.sum 25 i 1 (i+1) rfl o_])
theorem aMy{n i:Nat}{x y:Int}(hi:i<n)(hx:a[i]?=some x)(hy:b[i]?=some y)(aU:x≠y):
  ah prog Bs 26 (aE (af f64 0)) (Dw n i) (v7 a b) 2 ⟨.ret,[(4,.bool false)],v7 a b,2⟩:=
 aA (aCt (t:=true) hi hx hy (by simp[aU]) [])
theorem aMz{n:Nat}:ah prog Bs 26 (aE (af f64 0)) (Dw n n) (v7 a b) 2 ⟨.exit 0,[],v7 a b,2⟩:=
 aA [.lt 14 n n false s_]
theorem aMA(h63:a.length<9223372036854775807):cD prog 64 [.r a.length (eB a),.r b.length (eB b)] (.bool (decide (a=b))):=by
 have ay:([aP.r a.length (eB a),.r b.length (eB b)].all aP.ok)=true:=by simp only[dG,fB,aP.ok,aCs,jk]
 by_cases hl:a.length=b.length
 ·have aU:(Value.bool (!((a.length:Int)==(b.length:Int))))=.bool false:=by rw[hl];simp
  rcases Du a b hl with h|⟨e,x,y,h1,h2,h3,h4⟩
  ·rw[aB h];subst h;have lo:∀ B:aa,ah prog B 26 (.block 0 (af f64 0)) (Dw a.length 0) (v7 a a) 2 ⟨.normal,[],v7 a a,2⟩:=λB=>
    bO (id:=0) (ch a.length (λi=>Dw a.length i) (λ_=>v7 a a) (λi k _=>Iff.rfl) (λi hi=>by have hx:a[i]?=some a[i]:=bd hi;exact aCu hi hx hx h63) aMz n_)
   exact dV func64 ay 26 (λw=>[.rw 10 _ _ aU,.code 0 _ _ _ _ _ (lo _)])
  ·have bZ:a≠b:=λh=>by subst h;rw[h1]at h2;injection h2 with h2;exact h3 h2
   rw[aJ bZ];have al:=(eE.1 h1).1;have lo:∀ B:aa,ah prog B 26 (.block 0 (af f64 0)) (Dw a.length 0) (v7 a b) 2 ⟨.ret,[(4,.bool false)],v7 a b,2⟩:=λB=>
    bO (id:=0) (ch e (λi=>Dw a.length i) (λ_=>v7 a b) (λi k _=>Iff.rfl) (λi hi=>by have hx:a[i]?=some a[i]:=bd o_;have hy:b[i]?=some b[i]:=bd o_;have:=h4 i _ _ hi hx hy;rw[<-this]at hy;exact aCu o_ hx hy h63) (aMy al h1 h2 h3) n_)
   have Bp:([aP.r a.length (eB a),.r a.length (eB b)].all aP.ok)=true:=by simp only[dG,fB,aP.ok,aCs,jk]
   rw[<-hl]at aU ⊢;exact dV func64 Bp 26 (λw=>[.rw 10 _ _ aU,.code 0 _ _ _ _ _ (lo _)])
 ·have bZ:a≠b:=λh=>hl (by rw[h]);rw[aJ bZ];exact dV func64 ay 26 (λw=>[.rw 10 (.bool (!((a.length:Int)==(b.length:Int)))) (.bool true) (by congr 1;simp;omega)])
end
section
variable{P:Program}{B:aa}{N:Nat}
def aCv(P:Program)(o:Oper):Bool:=match o.op with
 |.binOp .eql t _ _ _=>(match P.underlying t with|some (.slice _)=>true|_=>false)
 |_=>false
theorem aCw{o:Oper}(ho:aCv P o=true){k off n cc:Nat}(kh:0<n):cA P B o [.slice (some ⟨k,off,some 7⟩) n cc,.slice none 0 0] [] (.bool false) []:=by
 unfold aCv at ho;split at ho
 ·rename_i t x y ty bN;split at ho
  ·rename_i e ht;refine gY.step λι c ρ w aN hm hn=>?_;rw[bN]at aN;obtain⟨u,v,zD,hu,hv⟩:=jx aN;have zD:ρ x=u/\ρ y=v:=by simpa[Op.operands]using zD
   have pb:=hv.eR rfl;rcases hu.gW rfl with ⟨_,h0,_⟩|⟨b,oo,cap,c',hb,lp,mz,he⟩
   ·omega
   ·refine⟨ι,.bool false,w,Map.le.refl _,.same rfl,hm,.inl ?_⟩;simp only[execOp,bN,zD.1,zD.2,he,pb];have h2:=Lib.run_eql_slice_nil (P:=P) w t e (some ⟨b,oo+off,none⟩) n c' 0 0 ht;simp only[Option.isNone_some]at h2;simp[eqGuard,h2]
  ·cases ho
 ·cases ho
end
abbrev bz:Nat:=16777216
theorem kv(l:List Nat):∀ u∈ai l,flat u=true:=λu hu=>by obtain⟨x,_,rfl⟩:=di.1 hu;rfl
theorem gV(l:List Nat):(ai l).all flat=true:=bf.2 (kv l)
theorem lM(l:List Nat):(ai l).length=l.length:=by simp[ai]
theorem dJ{l:List Nat}{i x:Nat}(h:l[i]?=some x):du prog 3 (ai l) i=some (vI x):=by rw[FP];simp[ai,h]
theorem Pu(cells:aj)(i:Nat)(z:Int)(h:i<cells.length):eU prog 3 cells i (.int .i64 z)=some (cells.set i (.int .i64 z)):=by
 have e:eU prog 3 cells i (.int .i64 z)=if(Nat.ble (i+1) cells.length&&true)then some (iT cells i [.int .i64 z])else none:=by kernel_rfl
 rw[e,Mw h];rfl
theorem Pv(l:List Nat)(i d:Nat):(ai l).set i (vI d)=ai (l.set i d):=by simp[ai,List.map_set]
theorem v8{l:List Nat}{i d:Nat}(h:i<l.length):eU prog 3 (ai l) i (vI d)=some (ai (l.set i d)):=by rw[<-Pv];exact Pu _ _ _ (by rw[lM];exact h)
theorem K8(n:Nat):List.replicate n (vI 0)=ai (List.replicate n 0):=by simp[ai]
def cJ(a:Nat):aj:=ai (ae bz (nd bz a) a)
def ju(a:Nat):aP:=.r (nd bz a) (cJ a)
theorem U5(a:Nat):(cJ a).length=nd bz a:=by unfold cJ;rw[lM,oI]
theorem sB(a:Nat):(cJ a).all flat=true:=gV _
theorem aMB{a:Nat}(h:nd bz a=0):cJ a=[]:=lq (by rw[U5,h])
theorem aMC{a n:Nat}:a/bz^n%bz<bz:=cH _ d_
theorem aMD{Bs:aa}{n a m:Nat}(hm:m+1<=n)(ha:a<bz^m)(h63:n<=9223372036854775807):
  ah prog Bs 21 (aE (af f139 0)) [(0,sl 0 (m+1))] [(0,.view (ai (ae bz n a)))] 1 ⟨.normal,[(0,sl 0 m)],[(0,.view (ai (ae bz n a)))],1⟩:=by
 have hd:a/bz^m%bz=0:=(GP d_ (cx ha (cY d_ (yq m)))).2 ha;exact aA [.gt 5 (m+1) 0 true s_,.eV 10 (m+1) 1 m rfl o_,.ix f139 11 0 (m+1) m o_ k_,.ld f139 12 3 0 m (.view (ai (ae bz n a))) (vI (a/bz^m%bz)) rfl (dJ (eg o_)) k_,.fh 13 (a/bz^m%bz) 0 true (by simp[hd]),.eV 18 (m+1) 1 m rfl o_,.upto f139 19 0 (m+1) m 1 o_ k_]
theorem aME{Bs:aa}{n a m:Nat}(hm:m<=n)(ha:a<bz^m)(hl:m=nd bz a)(h63:n<=9223372036854775807):
  ah prog Bs 21 (aE (af f139 0)) [(0,sl 0 m)] [(0,.view (ai (ae bz n a)))] 1 ⟨.exit 0,[(0,sl 0 m)],[(0,.view (ai (ae bz n a)))],1⟩:=by
 cases m with
 |zero=>exact aA [.gt 5 0 0 false s_]
 |succ m=>
  have hd:a/bz^m%bz≠0:=λe=>by have:=jd (B:=bz) d_ ((GP d_ ha).1 e);omega
  exact aA [.gt 5 (m+1) 0 true s_,.eV 10 (m+1) 1 m rfl o_,.ix f139 11 0 (m+1) m o_ k_,.ld f139 12 3 0 m (.view (ai (ae bz n a))) (vI (a/bz^m%bz)) rfl (dJ (eg o_)) k_,.fh 13 (a/bz^m%bz) 0 false (by simp[hd])]
theorem aMF{Bs:aa}{n a:Nat}(ha:a<bz^n)(h63:n<=9223372036854775807):
  ah prog Bs 21 (.block 0 (af f139 0)) [(0,sl 0 n)] [(0,.view (ai (ae bz n a)))] 1 ⟨.normal,[(0,sl 0 (nd bz a))],[(0,.view (ai (ae bz n a)))],1⟩:=by
 have hle:=jd (B:=bz) d_ ha;have al:=dO (B:=bz) d_ a
 have:=ch (P:=prog) (B:=Bs) (N:=21) (b:=aE (af f139 0)) (next:=1) (n-nd bz a) (λi=>[(0,sl 0 (n-i))]) (λ_=>[(0,.view (ai (ae bz n a)))])
  (r:=⟨.exit 0,[(0,sl 0 (nd bz a))],[(0,.view (ai (ae bz n a)))],1⟩) (λ_ _ _=>Iff.rfl)
  (λi hi=>by
   have e:n-i=(n-(i+1))+1:=by omega
   simp only[e];exact aMD o_ (cx al (cY d_ o_)) h63)
  (by
   have e:n-(n-nd bz a)=nd bz a:=by omega
   simp only[e];exact aME hle al rfl h63) n_
 exact bO this
theorem aCx{w:World}{v:Value}{n a:Nat}(hv:cK w v n (ai (ae bz n a)))(ha:a<bz^n)(h63:n<=9223372036854775807):
  Calls prog 139 #[v] w λe w'=>e=.returned (vt v (nd bz a))/\Below w.heap.size w w':=by
 refine lC (Q:=λe w'=>e=.returned (vt v (nd bz a))/\Below w.heap.size w w') mixed func139 [.row v n (ai (ae bz n a))] (λs hs=>by simp at hs;subst hs;exact⟨hv,kv _⟩) 100 (N:=21) k_
  (rs:=[.code 0 _ _ _ _ _ (aMF ha h63)]) (v:=sl 0 (nd bz a)) (ms:=[]) k_ λau bY v' w' hc hm _ de=>⟨?_,hm.base⟩
 cases de with
 |cons h1 _=>
 congr 1
 rcases hc.gW rfl with ⟨q1,q2,_,_,q5⟩|⟨b,o,cap,c',q1,q2,q3,q5⟩<;>rcases h1.gW rfl with ⟨p1,p2,_,_,p5⟩|⟨b2,o2,rl,c2,p1,p2,p3,p5⟩
 ·have p5:v=.slice none 0 0:=p5;rw[q5,p5,q2];rfl
 ·rw[q1]at p1;cases p1
 ·rw[q1]at p1;cases p1
 ·rw[q1]at p1;injection p1 with p1;injection p1 with e1 e2 e3;subst e1;subst e2;subst e3;have p5:v=_:=p5;rw[q5,p5,show c'=c2 by omega];rfl
theorem aMG{Bs:aa}{o:Oper}{y:Operand}(ho:dp o.op=some y){k off n a:Nat}{x:Obj}(hx:x.reads=true)(cN:(x.cells.all flat)=true)(hc:(x.cells.drop off).take n=ai (ae bz n a))(ha:a<bz^n)(h63:n<=9223372036854775807)(yo:n=0->off=0\/True):
  cA prog Bs o [.func (.func 139) #[] #[],.slice (some ⟨k,off,some 7⟩) n 0] [(k,some x)] (.slice (some ⟨k,off,some 7⟩) (nd bz a) 0) []:=by
 refine jB (fi:=[]) (ca:=[]) ho k_ λι c w hm hn args' de=>?_;obtain⟨v,rfl,h1⟩:=lT de;have hk:c k=some x:=hn _ (aT ..);have hr:=oH (len:=n) hm hk hx (bf.1 cN) (λh=>h) h1;rw[hc]at hr;refine(aCx hr ha h63).mono ?_
 rintro e w' ⟨rfl,hb⟩
 refine⟨ι,_,rfl,Map.le.refl _,?_,hm.call hb⟩;have jS:=jd (B:=bz) d_ ha;rcases h1.gW rfl with ⟨q1,q2,_,q4,q5⟩|⟨b,oo,cap,c',q1,q2,q3,q5⟩
 ·rw[q5];have:nd bz a=0:=by omega
  dsimp only at q4;rw[this,q4];exact .slcN q1
 ·rw[q5];exact .slc q1 o_ q3
def aX.Dx{Bs:aa}{N:Nat}(fn:Func)(key k n a:Nat)(x:Obj)(hx:x.reads=true)(hc:x.cells=ai (ae bz n a))(ha:a<bz^n)(h63:n<=9223372036854775807)(ho:dp (av fn key).op=some (.func 139)):aX prog Bs N:=
 .step key (av fn key) [.func (.func 139) #[] #[],sl k n] [(k,some x)] (sl k (nd bz a)) [] (aMG ho hx (by rw[hc];exact gV _) (by rw[hc,l5,kj (by simp[ai,oI])]) ha h63 (λ_=>.inr trivial))
section
open Go.Sort (flatK putRowK HoldsK putRow putCells Holds mapBlock grow ahead PermIn SortedIn SWO swp)
section
variable{α:Type}[Inhabited α]{enc:α->aj}{s:Nat}
omit [Inhabited α] in
theorem aCy(h:qM enc s){l:List α}{i r:Nat}{x:α}(hx:l[i]?=some x)(hr:r<s):(dc enc l)[i*s+r]?=(enc x)[r]?:=by have e:=O6 h hx;rw[<-e,ue,aw hr,Eh]
theorem aCz(h:qM enc s)(hs:0<s)(d:Array α):(flatK enc s d).toList=dc enc d.toList:=by
 apply SN;intro t;by_cases ht:t<d.size*s
 ·have hi:t/s<d.size:=(iy hs).2 ht;have hr:t%s<s:=cH _ hs;have hx:d.toList[t/s]?=some d[t/s]:=by simp[hi]
  have e:=aCy h hx hr;rw[cP,je]at e;rw[e];have hl:t%s<(enc d[t/s]).length:=by rw[h.len];exact hr
  have e2:=Go.Sort.get_flatK enc s d t ht;have bA:t<(flatK enc s d).size:=by rw[U6];exact ht
  rw[BK (flatK enc s d) t bA,BK d (t/s) hi,BK (enc d[t/s]) (t%s) hl]at e2;rw[Array.getElem?_toList,yr bA,e2,bd hl]
 ·rw[Av (by simp;omega),Av (by rw[tB h];simp;omega)]
def aCA(P:Program)(f:FuncId)(g:Value)(enc:α->aj)(s:Nat)(lt:α->α->Bool)(l:List α):Prop:=
 ∀(aI cap:Nat) (w:World),HoldsK enc s w aI 0 l.toArray->aI<w.heap.size->Calls P f #[.slice (some ⟨aI,0,none⟩) l.length cap,g] w λe w'=>
  e=.returned (.tuple #[])/\∃ d' n os,PermIn 0 l.length l.toArray d'/\SortedIn lt 0 l.length d'/\w'=Go.Proofs.sortWorldK enc s w aI 0 n d' os
theorem aMH{P:Program}{g:FuncId}{cf:α->α->Int}(h:∀ x y:α,aD P g [.agg (enc x).toArray,.agg (enc y).toArray] (.int .i64 (cf x y)))(aI off size:Nat)(w:World):Go.Proofs.CmpLays P g #[] enc s cf aI off size w:=by
 intro m os dk _ x y;refine(h x y _).mono ?_
 rintro e w' ⟨rfl,hb⟩
 generalize Go.Proofs.sortWorldK enc s w aI off m dk os=W at *;refine⟨rfl,w'.drawn-W.drawn,w'.heap.extract W.heap.size w'.heap.size,?_⟩;obtain⟨heap,tape,drawn,osW,out⟩:=W;obtain⟨aMI,aUS,aUT,os',aUU⟩:=w';obtain⟨⟨h1,h2⟩,h3,h4,h5,h6⟩:=hb;dsimp only at h1 h2 h3 h4 h5 h6;subst h1;subst h3;subst h4;unfold grow World.drewN;dsimp only
 congr 1
 ·apply Array.ext_getElem?;intro k;by_cases hk:k<heap.size
  ·rw[h6 k hk,aCB hk]
  ·rw[Array.getElem?_append_right o_,Array.getElem?_extract];by_cases fF:k<aMI.size
   ·rw[aw o_];congr 1;omega
   ·rw[ao o_,Yl o_]
 ·omega
theorem aMJ{P:Program}{B:aa}{f:FuncId}{g:Value}{lt:α->α->Bool}{l l':List α}{o:Oper}{x:Operand}{ty:TypeId}(h:qM enc s)(hs:0<s)(hso:aCA P f g enc s lt l)(hg:flat g=true)(ho:dp o.op=some x)(eG:gk P f=true)(k:Nat)
  (aMK:l=[]->aD P f [.slice none 0 0,g] (.tuple #[])) (cg:∀ d:List α,d.Perm l->(∀ i j,i<j->j<d.length->∀ x y,d[i]?=some x->d[j]?=some y->lt y x=false)->d=l') :
  cA P B o [.func (.func f) #[] #[],.slice (some ⟨k,0,some 7⟩) l.length 0,g] [(k,some (.row (dc enc l) ty s))] (.tuple #[]) [(k,.row (dc enc l') ty s)]:=by
 refine jB (fi:=[]) (ca:=[]) ho eG λι c w hm hn args' de=>?_;obtain⟨v,u,rfl,h1,h2⟩:=jx (by simpa using de);have hu:=h2.eR hg;subst hu;have hk:=hn (k,_) (aT ..);rcases h1.gW rfl with ⟨q1,q2,_,_,q5⟩|⟨b,oo,cap,c',q1,q2,q3,q5⟩
 ·have hl:l=[]:=lq q2;subst hl;have e:l'=[]:=(cg [] (.refl _) λi j _ hj=>by simp at hj).symm;subst e;rw[q5];refine(aMK rfl w).mono ?_
  rintro e w' ⟨rfl,hb⟩
  refine⟨ι,_,rfl,Map.le.refl _,.same rfl,((hm.call hb).ext λj=>?_)⟩;show aY c k _ j=c j;unfold aY;by_cases hj:j=k
  ·rw[aw hj,hj];exact hk.symm
  ·rw[ao hj]
 ·obtain⟨lo,p1,p2⟩:=hm.born k _ hk;dsimp only at q1;rw[q1]at p1;injection p1 with p1;subst p1;rcases p2 with p2|⟨b',aO,cur,e1,lW,dy,fX,jc⟩
  ·cases p2.1
  injection e1 with e1 e2 e3;subst e1;subst e2;subst e3;have fK:=(hm.own k _ b 0 cap hk rfl q1).1;have aCC:cur.toList.take (dc enc l).length=dc enc l:=nj jc (KY h l);have hlen:(dc enc l).length=l.length*s:=tB h l;have hle:l.length*s<=cur.size:=by have:=cI List.length aCC;rw[jL,hlen]at this;simp at this;omega
  have mC:(flatK enc s l.toArray).toList=dc enc l:=aCz h hs l.toArray;have hold:HoldsK enc s w b 0 l.toArray:=by
   intro j hj;rw[U6]at hj;simp only[Mn]at hj;have Pw:j<cur.size:=by omega
   have bA:j<(flatK enc s l.toArray).size:=by rw[U6];simpa using hj
   have e:cur[j]=(flatK enc s l.toArray)[j]:=by
    have e1:(cur.toList.take (dc enc l).length)[j]?=(dc enc l)[j]?:=by rw[aCC]
    rw[ue,aw (by rw[hlen];exact hj),<-mC]at e1;rw[Array.getElem?_toList,Array.getElem?_toList,yr Pw,yr bA]at e1;injection e1
   refine⟨?_,?_⟩
   ·rw[BK _ j bA];simp[World.cell?,lW,Pw,e]
   ·simp[World.frozen?,lW]
  rw[q5];refine(hso b c' w hold fK).mono ?_
  rintro e w' ⟨rfl,d',n,os,hp,FQ,rfl⟩
  obtain⟨gZ,wG,Ic⟩:=hp;have N4:d'.toList=l':=by
   refine cg _ ?_ λi j mw hj x y hx hy=>?_
   ·have e1:d'.extract 0 l.length=d':=by rw[<-Mn,<-gZ];exact Array.extract_size
    have e2:l.toArray.extract 0 l.length=l.toArray:=by rw[<-Mn];exact Array.extract_size
    rw[e1,e2]at Ic;simpa using Ic
   ·have iu:j<d'.size:=by simpa using hj
    have hz:d'.size=l.length:=by rw[gZ];simp
    have:=FQ i j (kU _) mw o_;rw[BK d' i o_,BK d' j iu]at this;rw[Array.getElem?_toList,yr o_]at hx;rw[Array.getElem?_toList,yr iu]at hy;injection hx with hx;injection hy with hy;rw[hx,hy]at this;exact this
  have hz:d'.size=l.length:=by rw[gZ];simp
  have A8:l'.length=l.length:=by rw[<-N4];simpa using hz
  refine⟨ι,_,rfl,Map.le.refl _,.same rfl,?_⟩;have AQ:(flatK enc s d').toList=dc enc l':=by rw[aCz h hs,N4]
  have hF:(flatK enc s d').size=l.length*s:=by rw[U6,hz]
  show aM B ι (aY c k (.row (dc enc l') ty s)) _;have hW:(Go.Proofs.sortWorldK enc s w b 0 n d' os).heap=w.heap.modify b (Go.Sort.onCells (putCells id 0 (flatK enc s d')))++os:=rfl;have aML:(Go.Proofs.sortWorldK enc s w b 0 n d' os).heap[b]?=some (.cells (putCells id 0 (flatK enc s d') cur) ty (0,0)):=by rw[hW,aCB (by simpa using fK),XQ,aw rfl,lW];rfl
  have hcz:(putCells id 0 (flatK enc s d') cur).size=cur.size:=by simp[putCells]
  refine hm.write hk rfl q1 ⟨rfl,JS _ _⟩ rfl rfl ?_ (λj hj EN=>?_) (.inr ⟨b,cap,_,rfl,aML,dy,by rw[hcz,fX],?_⟩) n_ rfl
  ·rw[hW];simp
  ·rw[hW,aCB (by simpa using hj),XQ,ao (λe=>EN e.symm)]
  ·have e:(putCells id 0 (flatK enc s d') cur).toList.take (dc enc l').length=dc enc l':=by
    rw[tB h,A8,<-AQ];apply SN;intro j;rw[ue];by_cases hj:j<l.length*s
    ·rw[aw hj];have Pw:j<cur.size:=by omega
     have bA:j<(flatK enc s d').size:=by rw[hF];exact hj
     rw[Array.getElem?_toList,Array.getElem?_toList,yr bA];unfold putCells;rw[Array.getElem?_mapIdx,yr Pw];simp only[Rf,GN,id_eq];rw[aw ⟨kU _,by rw[hF];omega⟩,BK _ j bA]
    ·rw[ao hj,Av (by simp[hF];omega)]
   rw[e];exact kg (KY h l')
end
end
section
variable{P:Program}{B:aa}{N:Nat}
def Px(P:Program)(o:Oper):Option (TypeId×Nat×Value):=match o.op with
 |.call c=>match c.callee,c.args.toList,c.argTypes.toList with
  |.builtin .clear,[_],[t]=>(match P.underlying t with
   |some (.slice e)=>(match P.info? e with|some i=>(match i.zero with|some z=>some (e,i.size,z)|none=>none)|none=>none)
   |_=>none)
  |_,_,_=>none
 |_=>none
theorem aMM{o:Oper}{e s:Nat}{z:Value}(ho:Px P o=some (e,s,z)):∃ x t i,o.op=.call { callee:=.builtin .clear,args:=#[x],argTypes:=#[t]}/\P.underlying t=some (.slice e)/\P.info? e=some i/\i.zero=some z/\i.size=s:=by
 unfold Px at ho;split at ho
 ·rename_i c bN;split at ho
  ·rename_i x t h1 h2 h3;split at ho
   ·rename_i e' ht;split at ho
    ·rename_i i hi;split at ho
     ·rename_i z' hz;injection ho with ho;injection ho with q1 ho;injection ho with q2 q3;subst q1;subst q2;subst q3;refine⟨x,t,i,?_,ht,hi,hz,rfl⟩;rw[bN];obtain⟨ce,ar,at'⟩:=c;dsimp only at h1 h2 h3;subst h1;have e1:ar=#[x]:=by rw[<-zi (xs:=ar),h2]
      have e2:at'=#[t]:=by rw[<-zi (xs:=at'),h3]
      rw[e1,e2]
     ·cases ho
    ·cases ho
   ·cases ho
  ·cases ho
 ·cases ho
theorem aMN{o:Oper}{e s:Nat}{z:Value}(ho:Px P o=some (e,s,z))(h1:∀ v∈z.cells.toList,v.oneCell'=true/\flat v=true){k off n cc:Nat}{cells new:aj}(hn:0<n)(hlen:off+n*z.cells.size<=cells.length)
  (kT:iT cells off (Builtin.zeroCells z.cells n).toList=new):cA P B o [.slice (some ⟨k,off,some 7⟩) n cc] [(k,some (.row cells e s))] (.tuple #[]) [(k,.row new e s)]:=by
 subst kT;obtain⟨x,t,i,bN,ht,hi,hz,rfl⟩:=aMM ho;refine gY.step λι c ρ w aN hm oE=>?_;have hk:c k=some (.row cells e i.size):=oE _ (aT ..);rw[bN]at aN;obtain⟨u,hu,hc⟩:=lT aN;have hu:ρ x=u:=by simpa[Op.operands,Call.operands]using hu
 rcases hc.gW rfl with ⟨_,q2,_⟩|⟨b,oo,cap,c',hb,lp,mz,he⟩
 ·omega
 dsimp only at hb he;have A8:((Builtin.zeroCells z.cells n).toList).length=n*z.cells.size:=by rw[yk,Mj]
 have Ie:∀ v∈(Builtin.zeroCells z.cells n).toList,v.oneCell'=true/\flat v=true:=by
  intro v hv;unfold Builtin.zeroCells at hv;rw[Array.toList_map,di]at hv;obtain⟨j,hj,rfl⟩:=hv;have hjs:j<n*z.cells.size:=by simpa using hj
  have h0:0<z.cells.size:=by
   rcases nZ z.cells.size with h|h
   ·rw[h]at hjs;omega
   ·exact h
  rw[BK z.cells _ (cH _ h0)];exact h1 _ s_
 obtain⟨h0,bJ,bt,ty,lW,uf⟩:=hm.store hk rfl hb (kg λv hv=>(Ie v hv).2) (o:=off) (by rw[A8];exact hlen);subst h0;rw[jZ]at he;refine⟨ι,.tuple #[],_,Map.le.refl _,.same rfl,bJ,.inl ?_⟩
 have run:=run_storeCells_cells (P:=P) b off (Builtin.zeroCells z.cells n).toList 0 w
  (λj hj=>by
   have:j+off<bt.length:=by omega
   simp[World.cell?,lW];omega)
  (λj hj=>by simp[World.frozen?,lW]) λv hv=>(Ie v hv).1
 simp only[jn]at run;obtain⟨m,rfl⟩:∃ m,n=m+1:=⟨n-1,by omega⟩;have iH:(Builtin.clear_ #[t] o.type #[.slice (some ⟨b,off,none⟩) (m+1) c']).run P w=.ok (.tuple #[]) (w.setCells b off (Builtin.zeroCells z.cells (m+1)).toList):=by simp[Builtin.clear_,iI ht,zeroValue,typeInfo,hi,hz,run]
 simp[execOp,bN,resolve,invoke,builtin,hu,he,iH]
theorem aMO{α:Type}{enc:α->aj}{s:Nat}(h:qM enc s){x:α}{z:Array Value}(hz:z.toList=enc x)(hs:0<s)(n:Nat):(Builtin.zeroCells z n).toList=dc enc (List.replicate n x):=by
 have bA:z.size=s:=by rw[<-yk,hz,h.len]
 apply SN;intro t;by_cases ht:t<n*s
 ·have hi:t/s<n:=(iy hs).2 ht;have hr:t%s<s:=cH _ hs;have e:=aCy h (l:=List.replicate n x) (i:=t/s) (x:=x) (by simp[hi]) hr;rw[cP,je]at e;rw[e,<-hz];unfold Builtin.zeroCells;rw[Array.toList_map,Cd];have:(Array.range (n*z.size)).toList[t]?=some t:=by rw[bA];simp[ht]
  rw[this,Rf,bA,BK z _ o_,Array.getElem?_toList,yr o_]
 ·rw[Av (by rw[yk,Mj,bA];omega),Av (by rw[tB h];simp;omega)]
def aX.pD(fn:Func)(key k a n cc i j s:Nat)(hi:i<n)(hj:a+i=j)(ho:AN P (av fn key)=some s):aX P B N:=
 .step key (av fn key) [.slice (some ⟨k,a*s,some 7⟩) n cc,vI i] [] (.pointer (some ⟨k,j*s,some 7⟩)) [] (by have:=MQ (B:=B) ho (k:=k) (off:=a*s) (cc:=cc) (kd:=.i64) hi;rw[<-ft,hj]at this;exact this)
def aX.behind(fn:Func)(key k n a m s:Nat)(hm:a+m=n)(h0:0<m)(ho:rL P (av fn key)=some (true,false,s)):aX P B N:=
 .step key (av fn key) [.slice (some ⟨k,0,some 7⟩) n 0,vI a] [] (.slice (some ⟨k,a*s,some 7⟩) m a) [] (by have:=GO (B:=B) ho (k:=k) (off:=0) (n:=n) (cc:=0) (l:=a) (h:=n) n_ (λ_=>rfl) o_ (bh _) (.inl o_);rw[show n-a=m by omega]at this;simpa using this)
def aX.clear(fn:Func)(key k off n cc e s:Nat)(z:Value)(cells new:aj)(h1:∀ v∈z.cells.toList,v.oneCell'=true/\flat v=true)(hn:0<n)(hlen:off+n*z.cells.size<=cells.length)(kT:iT cells off (Builtin.zeroCells z.cells n).toList=new)
  (ho:Px P (av fn key)=some (e,s,z)):aX P B N:=
 .step key (av fn key) [.slice (some ⟨k,off,some 7⟩) n cc] [(k,some (.row cells e s))] (.tuple #[]) [(k,.row new e s)] (aMN ho h1 hn hlen kT)
end
def aa.gB(B:aa)(ks:List (Value×aj)):aa where
 G w:=B.G w/\∀ p∈ks,cK w p.1 p.2.length p.2
 cO k:=B.cO k\/∃ p∈ks,iF p.1=some k
 ds:=B.ds
 Fa:=B.Fa
 mp:=B.mp
 lt w k h hk:=by
  rcases hk with hk|⟨p,hp,hb⟩
  ·exact B.lt w k h.1 hk
  ·exact(h.2 p hp).lt hb
 dep w w' h h1 h2 h3 h4 h5:=⟨B.dep w w' h.1 h1 h2 h3 h4 λk hk=>h5 k (.inl hk),λp hp=>(h.2 p hp).kept h4 λb hb _ _ _ e=>(h5 b (.inr ⟨p,hp,hb⟩)).trans e⟩
theorem aCD{B:aa}{ι:Map}{c:Nat->Option Obj}{w:World}(h:aM B ι c w):aM (B.gB []) ι c w:=
 ⟨⟨h.base,λp hp=>by cases hp⟩,h.dr,h.born,λk x b o cap e hx hl=>⟨(h.own k x b o cap e hx hl).1,λhF=>by
  rcases hF with hF|⟨p,hp,_⟩
  ·exact(h.own k x b o cap e hx hl).2 hF
  ·cases hp⟩,h.inj,h.apart,h.seen,h.fa,h.one,h.oC⟩
theorem Py{B:aa}{ks:List (Value×aj)}{ι:Map}{c:Nat->Option Obj}{w:World}(h:aM (B.gB ks) ι c w){m:Nat}{xs:aj}{ty:TypeId}{u:Value}(hm:c m=some (.row xs ty 1))(cN:∀ v∈xs,flat v=true)
  (hu:aG ι (.slice (some ⟨m,0,some 7⟩) xs.length 0) u):aM (B.gB ((u,xs)::ks)) ι (aY c m .dead) w/\flat u=true/\∀ b,iF u=some b->¬B.cO b:=by
 have jm:=oH (len:=xs.length) h hm rfl cN (λe=>e) hu;have jm:cK w u xs.length xs:=by
  have e:((Obj.row xs ty 1).cells.drop 0).take xs.length=xs:=by rw[l5];exact nI
  rwa[e]at jm
 have hk:=h.kill m (by rw[hm];exact n_);have hb:∀ b,iF u=some b->∃ o cap,ι m=some (.at b o cap):=by
  intro b hb;rcases hu.gW rfl with ⟨_,_,_,_,q5⟩|⟨b',oo,cap,c',q1,_,_,q5⟩
  ·rw[q5]at hb;cases hb
  ·rw[q5]at hb;injection hb with hb;subst hb;exact⟨oo,cap,q1⟩
 have cV:∀ j z,j≠m->aY c m .dead j=some z->c j=some z:=λj z hj e=>by unfold aY at e;rwa[ao hj]at e
 refine⟨⟨⟨h.base.1,λp hp=>?_⟩,hk.dr,hk.born,λk x b o cap e hx hl=>⟨(hk.own k x b o cap e hx hl).1,λhF=>?_⟩,hk.inj,hk.apart,hk.seen,hk.fa,hk.one,hk.oC⟩,?_,λb hbu hF=>?_⟩
 ·rcases cy.1 hp with rfl|hp
  ·exact jm
  ·exact h.base.2 p hp
 ·rcases hF with hF|⟨p,hp,J4⟩
  ·exact(hk.own k x b o cap e hx hl).2 (.inl hF)
  ·rcases cy.1 hp with rfl|hp
   ·obtain⟨o',aO,cg⟩:=hb b J4;by_cases Ig:k=m
    ·subst Ig;unfold aY at e;rw[aw rfl]at e;injection e with e;subst e;cases hx
    ·exact Ig (h.inj k m x _ b o cap o' aO (cV k x Ig e) hx hm rfl hl cg)
   ·exact(hk.own k x b o cap e hx hl).2 (.inr ⟨p,hp,J4⟩)
 ·rcases hu.gW rfl with ⟨_,_,_,_,q5⟩|⟨b',oo,cap,c',q1,_,_,q5⟩
  ·rw[q5];rfl
  ·rw[q5];rfl
 ·obtain⟨o,cap,hl⟩:=hb b hbu;exact(h.own m _ b o cap hm rfl hl).2 (.inl hF)
def kx:List (Nat×Nat)->Nat->Option Nat
 |[],_=>none
 |(j,m)::l,k=>if Nat.beq j k then some m else kx l k
def qU(ι:Map)(r:List (Nat×Nat)):Map:=λj=>(kx r j).bind ι
def K9:List (Nat×Nat)->Bool
 |[]=>true
 |(_,m)::l=>(l.all λp=>!Nat.beq m p.2)&&K9 l
theorem U7:∀{r:List (Nat×Nat)} {j m:Nat},kx r j=some m->(j,m)∈r
 |(i,q)::l,j,m,h=>by
  unfold kx at h;split at h
  ·rename_i hb;injection h with h;subst h;rw[j0 hb];exact aT ..
  ·exact bB _ (U7 h)
theorem U8:∀{r:List (Nat×Nat)},K9 r=true->∀ i j m:Nat,kx r i=some m->kx r j=some m->i=j
 |(a,q)::l,h,i,j,m,h1,h2=>by
  unfold K9 at h;rw[db,bf]at h;have ih:=U8 h.2;have no:∀ k,kx l k=some q->False:=λk hk=>by have:=h.1 _ (U7 hk);simp at this
  unfold kx at h1 h2;split at h1<;>split at h2
  ·rename_i e1 e2;rw[<-j0 e1,<-j0 e2]
  ·injection h1 with h1;subst h1;exact(no j h2).elim
  ·injection h2 with h2;subst h2;exact(no i h1).elim
  ·exact ih i j m h1 h2
 |[],_,i,j,m,h,_=>by cases h
def Ih(a:Addr):Bool:=match a.spot with|some s=>Nat.beq s 7||Nat.beq s 9|none=>false
def xE(r:List (Nat×Nat)):Value->Value
 |.slice (some ad) n c=>if nh ad then(match kx r ad.block with|some m=>.slice (some ⟨m,ad.off,some 7⟩) n c|none=>.slice (some ad) n c)else .slice (some ad) n c
 |.pointer (some ad)=>if Ih ad then(match kx r ad.block with|some m=>.pointer (some ⟨m,ad.off,ad.spot⟩)|none=>.pointer (some ad))else .pointer (some ad)
 |v=>v
def zE(r:List (Nat×Nat)):Value->Value
 |.func f fi ca=>.func f (fi.toList.map (xE r)).toArray (ca.toList.map (xE r)).toArray
 |v=>xE r v
def FR(r:List (Nat×Nat)):Value->Bool
 |.slice (some ad) _ _=>if nh ad then(kx r ad.block).isSome else mr ad
 |.pointer (some ad)=>if Ih ad then(kx r ad.block).isSome else mr ad
 |v=>flat v&&!lQ v
def tG(r:List (Nat×Nat)):Value->Bool
 |.func _ fi ca=>fi.toList.all (FR r)&&ca.toList.all (FR r)
 |v=>FR r v
theorem aCE{a:Addr}(h:Ih a=true):mr a=false:=by
 unfold Ih at h;unfold mr;cases hs:a.spot with
 |none=>rw[hs]at h;cases h
 |some s=>rfl
theorem aMP{r:List (Nat×Nat)}{v:Value}(h:flat v=true):xE r v=v:=by
 unfold xE;split
 ·rename_i ad n c;split
  ·rename_i ho;have:mr ad=true:=h;rw[Rb ho]at this;cases this
  ·rfl
 ·rename_i ad;split
  ·rename_i ho;have:mr ad=true:=h;rw[aCE ho]at this;cases this
  ·rfl
 ·rfl
theorem aCF{ι:Map}{r:List (Nat×Nat)}{v v':Value}(ay:FR r v=true)(h:aG ι (xE r v) v'):aG (qU ι r) v v':=by
 have fl:∀ v:Value,flat v=true->aG ι (xE r v) v'->aG (qU ι r) v v':=λv hv hc=>by rw[aMP hv]at hc;rw[hc.eR hv];exact .same hv
 unfold FR at ay;split at ay
 ·rename_i ad n c;split at ay
  ·rename_i ho;cases hr:kx r ad.block with
   |none=>rw[hr]at ay;cases ay
   |some m=>
    have La:xE r (.slice (some ad) n c)=.slice (some ⟨m,ad.off,some 7⟩) n c:=by show(if nh ad=true then(match kx r ad.block with|some m=>Value.slice (some ⟨m,ad.off,some 7⟩) n c|none=>.slice (some ad) n c)else .slice (some ad) n c)=_;rw[aw ho,hr]
    rw[La]at h;have hm:qU ι r ad.block=ι m:=by unfold qU;rw[hr];rfl
    obtain⟨bl,off,sp⟩:=ad;have zF:=Je ho;dsimp only at zF;subst zF;rcases h.gW rfl with ⟨q1,q2,q3,q4,q5⟩|⟨b,oo,cap,c',q1,q2,q3,q5⟩
    ·dsimp only at q1 q4 hm;rw[q5,q2,q3,q4];exact .slcN (hm.trans q1)
    ·dsimp only at q1 hm q5;rw[q5];exact .slc (hm.trans q1) q2 q3
  ·exact fl _ ay h
 ·rename_i ad;split at ay
  ·rename_i ho;cases hr:kx r ad.block with
   |none=>rw[hr]at ay;cases ay
   |some m=>
    have La:xE r (.pointer (some ad))=.pointer (some ⟨m,ad.off,ad.spot⟩):=by show(if Ih ad=true then(match kx r ad.block with|some m=>Value.pointer (some ⟨m,ad.off,ad.spot⟩)|none=>.pointer (some ad))else .pointer (some ad))=_;rw[aw ho,hr]
    rw[La]at h;have hm:qU ι r ad.block=ι m:=by unfold qU;rw[hr];rfl
    obtain⟨bl,off,sp⟩:=ad;dsimp only at hm h;generalize hp:Value.pointer (some ⟨m,off,sp⟩)=p at h;cases h with
    |same hf=>subst hp;have:mr ⟨m,off,sp⟩=true:=hf;rw[aCE (a:=⟨m,off,sp⟩) ho]at this;cases this
    |ptr q=>injection hp with hp;injection hp with hp;injection hp with h1 h2 h3;subst h1;subst h2;subst h3;exact .ptr (hm.trans q)
    |slc q=>cases hp
    |slcN q=>cases hp
    |opq q1 q2 q3=>injection hp with hp;injection hp with hp;injection hp with h1 h2 h3;subst h1;subst h2;subst h3;exact .opq (hm.trans q1) q2 q3
    |fn=>cases hp
    |agg=>cases hp
    |tup=>cases hp
  ·exact fl _ ay h
 ·rw[db]at ay;exact fl _ ay.1 h
theorem U9{ι:Map}{r:List (Nat×Nat)}:∀{l l':aj},(l.all (FR r))=true->bI (aG ι) (l.map (xE r)) l'->bI (aG (qU ι r)) l l'
 |[],_,_,h=>by cases h;exact .nil
 |v::l,_,ay,h=>by
  rw[dG,db]at ay;cases h with
  |cons h1 h2=>exact .cons (aCF ay.1 h1) (U9 ay.2 h2)
theorem aCG{ι:Map}{r:List (Nat×Nat)}{v v':Value}(ay:tG r v=true)(h:aG ι (zE r v) v'):aG (qU ι r) v v':=by
 unfold tG at ay;split at ay
 ·rename_i f fi ca;rw[db]at ay;obtain⟨kf,eY,rfl,h1,h2⟩:=h.B6;have g1:=U9 ay.1 h1;have g2:=U9 ay.2 h2;have:=aG.fn (f:=f) g1 g2;simpa using this
 ·rename_i hn;have:zE r v=xE r v:=by
   unfold zE;split
   ·exact absurd rfl (hn _ _ _)
   ·rfl
  rw[this]at h;exact aCF ay h
theorem aMQ(r:List (Nat×Nat)){v:Value}(h:lQ v=false):lQ (zE r v)=false:=by
 cases v with
 |slice a n c=>
  cases a with
  |none=>rfl
  |some ad=>
   show lQ (if nh ad=true then(match kx r ad.block with|some m=>Value.slice (some ⟨m,ad.off,some 7⟩) n c|none=>.slice (some ad) n c)else .slice (some ad) n c)=false;split
   ·split<;>rfl
   ·rfl
 |pointer a=>
  cases a with
  |none=>rfl
  |some ad=>
   show lQ (if Ih ad=true then(match kx r ad.block with|some m=>Value.pointer (some ⟨m,ad.off,ad.spot⟩)|none=>.pointer (some ad))else .pointer (some ad))=false;split
   ·split<;>rfl
   ·rfl
 |func f fi ca=>rfl
 |_=>exact h
theorem aCH{ι:Map}{r:List (Nat×Nat)}:∀{l l':aj},(l.all (tG r))=true->bI (aG ι) (l.map (zE r)) l'->bI (aG (qU ι r)) l l'
 |[],_,_,h=>by cases h;exact .nil
 |v::l,_,ay,h=>by
  rw[dG,db]at ay;cases h with
  |cons h1 h2=>exact .cons (aCG ay.1 h1) (aCH ay.2 h2)
def Dy(r:List (Nat×Nat)):Obj->Obj
 |.aI cs ty=>.aI (cs.map (zE r)) ty
 |x=>x
def FT(r:List (Nat×Nat)):Obj->Prop
 |.aI cs _=>(cs.all (tG r))=true
 |.fact _=>True
 |.dead=>True
 |x=>∀ v∈x.cells,flat v=true
theorem Ii(r:List (Nat×Nat))(x:Obj):(Dy r x).owns=x.owns/\(Dy r x).gj=x.gj:=by cases x<;>exact⟨rfl,rfl⟩
theorem aMR{ι:Map}{w:World}{l:o9}{r:List (Nat×Nat)}{x:Obj}(ay:FT r x)(h:jv ι w l (Dy r x)):jv (qU ι r) w l x:=by
 have fl:∀{cs bt:aj},(∀ v∈cs,flat v=true)->bI (aG ι) cs bt->bI (aG (qU ι r)) cs bt:=λhf h=>by rw[nj h hf];exact kg hf
 cases x with
 |aI cells ty=>
  obtain⟨b,bt,e1,e2,e3⟩:=h;exact⟨b,bt,e1,aCH ay e2,e3⟩
 |row cells ty size=>
  rcases h with h|⟨b,cap,cur,e1,e2,e3,e4,e5⟩
  ·exact .inl h
  ·exact .inr ⟨b,cap,cur,e1,e2,e3,e4,fl ay e5⟩
 |view cells=>
  rcases h with h|⟨b,o,cap,cs,e1,e2,e3⟩
  ·exact .inl h
  ·exact .inr ⟨b,o,cap,cs,e1,fl ay e2,e3⟩
 |fact F=>exact h
 |dead=>trivial
theorem aMS{B:aa}{ι:Map}{c:Nat->Option Obj}{w:World}(h:aM B ι c w)(po:∀ k,B.mp k=none){r:List (Nat×Nat)}{L:aH}(jS:K9 r=true)(jQ:∀ j,ag L j=none↔kx r j=none)
  (hL:∀ j x m,ag L j=some x->kx r j=some m->FT r x/\c m=some (Dy r x)):aM B (qU ι r) (ag L) w:=by
 have src:∀ j x,ag L j=some x->∃ m,kx r j=some m/\FT r x/\c m=some (Dy r x)/\qU ι r j=ι m:=λj x e=>by
  cases hr:kx r j with
  |none=>rw[(jQ j).2 hr]at e;cases e
  |some m=>
   obtain⟨h1,h2⟩:=hL j x m e hr;exact⟨m,rfl,h1,h2,by unfold qU;rw[hr];rfl⟩
 refine⟨h.base,λk e=>?_,λk x e=>?_,λk x b o cap e hx hl=>?_,λk j x y b o cap o' aO e hx e' hy hl cg=>?_,λk j x F b o cap v e hx hl e' hv=>?_,λk x b o cap e hx hl=>?_,λj F e=>?_,λj k F F' e e' h1 h2=>?_,λk l e=>?_⟩
 ·unfold qU;rw[(jQ k).1 e];rfl
 ·obtain⟨m,_,h2,h3,h4⟩:=src k x e;obtain⟨l,q1,q2⟩:=h.born m _ h3;exact⟨l,h4.trans q1,aMR h2 q2⟩
 ·obtain⟨m,_,_,h3,h4⟩:=src k x e;exact h.own m _ b o cap h3 ((Ii r x).1.trans hx) (h4▸hl)
 ·obtain⟨m,h1,_,h3,h4⟩:=src k x e;obtain⟨m',pM,_,FU,Lb⟩:=src j y e';have:=h.inj m m' _ _ b o cap o' aO h3 ((Ii r x).1.trans hx) FU ((Ii r y).1.trans hy) (h4▸hl) (Lb▸cg);subst this;exact U8 jS k j m h1 pM
 ·obtain⟨m,_,_,h3,h4⟩:=src k x e;obtain⟨m',_,_,FU,Lb⟩:=src j _ e';exact h.apart m m' _ F b o cap v h3 ((Ii r x).1.trans hx) (h4▸hl) FU (Lb▸hv)
 ·obtain⟨m,_,_,h3,h4⟩:=src k x e;obtain⟨p1,p2⟩:=h.seen m _ b o cap h3 ((Ii r x).2.trans hx) (h4▸hl);refine⟨p1,λj y o' aO e' hy cg=>?_⟩;obtain⟨m',_,_,FU,Lb⟩:=src j y e';exact p2 m' _ o' aO FU ((Ii r y).1.trans hy) (Lb▸cg)
 ·obtain⟨m,_,_,h3,_⟩:=src j _ e;exact h.fa m F h3
 ·obtain⟨m,q1,_,h3,_⟩:=src j _ e;obtain⟨m',qv,_,FU,_⟩:=src k _ e';have:=h.one m m' F F' h3 FU h1 h2;subst this;exact U8 jS j k m q1 qv
 ·rw[po k]at e;cases e
def St(B:aa)(N:Nat)(fr:aV)(M:aH)(next:Nat)(a:Act)(w:World):Prop:=∃ ι cc,e9 B ι (bC fr) N a/\aM B ι cc w/\cS cc M/\eD cc next
section
variable{P:Program}{B:aa}{N:Nat}
theorem lh{c:Code}{fr:aV}{M:aH}{next:Nat}{r:lZ}{a:Act}{w:World}{Q:Exit->Act->World->Prop}(g:ah P B N c fr M next r)(h:St B N fr M next a w)
  (hQ:∀ a' w',St B N r.fr r.M r.next a' w'->Q r.ex.AB a' w'):c.wpIn (FW none) 0 P Q a w:=by
 obtain⟨ι,cc,h1,h2,h3,h4⟩:=h;exact g none ι cc a w Q h1 h2 h3 h4 λau bY a' w' _ q2 q3 q4 q5 _ _=>hQ a' w' ⟨au,bY,q2,q3,q4,q5⟩
theorem Va{b:Code}{Q:Exit->Act->World->Prop}{a:Act}{w:World}(n:Nat)(Inv:Nat->Act->World->Prop)(h0:Inv 0 a w)
  (body:∀ i,i<n->∀ a w,Inv i a w->∀ K:Act->World->Prop,(∀ a' w',Inv (i+1) a' w'->K a' w')->b.wpIn (FW none) 0 P (Exit.then K Q) a w)
  (last:∀ a w,Inv n a w->b.wpIn (FW none) 0 P (Exit.then (λ_ _=>False) Q) a w):(Code.loop b).wpIn (FW none) 0 P Q a w:=by
 refine RX (n+1) ?_;have key:∀ d i,i+d=n->∀ a w,Inv i a w->Code.roundsIn (FW none) 0 P b Q (d+1) a w:=by
  intro d;induction d with
  |zero=>
   intro i hi a w h;have:i=n:=by omega
   subst this;rw[EB];exact last a w h
  |succ d ih=>
   intro i hi a w h;rw[EB];exact body i o_ a w h _ λa' w' h'=>ih (i+1) o_ a' w' h'
 exact key n 0 o_ a w h0
theorem St.Ij{fr sC:aV}{M L:aH}{next aCI:Nat}{a:Act}{w:World}(h:St B N fr M next a w)(po:∀ k,B.mp k=none)(r:List (Nat×Nat))(jS:K9 r=true)(jQ:L.map (·.1)=r.map (·.1))
  (ay:∀ p∈L,FT r p.2) (hL:(r.map λp=>ag M p.2)=L.map λp=>some (Dy r p.2)) (YJ:(L.map λp=>ag L p.1)=L.map λp=>some p.2) (mC:(sC.all λp=>tG r p.2)=true) (hs:(sC.map λp=>bC fr p.1)=sC.map λp=>zE r p.2) (hn:(r.all λp=>Nat.blt p.1 aCI)=true):St B N sC L aCI a w:=by
 obtain⟨ι,cc,h1,h2,h3,h4⟩:=h;have hk:∀{L:aH} {r:List (Nat×Nat)},L.map (·.1)=r.map (·.1)->∀ j,ag L j=none↔kx r j=none:=by
  intro L;induction L with
  |nil=>intro r e j;cases r with
   |nil=>exact⟨λ_=>rfl,λ_=>rfl⟩
   |cons p r=>cases e
  |cons q L ih=>intro r e j;cases r with
   |nil=>cases e
   |cons p r=>
    injection e with e1 e2;obtain⟨q1,q2⟩:=q;obtain⟨p1,p2⟩:=p;dsimp only at e1;subst e1;unfold ag kx;cases Nat.beq q1 j with
    |true=>simp
    |false=>simpa using ih e2 j
 have aMT:∀{L:aH} {r':List (Nat×Nat)},L.map (·.1)=r'.map (·.1)->(r'.map λp=>ag M p.2)=L.map (λp=>some (Dy r p.2))->∀ j x m,ag L j=some x->kx r' j=some m->ag M m=some (Dy r x):=by
  intro L;induction L with
  |nil=>intro r' _ _ j x m e;cases e
  |cons q L ih=>intro r' e e' j x m hx hm;cases r' with
   |nil=>cases e
   |cons p r'=>
    injection e with e1 e2;injection e' with e3 e4;obtain⟨q1,q2⟩:=q;obtain⟨p1,p2⟩:=p;dsimp only at e1 e3;subst e1;unfold ag at hx;unfold kx at hm;cases hb:Nat.beq q1 j with
    |true=>
     rw[hb]at hx hm;simp only[qt]at hx hm;injection hx with hx;injection hm with hm;subst hx;subst hm;exact e3
    |false=>
     rw[hb]at hx hm;simp only[uz,uA]at hx hm;exact ih e2 e4 j x m hx hm
 refine⟨qU ι r,ag L,⟨h1.defers,h1.size,λt=>?_⟩,aMS h2 po jS (hk jQ) (λj x m e hr=>⟨ay _ (j4 e),h3 m _ (aMT jQ hL j x m e hr)⟩),λk x e=>e,λk mD=>?_⟩
 ·have ba:∀{sC:aV},(sC.all λp=>tG r p.2)=true->(sC.map λp=>bC fr p.1)=(sC.map λp=>zE r p.2)->(lQ (bC sC t)=true)\/(tG r (bC sC t)=true/\bC fr t=zE r (bC sC t)):=by
   intro sC;induction sC with
   |nil=>exact λ_ _=>.inl rfl
   |cons p l ih=>
    intro ho he;rw[dG,db]at ho;injection he with e1 e2;obtain⟨p1,p2⟩:=p;rw[show bC ((p1,p2)::l) t=if Nat.beq p1 t=true then p2 else bC l t from rfl];by_cases hb:Nat.beq p1 t=true
    ·have:=j0 hb;subst this;rw[aw hb];exact .inr ⟨ho.1,e1⟩
    ·rw[ao hb];exact ih ho.2 e2
  rcases ba mC hs with h|⟨q1,q2⟩
  ·exact .inl h
  ·have sV:=h1.slot t;rw[q2]at sV;have E5:lQ (zE r (bC sC t))=false:=by
    refine aMQ r ?_;generalize bC sC t=v at *;unfold tG at q1;split at q1
    ·rfl
    ·unfold FR at q1;split at q1
     ·rfl
     ·rfl
     ·rw[db]at q1;simpa using q1.2
   exact .inr (aCG q1 (sV.As E5))
 ·refine(hk jQ k).2 ?_;cases e:kx r k with
  |none=>rfl
  |some m=>
   have:=bf.1 hn _ (U7 e);simp at this;omega
theorem Vb{f:FuncId}{fn:Func}{c:Code}{args args':aj}{M:aH}{next:Nat}{ι:Map}{cc:Nat->Option Obj}{w:World}{Q:Ending->World->Prop}
  (hf:P.funcs[f]?=some fn) (hb:fn.body=some c) (hN:N=args.length+(fn.ntmps-args.length)) (de:bI (aG ι) args args') (hm:aM B ι cc w) (ha:cS cc M) (hu:eD cc next) (mE:B.ds=[])
  (h:∀ a,St B N (jA 0 args) M next a w->c.wpIn (FW none) 0 P (bodyPost P fn Q) a w):Calls P f args'.toArray w Q:=by
 refine calls_of_wp hf hb (YU (h _ ⟨ι,cc,⟨mE.symm,by simp[hN,de.length],λt=>?_⟩,hm,ha,hu⟩));rcases MM de 0 t (List.replicate (fn.ntmps-args'.length) undef)with h|h
 ·simp only[kU,qt,GN]at h;have e:(args'.toArray++Array.replicate (fn.ntmps-args'.toArray.size) undef).getD t undef=(args'++List.replicate (fn.ntmps-args'.length) undef).getD t undef:=by simp[pQ,Ep,<-Array.getElem?_toList]
  dsimp only;rw[e];exact h
 ·exact .inl h
theorem Vc{fn:Func}{fr:aV}{M:aH}{next:Nat}{v:Value}{a:Act}{w:World}{Q:Ending->World->Prop}(h:St B N fr M next a w)(mE:B.ds=[])(hv:AM P fn fr M=some v)
  (hQ:∀ ι cc v',aM B ι cc w->cS cc M->aG ι v v'->Q (.returned v') w):bodyPost P fn Q .ret a w/\bodyPost P fn Q .normal a w:=by
 obtain⟨ι,cc,h1,h2,h3,_⟩:=h;obtain⟨v',hc,pN⟩:=ML (fn:=fn) h1 h2 h3 hv;have:=hQ ι cc v' h2 h3 hc;exact⟨⟨h1.defers.trans mE,v',pN,this⟩,⟨h1.defers.trans mE,v',pN,this⟩⟩
end
section
variable{P:Program}{B:aa}{N:Nat}
theorem aMU{o:Oper}{e size:Nat}{z:Value}(ho:AW P o=some (0,[],e,size,z))(k:Nat):cA P B o [] [(k,none)] (.slice (some ⟨k,0,some 7⟩) 0 0) [(k,.row [] e size)]:=by
 unfold AW at ho;split at ho
 ·rename_i t lE parts bN;split at ho
  ·rename_i e' ht;split at ho
   ·rename_i i hi;split at ho
    ·rename_i z' hz;injection ho with ho;injection ho with h1 ho;injection ho with h2 ho;injection ho with h3 ho;injection ho with h4 h5;subst h1;subst h3;subst h4;subst h5;refine gY.step λι c ρ w aN hm hn=>?_;have hk:c k=none:=hn _ (aT ..);have hp:parts=#[]:=by
      have:parts.toList=[]:=by simpa using h2
      exact HU.1 this
     subst hp;have uf:Map.le ι _:=gC (l:=.at w.heap.size 0 0) (hm.dr k hk);have kT:=GC (ty:=e') (size:=i.size) (cap:=0) (rest:=#[]) hm hk (.nil:bI (aG ι) [] []) (kU _) s_;refine⟨_,.slice (some ⟨w.heap.size,0,none⟩) 0 0,_,uf,.slc (o:=0) (off:=0) (fE _ _ _) (bh _) rfl,kT,.inl ?_⟩;simp only[execOp,bN];simp[Instr.buildSlice,iI ht,sizeOf,typeInfo,hi,newRow,Instr.fill,newObj,Sem.run];have e0:∀ f:Nat->Value,Array.map f (Array.range 0)=#[]:=λf=>HU.1 (by rw[Array.toList_map,Array.toList_range];rfl);rw[e0]
    ·cases ho
   ·cases ho
  ·cases ho
 ·cases ho
theorem aMV{o:Oper}{len e size:Nat}{idx:List Nat}{z:Value}(ho:AW P o=some (len,idx,e,size,z)){vs:aj}{cells:Array Value}(Ie:∀ v∈z.cells.toList,flat v=true)(Ax:0<z.cells.size)
  (CE:JU size len z (idx.zip vs)=some cells) (bA:cells.size=len*size) (yQ:0<len*size) (hle:len*size<=16777216) (k:Nat) :
  cA P B o vs [(k,none)] (.slice (some ⟨k,0,some 7⟩) len 0) [(k,.row cells.toList e size)]:=by
 unfold AW at ho;split at ho
 ·rename_i t lE parts bN;split at ho
  ·rename_i e' ht;split at ho
   ·rename_i i hi;split at ho
    ·rename_i z' hz;injection ho with ho;injection ho with h1 ho;injection ho with h2 ho;injection ho with h3 ho;injection ho with h4 h5;subst h1;subst h2;subst h3;subst h4;subst h5;refine gY.step λι c ρ w aN hm hn=>?_;have hk:c k=none:=hn _ (aT ..);rw[bN]at aN;obtain⟨cM,aCJ⟩:∃ cM,List.map ρ (parts.toList.map (·.2))=cM:=⟨_,rfl⟩;have sV:bI (aG ι) vs cM:=by rw[<-aCJ];simpa[Op.operands]using aN
     have bW:List.map (λx=>(x.fst,ρ x.snd)) parts.toList=(parts.toList.map (·.1)).zip cM:=Nh parts.toList aCJ;have h0z:bI (aG ι) ((Array.range (lE*i.size)).map (z'.cells[·%z'.cells.size]!)).toList ((Array.range (lE*i.size)).map (z'.cells[·%z'.cells.size]!)).toList:=kg λv hv=>by rw[Array.toList_map,di]at hv;obtain⟨j,_,rfl⟩:=hv;rw[BK z'.cells _ (cH _ Ax)];exact Ie _ s_
     obtain⟨cells',aMW,jc⟩:=Po (ι:=ι) (place:=λj=>some (j*i.size,i.size)) (parts.toList.map λp:Nat×Operand=>p.1) sV h0z CE;have aMX:cells'.size=lE*i.size:=by rw[<-yk,<-jc.length,yk,bA]
     have Ni:lE<=maxLen:=by have:lE<=lE*i.size:=ES _ (Nat.pos_of_mul_pos_left yQ);simp[maxLen];omega
     have uf:Map.le ι _:=gC (l:=.at w.heap.size 0 lE) (hm.dr k hk);have kT:=GC (ty:=e') (size:=i.size) (cap:=lE) (rest:=#[]) hm hk jc Ni (by simpa using aMX);refine⟨_,.slice (some ⟨w.heap.size,0,none⟩) lE lE,_,uf,.slc (o:=0) (off:=0) (fE _ _ _) (bh _) o_,kT,.inl ?_⟩;have h0:¬(lE*i.size=0):=by omega
     have h1:¬(16777216<lE*i.size):=by omega
     simp only[execOp,bN];simp[Instr.buildSlice,iI ht,sizeOf,typeInfo,hi,zeroValue,hz,h0,h1,newRow];rw[bW,aMW];simp[newObj,Sem.run]
    ·cases ho
   ·cases ho
  ·cases ho
 ·cases ho
def aX.Lc(fn:Func)(key k e size:Nat)(z:Value)(ho:AW P (av fn key)=some (0,[],e,size,z)):aX P B N:=
 .step key (av fn key) [] [(k,none)] (.slice (some ⟨k,0,some 7⟩) 0 0) [(k,.row [] e size)] (aMU ho k)
def aX.bsM(fn:Func)(key k len e size:Nat)(idx:List Nat)(z:Value)(vs:aj)(cells:Array Value)(x:Obj)(hx:Obj.row cells.toList e size=x)(Ie:∀ v∈z.cells.toList,flat v=true)(Ax:0<z.cells.size)
  (CE:JU size len z (idx.zip vs)=some cells) (bA:cells.size=len*size) (yQ:0<len*size) (hle:len*size<=16777216) (ho:AW P (av fn key)=some (len,idx,e,size,z)):aX P B N:=
 .step key (av fn key) vs [(k,none)] (.slice (some ⟨k,0,some 7⟩) len 0) [(k,x)] (by subst hx;exact aMV ho Ie Ax CE bA yQ hle k)
def aX.ap0(fn:Func)(key k m e size bytes q:Nat)(x:Obj)(new:aj)(hx:x.reads=true)(hlen:x.cells.length=m*size)(kT:x.cells=new)
  (bA:0<size) (h63:m<=maxLen) (hb:m*bytes<=140737488355328) (ho:ET P (av fn key)=some (e,size,bytes,size,true)):aX P B N:=
 .step key (av fn key) [.slice none 0 0,.slice (some ⟨q,0,some 7⟩) m 0] [(k,none),(q,some x)] (.slice (some ⟨k,0,some 7⟩) m 0) [(k,.row new e size)] (by
  subst kT;have hs:Ca B (.slice (some ⟨q,0,some 7⟩) m 0) m x.cells [(q,some x)]:=by have:=Mh (B:=B) (k:=q) (off:=0) (m:=m) (cc:=0) hx (len:=m*size) (λh=>by rw[h,lB]);rw[l5,kj (u9 hlen)]at this;exact this
  exact aIe (B:=B) ho bA hs hlen h63 hb k)
theorem aCK{f:FuncId}{l:List aP}{ty:TypeId}{size n:Nat}{xs:aj}{vs ca:aj}{nd:List (Nat×Option Obj)}{o:Oper}{x:Operand}(h:lL P f l ty size n xs)(hs:fm B l (vs++ca) nd)(ho:dp o.op=some x)(eG:gk P f=true)(hx:(xs.all flat)=true)(k:Nat):
  cA P B o (.func (.func f) #[] ca.toArray::vs) ((k,none)::nd) (.slice (some ⟨k,0,some 7⟩) n 0) [(k,.row xs ty size)]:=by
 have:=jB (P:=P) (B:=B) (o:=o) (x:=x) (f:=f) (fi:=[]) (args:=vs) (ca:=ca) (need:=(k,none)::nd) (val:=.slice (some ⟨k,0,some 7⟩) n 0) (cR:=[(k,.row xs ty size)]) ho eG ?_
 ·simpa using this
 ·intro ι c w hm hn args' ha;rw[jo]at ha;refine(h w args' (Br hs hm (λp hp=>hn p (bB _ hp)) ha)).mono ?_
  rintro e w' ⟨v,rfl,h1,h2⟩
  obtain⟨au,q1,q2,q3⟩:=EG hm h2 (k:=k) (hn (k,none) (aT ..)) h1 (bf.1 hx);exact⟨au,v,rfl,q1,q3,q2⟩
def FV(P:Program)(o:Oper):Bool:=match o.op with
 |.call c=>match c.callee,c.args.toList,c.argTypes.toList with
  |.builtin .len,[_],[t]=>(match P.underlying t with|some (.slice _)=>true|_=>false)
  |_,_,_=>false
 |_=>false
theorem Pz{o:Oper}(ho:FV P o=true):∃ x t e,o.op=.call { callee:=.builtin .len,args:=#[x],argTypes:=#[t]}/\P.underlying t=some (.slice e):=by
 unfold FV at ho;split at ho
 ·rename_i c bN;split at ho
  ·rename_i x t h1 h2 h3;split at ho
   ·rename_i e ht;refine⟨x,t,e,?_,ht⟩;rw[bN];obtain⟨ce,ar,at'⟩:=c;dsimp only at h1 h2 h3;subst h1;have e1:ar=#[x]:=by rw[<-zi (xs:=ar),h2]
    have e2:at'=#[t]:=by rw[<-zi (xs:=at'),h3]
    rw[e1,e2]
   ·cases ho
  ·cases ho
 ·cases ho
theorem aMY{o:Oper}(ho:FV P o=true){v:Value}{n:Nat}{xs:aj}(hv:flat v=true)(hB:∀ w,B.G w->cK w v n xs):cA P B o [v] [] (vI n) []:=by
 obtain⟨x,t,e,bN,ht⟩:=Pz ho;refine gY.step λι c ρ w aN hm oE=>?_;rw[bN]at aN;obtain⟨u,hu,hc⟩:=lT aN;have hu:ρ x=u:=by simpa[Op.operands,Call.operands]using hu
 have:=hc.eR hv;subst this;refine⟨ι,vI n,w,Map.le.refl _,.same rfl,hm,.inl ?_⟩;rcases hB w hm.base with ⟨q1,q2,_⟩|⟨b,o',c',q1,_⟩
 ·subst q1;simp[execOp,bN,resolve,invoke,builtin,Builtin.len_,hu,iI ht,goInt,q2,vI]
 ·subst q1;simp[execOp,bN,resolve,invoke,builtin,Builtin.len_,hu,iI ht,goInt,vI]
theorem aM.less{ι:Map}{c:Nat->Option Obj}{w:World}(hm:aM B ι c w){k s:Nat}{cells:aj}{ty:TypeId}(hk:c k=some (.row cells ty s))(m:Nat):aM B ι (aY c k (.row (cells.take m) ty s)) w:=by
 obtain⟨l,h1,h2⟩:=hm.born k _ hk;rcases h2 with ⟨h2,h3⟩|⟨b,cap,cur,e1,e2,e3,e4,e5⟩
 ·subst h3;refine hm.ext λj=>?_;unfold aY;by_cases hj:j=k
  ·rw[aw hj,hj,hk,List.take_nil]
  ·rw[ao hj]
 ·subst e1;refine hm.write hk rfl h1 (.refl w) rfl rfl (bh _) (λ_ _ _=>rfl) (.inr ⟨b,cap,cur,rfl,e2,e3,e4,?_⟩) n_ rfl;have:=e5.take m;rw[Ml]at this;rw[jL];exact this
theorem aMZ{o:Oper}{s:Nat}(ho:rL P o=some (false,true,s)){k n h m sz:Nat}{cells:aj}{ty:TypeId}(hh:h<=n):
  cA P B o [.slice (some ⟨k,0,some 7⟩) n 0,vI h] [(k,some (.row cells ty sz))] (.slice (some ⟨k,0,some 7⟩) h 0) [(k,.row (cells.take m) ty sz)]:=by
 have:=GO (B:=B) ho (k:=k) (off:=0) (n:=n) (cc:=0) (l:=0) (h:=h) (λ_=>rfl) n_ (kU _) hh (.inr rfl);have h0:cA P B o [.slice (some ⟨k,0,some 7⟩) n 0,vI h] [] (.slice (some ⟨k,0,some 7⟩) h 0) []:=by simpa using this
 intro R ι c a w hv hm hn K Q hK;refine h0 R ι c a w hv hm n_ K Q λau v' w' h1 h2 h3=>hK au v' w' h1 h2 ?_;exact aM.less h3 (hn (k,_) (aT ..)) m
def aX.cut(fn:Func)(key k n h m s sz ty:Nat)(cells new:aj)(hh:h<=n)(kT:cells.take m=new)(ho:rL P (av fn key)=some (false,true,s)):aX P B N:=
 .step key (av fn key) [.slice (some ⟨k,0,some 7⟩) n 0,vI h] [(k,some (.row cells ty sz))] (.slice (some ⟨k,0,some 7⟩) h 0) [(k,.row new ty sz)] (by subst kT;exact aMZ ho hh)
end
def qV:Code->Code|.seq a _=>a|c=>c
def mS:Code->Code|.seq _ b=>b|c=>c
def eK(fn:Func):Code:=match fn.body with|some c=>c|none=>.skip
theorem aM0(l:List Nat):ai l=eB (l.map λx:Nat=>(x:Int)):=by simp[ai,eB];intro _ _;rfl
theorem ku.snoc{w:World}{fs:List (Int×List Int)}{cs:aj}{i:Int}{l:List Int}{u:Value}(h:ku w fs cs)(hr:cK w u l.length (eB l))(hu:Go.Proofs.YtjjefbkbljlgdaaGreatDoor.flat u=true):ku w (fs++[(i,l)]) (cs++[iV i,u]):=by
 induction h with
 |nil=>exact .cons hr hu .nil
 |cons h1 h2 _ ih=>exact .cons h1 h2 ih
section
variable{P:Program}{B:aa}{N:Nat}
theorem aM.aM1{ι:Map}{c:Nat->Option Obj}{w:World}(hm:aM B ι c w){k s:Nat}{cells cells':aj}{ty:TypeId}(hk:c k=some (.row cells ty s))(hl:cells'.length=cells.length)(h:∀ bt,bI (aG ι) cells bt->bI (aG ι) cells' bt):aM B ι (aY c k (.row cells' ty s)) w:=by
 obtain⟨l,h1,h2⟩:=hm.born k _ hk;rcases h2 with ⟨h2,h3⟩|⟨b,cap,cur,e1,e2,e3,e4,e5⟩
 ·subst h3;have:cells'=[]:=lq hl;subst this;refine hm.ext λj=>?_;unfold aY;by_cases hj:j=k
  ·rw[aw hj,hj,hk]
  ·rw[ao hj]
 ·subst e1;refine hm.write hk rfl h1 (.refl w) rfl rfl (bh _) (λ_ _ _=>rfl) (.inr ⟨b,cap,cur,rfl,e2,e3,e4,?_⟩) n_ rfl;rw[hl];exact h _ e5
theorem aM2{ι:Map}{c:Nat->Option Obj}{w:World}(hm:aM B ι c w){k:Nat}{cells:aj}{ty:TypeId}(hk:c k=some (.row cells ty 1)):∃ u,aG ι (.slice (some ⟨k,0,some 7⟩) cells.length 0) u:=by
 obtain⟨l,h1,h2⟩:=hm.born k _ hk;rcases h2 with ⟨h2,h3⟩|⟨b,cap,cur,e1,e2,e3,e4,e5⟩
 ·subst h2;subst h3;exact⟨_,.slcN h1⟩
 ·subst e1;have hl:=e5.length;simp only[jL,yk,fZ]at hl e4;exact⟨_,.slc (c:=0) (c':=cap) h1 o_ o_⟩
theorem St.nil{fr:aV}{M:aH}{next:Nat}{a:Act}{w:World}(h:St B N fr M next a w)(t:Nat)(ht:bC fr t=.slice none 0 0)(ty:TypeId)(s:Nat):
  St B N ((t,.slice (some ⟨next,0,some 7⟩) 0 0)::fr) ((next,.row [] ty s)::M) (next+1) a w:=by
 obtain⟨ι,cc,h1,h2,h3,h4⟩:=h;have hn:=h4 next (bh _);have hle:Map.le ι (dB ι next .nil):=gC (h2.dr next hn);refine⟨dB ι next .nil,aY cc next (.row [] ty s),⟨h1.defers,h1.size,λt'=>?_⟩,h2.add hn (.inl ⟨rfl,rfl⟩) n_ n_ n_,λk x e=>?_,λk hk=>?_⟩
 ·have h0:=h1.slot t';rw[show bC ((t,Value.slice (some ⟨next,0,some 7⟩) 0 0)::fr) t'=if Nat.beq t t'=true then .slice (some ⟨next,0,some 7⟩) 0 0 else bC fr t' from rfl];by_cases hb:Nat.beq t t'=true
  ·rw[aw hb];have:=j0 hb;subst this;rw[ht]at h0;rw[(h0.As rfl).eR rfl];exact .inr (.slcN (fE _ _ _))
  ·rw[ao hb];exact h0.mono hle
 ·unfold ag at e;split at e
  ·rename_i hb;injection e with e;subst e;unfold aY;rw[aw (j0 hb).symm]
  ·have:=h3 k x e;have aU:k≠next:=λe'=>by subst e';rw[hn]at this;cases this
   unfold aY;rw[ao aU];exact this
 ·unfold aY;rw[ao o_];exact h4 k o_
theorem St.Py{ks:List (Value×aj)}{fr:aV}{M:aH}{next m k:Nat}{a:Act}{w:World}{xs pre:aj}{ty FX:TypeId}{v0:Value}(h:St (B.gB ks) N fr M next a w)
  (hm:ag M m=some (.row xs ty 1)) (cN:(xs.all flat)=true) (hk:ag M k=some (.row (pre++[v0,.slice (some ⟨m,0,some 7⟩) xs.length 0]) FX 2)) (hmk:m≠k) :
  ∃ u,flat u=true/\(∀ b,iF u=some b->¬B.cO b)/\St (B.gB ((u,xs)::ks)) N fr ((k,.row (pre++[v0,u]) FX 2)::(m,.dead)::M) next a w:=by
 obtain⟨ι,cc,h1,h2,h3,h4⟩:=h;obtain⟨u,hu⟩:=aM2 h2 (h3 m _ hm);obtain⟨g1,g2,g3⟩:=Go.Proofs.YtjjefbkbljlgdaaGreatDoor.Py h2 (h3 m _ hm) (bf.1 cN) hu;have wb:aY cc m .dead k=some (.row (pre++[v0,.slice (some ⟨m,0,some 7⟩) xs.length 0]) FX 2):=by unfold aY;rw[ao (λe=>hmk e.symm)];exact h3 k _ hk
 have g4:=g1.aM1 (cells':=pre++[v0,u]) wb s_ λbt hc=>by
  have hl:(pre++[v0,Value.slice (some ⟨m,0,some 7⟩) xs.length 0]).length=bt.length:=hc.length;have c1:=hc.take (pre.length+1);have c2:=hc.drop (pre.length+1);rw[iJ]at hl;have e1:(pre++[v0,Value.slice (some ⟨m,0,some 7⟩) xs.length 0]).take (pre.length+1)=pre++[v0]:=by rw[aB6];simp[kj]
  have e2:(pre++[v0,Value.slice (some ⟨m,0,some 7⟩) xs.length 0]).drop (pre.length+1)=[.slice (some ⟨m,0,some 7⟩) xs.length 0]:=by rw[List.drop_append];simp[List.drop_eq_nil_of_le]
  rw[e1]at c1;rw[e2]at c2;obtain⟨x,hx,hxc⟩:=lT c2;have:=Jy hxc hu;subst this;rw[<-Ik (pre.length+1) bt,hx,show pre++[v0,x]=(pre++[v0])++[x]by simp];exact c1.append (.cons (.same g2) .nil)
 refine⟨u,g2,g3,ι,_,⟨h1.defers,h1.size,h1.slot⟩,g4,λj x e=>?_,λj hj=>?_⟩
 ·unfold ag at e;split at e
  ·rename_i hb;injection e with e;subst e;unfold aY;rw[aw (j0 hb).symm]
  ·rename_i hb;have bL:j≠k:=λe'=>hb (by rw[e'];exact EA k);unfold ag at e;split at e
   ·rename_i gw;injection e with e;subst e;unfold aY;rw[ao bL,aw (j0 gw).symm]
   ·rename_i gw;have hjm:j≠m:=λe'=>gw (by rw[e'];exact EA m);unfold aY;rw[ao bL,ao hjm];exact h3 j x e
 ·have mD:k<next:=by
   rcases eC k next with h|h
   ·exact h
   ·have:=h4 k h;rw[h3 k _ hk]at this;cases this
  have cT:m<next:=by
   rcases eC m next with h|h
   ·exact h
   ·have:=h4 m h;rw[h3 m _ hm]at this;cases this
  unfold aY;rw[ao o_,ao o_];exact h4 j hj
def aCL(P:Program)(f:FuncId)(l:List aP)(F:Fact):Prop:=
 ∀ w vs,r7 w l vs->Calls P f vs.toArray w λe w'=>∃ v,e=.returned v/\De w' v F/\(∀ b,F.cO v w' b->w.heap.size<=b)/\Below w.heap.size w w'
end
def Fact.jJ(F:Fact)(S:Nat):Fact where
 G v w:=F.G v w/\∀ b,F.cO v w b->S<=b
 cO:=F.cO
 lt v w k h hk:=F.lt v w k h.1 hk
 dep v w w' h hs hk:=by obtain⟨h1,h2⟩:=F.dep v w w' h.1 hs hk;exact⟨⟨h1,λb hb=>h.2 b (h2 b hb)⟩,h2⟩
 rc:=F.rc
 soft hr v w w' h hs hk:=by obtain⟨h1,h2⟩:=F.soft hr v w w' h.1 hs hk;exact⟨⟨h1,λb hb=>h.2 b (h2 b hb)⟩,h2⟩
section
variable{P:Program}{B:aa}{N:Nat}
theorem aM3{f:FuncId}{l:List aP}{F:Fact}{vs:aj}{nd:List (Nat×Option Obj)}{o:Oper}{x:Operand}{S:Nat}(h:aCL P f l F)(hs:fm B l vs nd)(ho:dp o.op=some x)(eG:gk P f=true)(wC:F.rc=false)(hS:∀ w,B.G w->S<=w.heap.size)(k:Nat):
  cA P B o (.func (.func f) #[] #[]::vs) ((k,none)::nd) (.pointer (some ⟨k,0,some 9⟩)) [(k,.fact (F.jJ S))]:=by
 have:=jB (P:=P) (B:=B) (o:=o) (x:=x) (f:=f) (fi:=[]) (args:=vs) (ca:=[]) (need:=(k,none)::nd) (val:=.pointer (some ⟨k,0,some 9⟩)) (cR:=[(k,.fact (F.jJ S))]) ho eG ?_
 ·simpa using this
 ·intro ι c w hm hn args' ha;rw[jo,iY]at ha;refine(h w args' (Br hs hm (λp hp=>hn p (bB _ hp)) ha)).mono ?_
  rintro e w' ⟨v,rfl,⟨h1,h2,h3⟩,h4,h5⟩
  have Ld:=hS w hm.base;refine⟨dB ι k (.val v),v,rfl,gC (hm.dr k (hn (k,none) (aT ..))),.opq (fE _ _ _) h2 h3,hm.new h5 (hn (k,none) (aT ..)) ⟨v,rfl,h1,λb hb=>dh Ld (h4 b hb)⟩ n_ (λF' v' b e1 e2 hF=>?_) rfl λF' e hr=>?_⟩
  ·injection e1 with e1;subst e1;injection e2 with e2;subst e2;exact .inl (h4 b hF)
  ·injection e with e;subst e;have:F.rc=true:=hr;rw[wC]at this;cases this
structure aM4(w w':World)(kO s1 n1:Nat)(iC:aj)(uT s2 n2:Nat)(jg:aj)(F:Fact)(v1 v2 v3:Value):Prop where
 r1:w'.ownsRow w.heap.size kO s1 v1 n1 iC
 r2:w'.ownsRow w.heap.size uT s2 v2 n2 jg
 r3:De w' v3 F
 f3:∀ b,F.cO v3 w' b->w.heap.size<=b
 a12:∀ b,iF v1=some b->iF v2≠some b
 PA:∀ b,iF v1=some b->¬F.cO v3 w' b
 a23:∀ b,iF v2=some b->¬F.cO v3 w' b
def tH(P:Program)(f:FuncId)(l:List aP)(kO s1 n1:Nat)(iC:aj)(uT s2 n2:Nat)(jg:aj)(F:Fact)(us:aj):Prop:=
 ∀ w vs,r7 w l vs->Calls P f vs.toArray w λe w'=>∃ v1 v2 v3,e=.returned (.tuple (.agg #[v1,v2,v3]::us).toArray)/\aM4 w w' kO s1 n1 iC uT s2 n2 jg F v1 v2 v3/\Below w.heap.size w w'
theorem Il{ι:Map}{c:Nat->Option Obj}{w:World}(hm:aM B ι c w){k n cc b:Nat}{v:Value}(hc:aG ι (.slice (some ⟨k,0,some 7⟩) n cc) v)(hb:iF v=some b):∃ o cap,ι k=some (.at b o cap):=by
 rcases hc.gW rfl with ⟨_,_,_,_,q5⟩|⟨b',oo,cap,c',q1,_,_,q5⟩
 ·rw[q5]at hb;cases hb
 ·rw[q5]at hb;injection hb with hb;subst hb;exact⟨oo,cap,q1⟩
theorem PB{f:FuncId}{fn:Func}{l:List aP}{kO s1 n1 uT s2 n2 k1 k2 k3:Nat}{iC jg us:aj}{F:Fact}(gv:P.follows .mixedOrders=true)(hf:P.funcs[f]?=some fn)(hl:(l.all aP.ok)=true)(n:Nat){N:Nat}(hN:N=(eL 0 l).length+(fn.ntmps-(eL 0 l).length))
  (rs:∀ w,bE P (aa.at w) N) (h:∀ w,nt (fQ (P:=P) fn n (eL 0 l) (jt 0 l) (jG 0 l) (rs w)) [(k1,.row iC kO s1),(k2,.row jg uT s2),(k3,.fact (F.jJ w.heap.size))] =
   nu (fQ fn n (eL 0 l) (jt 0 l) (jG 0 l) (rs w)) (.tuple (.agg #[.slice (some ⟨k1,0,some 7⟩) n1 0,.slice (some ⟨k2,0,some 7⟩) n2 0,.pointer (some ⟨k3,0,some 9⟩)]::us).toArray) [(k1,.row iC kO s1),(k2,.row jg uT s2),(k3,.fact (F.jJ w.heap.size))])
  (Uz:k1≠k2) (uD:(iC.all flat)=true) (u7:iC.length=n1*s1) (gN:(jg.all flat)=true) (jw:jg.length=n2*s2) (hu:(us.all flat)=true):tH P f l kO s1 n1 iC uT s2 n2 jg F us:=by
 intro w vs ct;obtain⟨ι,c,h1,h2,h3,h4,h5,h6,h7⟩:=vK ct (bf.1 hl) 0 _ _ (qB w) n_ (λ_ _=>rfl);refine rJ gv hf hN n (h w) h6 h2 h4 h3 λau bY v' w' hle hc hm dz=>?_;obtain⟨cM,rfl,pP⟩:=hc.ub;have hc:bI (aG au) (.agg #[.slice (some ⟨k1,0,some 7⟩) n1 0,.slice (some ⟨k2,0,some 7⟩) n2 0,.pointer (some ⟨k3,0,some 9⟩)]::us) cM.toList:=pP;cases aN:cM.toList with
 |nil=>rw[aN]at hc;cases hc
 |cons a t=>
  rw[aN]at hc;cases hc with
  |cons ha ht=>
   obtain⟨ags,rfl,hJ⟩:=ha.Jf;have Fq:bI (aG au) [.slice (some ⟨k1,0,some 7⟩) n1 0,.slice (some ⟨k2,0,some 7⟩) n2 0,.pointer (some ⟨k3,0,some 9⟩)] ags.toList:=hJ;obtain⟨v1,v2,v3,e3,c1,c2,c3⟩:=Jl Fq;have et:=nj ht (bf.1 hu);have g1:=dz (k1,_) (aT ..);have g2:=dz (k2,_) (bB _ (aT ..));have g3:=dz (k3,_) (bB _ (bB _ (aT ..)));have o1:=vo hm g1 c1 o_ (bf.1 uD);have o2:=vo hm g2 c2 o_ (bf.1 gN);rw[<-u7,nI]at o1;rw[<-jw,nI]at o2;have o3:=Bq hm g3 c3;have aCM:au k3=some (.val v3):=by
    obtain⟨lc,q1,u,q2,q3⟩:=hm.born k3 _ g3;subst q2;generalize hp:Value.pointer (some ⟨k3,0,some 9⟩)=p at c3;cases c3 with
    |same h=>subst hp;cases h
    |ptr h=>injection hp with hp;injection hp with hp;injection hp with _ _ hp;cases hp
    |slc h=>cases hp
    |slcN h=>cases hp
    |opq h4 h5 h6=>injection hp with hp;injection hp with hp;injection hp with gZ;subst gZ;exact h4
    |fn=>cases hp
    |agg=>cases hp
    |tup=>cases hp
   refine⟨v1,v2,v3,?_,⟨o1,o2,⟨o3.1.1,o3.2⟩,o3.1.2,λb pR gw=>?_,λb hb hF=>?_,λb hb hF=>?_⟩,hm.base⟩
   ·congr 2
    rw[<-zi (xs:=cM),aN,et]
    congr 2
    congr 1
    rw[<-zi (xs:=ags),e3]
   ·obtain⟨o,cap,q1⟩:=Il hm c1 pR;obtain⟨o',aO,q2⟩:=Il hm c2 gw;exact Uz (hm.inj k1 k2 _ _ b o cap o' aO g1 rfl g2 rfl q1 q2)
   ·obtain⟨o,cap,q1⟩:=Il hm c1 hb;exact hm.apart k1 k3 _ _ b o cap v3 g1 rfl q1 g3 aCM hF
   ·obtain⟨o,cap,q1⟩:=Il hm c2 hb;exact hm.apart k2 k3 _ _ b o cap v3 g2 rfl q1 g3 aCM hF
theorem Vd{ι:Map}{c:Nat->Option Obj}{w':World}{S k n s:Nat}{ty:TypeId}{v:Value}{xs:aj}(hm:aM B ι c w')(hk:c k=none)(hr:w'.ownsRow S ty s v n xs)(cN:(xs.all flat)=true)(hB:∀ b,B.cO b->b<S)
  (hold:∀ j y b o cap,c j=some y->ι j=some (.at b o cap)->y.owns=true\/y.gj=true->iF v≠some b) (aM5:∀ j F u b,c j=some (.fact F)->ι j=some (.val u)->iF v=some b->¬F.cO u w' b) :
  ∃ au,Map.le ι au/\aM B au (aY c k (.row xs ty s)) w'/\aG au (.slice (some ⟨k,0,some 7⟩) n 0) v/\∀ b o cap,au k=some (.at b o cap)->iF v=some b:=by
 have hle:∀ l,Map.le ι (dB ι k l):=λl=>gC (hm.dr k hk);rcases hr.2 with ⟨h1,h2⟩|⟨g,cap,cur,h1,h2,h3,h4,h5,h6,h7⟩
 ·have hl:=hr.1;rw[h2,lB]at hl;have hx:xs=[]:=lq hl;subst h1;subst h2;subst hx;exact⟨dB ι k .nil,hle _,hm.add hk (.inl ⟨rfl,rfl⟩) n_ n_ n_,.slcN (fE _ _ _),λb o cap e=>by rw[fE]at e;cases e⟩
 ·subst h1;refine⟨dB ι k (.at g 0 cap),hle _,hm.add hk (.inr ⟨g,cap,cur,rfl,h3,h5,h6,?_⟩) (λb1 o1 lS _ e=>?_) n_ n_,.slc (o:=0) (off:=0) (fE _ _ _) h4 o_,λb1 o1 lS e=>?_⟩
  ·rw[hr.1,h7];exact kg (bf.1 cN)
  ·injection e with e;subst e;refine⟨(yx.1 h3).1,λhF=>by have:=hB _ hF;omega,λj y o' aO hj hy he=>hold j y g o' aO hj he (.inl hy) rfl,λj F u hj hu hF=>aM5 j F u g hj hu rfl hF,λj y o' aO hj hy he=>hold j y g o' aO hj he (.inr hy) rfl⟩
  ·rw[fE]at e;injection e with e;injection e with e;subst e;rfl
theorem Dz{f:FuncId}{l:List aP}{kO s1 n1 uT s2 n2:Nat}{iC jg:aj}{F:Fact}{us vs:aj}{nd:List (Nat×Option Obj)}{o:Oper}{x:Operand}{S:Nat}(h:tH P f l kO s1 n1 iC uT s2 n2 jg F us)(hs:fm B l vs nd)(ho:dp o.op=some x)(eG:gk P f=true)(wC:F.rc=false)
  (f1:(iC.all flat)=true) (f2:(jg.all flat)=true) (fu:(us.all flat)=true) (hS:∀ w,B.G w->S<=w.heap.size) (k:Nat) :
  cA P B o (.func (.func f) #[] #[]::vs) ((k,none)::(k+1,none)::(k+2,none)::nd) (.tuple (.agg #[.slice (some ⟨k,0,some 7⟩) n1 0,.slice (some ⟨k+1,0,some 7⟩) n2 0,.pointer (some ⟨k+2,0,some 9⟩)]::us).toArray)
   [(k+2,.fact (F.jJ S)),(k+1,.row jg uT s2),(k,.row iC kO s1)]:=by
 have:=jB (P:=P) (B:=B) (o:=o) (x:=x) (f:=f) (fi:=[]) (args:=vs) (ca:=[]) (need:=(k,none)::(k+1,none)::(k+2,none)::nd)
  (val:=.tuple (.agg #[.slice (some ⟨k,0,some 7⟩) n1 0,.slice (some ⟨k+1,0,some 7⟩) n2 0,.pointer (some ⟨k+2,0,some 9⟩)]::us).toArray) (cR:=[(k+2,.fact (F.jJ S)),(k+1,.row jg uT s2),(k,.row iC kO s1)]) ho eG ?_
 ·simpa using this
 ·intro ι c w hm hn args' ha;rw[jo,iY]at ha;have k0:c k=none:=hn (k,none) s_;have k1:c (k+1)=none:=hn (k+1,none) s_;have k2:c (k+2)=none:=hn (k+2,none) s_;refine(h w args' (Br hs hm (λp hp=>hn p (by simp[hp])) ha)).mono ?_
  rintro e w' ⟨v1,v2,v3,rfl,⟨r1,r2,r3,f3,a12,PA,a23⟩,hb⟩
  have Ld:=hS w hm.base;have uU:=hm.call hb
  -- where aUV lie
  have cV:∀ j y b o cap,c j=some y->ι j=some (.at b o cap)->y.owns=true\/y.gj=true->b<w.heap.size:=λj y b o cap hj hl hy=>by
   rcases hy with hy|hy
   ·exact(hm.own j y b o cap hj hy hl).1
   ·exact(hm.seen j y b o cap hj hy hl).1
  have PC:∀ j F u b,c j=some (.fact F)->ι j=some (.val u)->F.cO u w' b->b<w.heap.size:=λj F u b hj hu hF=>by have hF:=hm.B7 hj hu hb.size (λk hk _=>hb.block k hk) hF;obtain⟨l,q1,q2⟩:=hm.born j _ hj;rw[hu]at q1;injection q1 with q1;exact q2.wB q1.symm hF
  have Le:∀ b,iF v1=some b->w.heap.size<=b:=λb hb=>by
   rcases r1.2 with ⟨h1,_⟩|⟨g,cap,cur,h1,h2,_⟩
   ·rw[h1]at hb;cases hb
   ·rw[h1]at hb;injection hb with hb;subst hb;exact h2
  have aCN:∀ b,iF v2=some b->w.heap.size<=b:=λb hb=>by
   rcases r2.2 with ⟨h1,_⟩|⟨g,cap,cur,h1,h2,_⟩
   ·rw[h1]at hb;cases hb
   ·rw[h1]at hb;injection hb with hb;subst hb;exact h2
  have PD:∀ b,B.cO b->b<w.heap.size:=λb hF=>B.lt w b hm.base hF;obtain⟨bM,l1,m1,c1,p1⟩:=Vd uU k0 r1 f1 PD (λj y b o cap hj hl hy e=>by have a:=cV j y b o cap hj hl hy;have b:=Le b e;omega) (λj F u b hj hu e hF=>by have a:=PC j F u b hj hu hF;have b:=Le b e;omega);have bn:∀{ι:Map} {c:Nat->Option Obj},aM B ι c w'->∀ j y,c j=some y->∃ l,ι j=some l:=λh j y hj=>by obtain⟨l,q,_⟩:=h.born j y hj;exact⟨l,q⟩
  have back:∀{ι bM:Map} {c:Nat->Option Obj},aM B ι c w'->Map.le ι bM->∀ j y l,c j=some y->bM j=some l->ι j=some l:=λh hle j y l hj hl=>by obtain⟨l',cg⟩:=bn h j y hj;have:=hle j l' cg;rw[hl]at this;injection this with this;rw[this];exact cg
  have PE:aY c k (.row iC kO s1) (k+1)=none:=by unfold aY;rw[ao o_];exact k1
  have Lf:∀ j y,aY c k (.row iC kO s1) j=some y->(j=k/\y=.row iC kO s1)\/(j≠k/\c j=some y):=λj y hj=>by
   unfold aY at hj;by_cases bL:j=k
   ·rw[aw bL]at hj;injection hj with hj;exact .inl ⟨bL,hj.symm⟩
   ·rw[ao bL]at hj;exact .inr ⟨bL,hj⟩
  obtain⟨dC,l2,m2,c2,p2⟩:=Vd m1 PE r2 f2 PD (λj y b o cap hj hl hy e=>by
   rcases Lf j y hj with ⟨rfl,rfl⟩|⟨_,hj⟩
   ·exact a12 b (p1 b o cap hl) e
   ·have a:=cV j y b o cap hj (back uU l1 j y _ hj hl) hy;have b:=aCN b e;omega) (λj F u b hj hu e hF=>by
   rcases Lf j _ hj with ⟨_,h⟩|⟨_,hj⟩
   ·cases h
   ·have a:=PC j F u b hj (back uU l1 j _ _ hj hu) hF;have b:=aCN b e;omega)
  have k2':aY (aY c k (.row iC kO s1)) (k+1) (.row jg uT s2) (k+2)=none:=by unfold aY;rw[ao o_,ao o_];exact k2
  have m3:aM B (dB dC (k+2) (.val v3)) (aY (aY (aY c k (.row iC kO s1)) (k+1) (.row jg uT s2)) (k+2) (.fact (F.jJ S))) w':=
   m2.add k2' ⟨v3,rfl,r3.1,λb hF=>dh Ld (f3 b hF)⟩ n_ (λF' v b e1 e2 hF j y o' aO hj hy he=>by
    injection e1 with e1;subst e1;injection e2 with e2;subst e2;have hF:F.cO v3 w' b:=hF;have A2:=hj;unfold aY at hj;by_cases bL:j=k+1
    ·subst bL;exact a23 b (p2 b o' aO he) hF
    ·rw[ao bL]at hj;have he1:=back m1 l2 j y _ hj he;rcases Lf j y hj with ⟨rfl,rfl⟩|⟨_,hj⟩
     ·exact PA b (p1 b o' aO he1) hF
     ·have h1:=cV j y b o' aO hj (back uU l1 j y _ hj he1) (.inl hy);have h2:=f3 b hF;omega) n_ λF' e hr=>by
    injection e with e;subst e;have:F.rc=true:=hr;rw[wC]at this;cases this
  have l3:Map.le dC (dB dC (k+2) (.val v3)):=gC (m2.dr _ k2');refine⟨_,_,rfl,l1.trans (l2.trans l3),.tup ?_,m3⟩;refine .cons (.agg (.cons (c1.mono (l2.trans l3)) (.cons (c2.mono l3) (.cons (.opq (fE _ _ _) r3.2.1 r3.2.2) .nil)))) (kg λv hv=>bf.1 fu v hv)
end
def lR(ι au:Map)(ns:List Nat):Map:=λk=>if ns.contains k then au k else ι k
def inN(ns:List Nat):Value->Bool
 |.slice (some ad) _ _=>nh ad&&ns.contains ad.block
 |.pointer (some ad)=>nh ad&&ns.contains ad.block
 |_=>false
def xF(K:Nat)(ns:List Nat)(v:Value):Bool:=nr K v||inN ns v
theorem aCO{K:Nat}{ns:List Nat}{v:Value}(h:flat v=true):xF K ns v=true:=by unfold xF;rw[iK h];rfl
theorem aCP{K:Nat}{ns:List Nat}{ι au:Map}(dq:∀ k,k<K->∀ lc,au k=some lc->ι k=some lc){v v':Value}(ay:xF K ns v=true)(h:aG au v v'):aG (lR ι au ns) v v':=by
 unfold xF at ay;rw[um]at ay;rcases ay with ay|ay
 ·refine h.low (λk hk l e=>?_) ay;unfold lR;by_cases hc:ns.contains k=true
  ·rw[aw hc];exact e
  ·rw[ao hc];exact dq k hk l e
 ·have key:∀{k:Nat} {l:o9},ns.contains k=true->au k=some l->lR ι au ns k=some l:=λhk e=>by unfold lR;rw[aw hk];exact e
  unfold inN at ay;split at ay
  ·rename_i ad n c;rw[db]at ay;obtain⟨bl,off,sp⟩:=ad;have zF:=Je ay.1;have ct:=ay.2;dsimp only at zF ct;subst zF;rcases h.gW rfl with ⟨q1,q2,q3,q4,q5⟩|⟨b,oo,cap,c',q1,q2,q3,q5⟩
   ·dsimp only at q1 q4;rw[q5,q2,q3,q4];exact .slcN (key ct q1)
   ·dsimp only at q1 q5;rw[q5];exact .slc (key ct q1) q2 q3
  ·rename_i ad;rw[db]at ay;obtain⟨bl,off,sp⟩:=ad;have zF:=Je ay.1;have ct:=ay.2;dsimp only at zF ct;subst zF;obtain⟨b,o,cap,q1,q2⟩:=h.yg rfl;dsimp only at q1 q2;rw[q2];exact .ptr (key ct q1)
  ·cases ay
theorem PF{K:Nat}{ns:List Nat}{ι au:Map}(dq:∀ k,k<K->∀ lc,au k=some lc->ι k=some lc):∀{l l':aj},(∀ v∈l,xF K ns v=true)->bI (aG au) l l'->bI (aG (lR ι au ns)) l l'
 |_,_,_,.nil=>.nil
 |_,_,ay,.cons h1 h2=>.cons (aCP dq (ay _ (aT ..)) h1) (PF dq (λv hv=>ay v (bB _ hv)) h2)
theorem aM6{K:Nat}{ns:List Nat}{ι au:Map}(dq:∀ k,k<K->∀ lc,au k=some lc->ι k=some lc){x:Obj}(ay:∀ v∈x.cells,xF K ns v=true){w:World}{l:o9}(h:jv au w l x):jv (lR ι au ns) w l x:=by
 cases x with
 |aI cells ty=>obtain⟨b,bt,e1,e2,e3⟩:=h;exact⟨b,bt,e1,PF dq ay e2,e3⟩
 |row cells ty size=>
  rcases h with h|⟨b,cap,cur,e1,e2,e3,e4,e5⟩
  ·exact .inl h
  ·exact .inr ⟨b,cap,cur,e1,e2,e3,e4,PF dq ay e5⟩
 |view cells=>
  rcases h with h|⟨b,o,cap,cs,e1,e2,e3⟩
  ·exact .inl h
  ·exact .inr ⟨b,o,cap,cs,e1,PF dq ay e2,e3⟩
 |fact F=>exact h
 |dead=>trivial
section
variable{P:Program}{B:aa}{w w4:World}{K:Nat}{S:Nat->Prop}{ι:Map}{c:Nat->Option Obj}{ns:List Nat}
theorem aM7(h:aM B ι c w){Os cq:aH}(hO:cS c Os)(dH:∀ k x,ag Os k=some x->x.owns=true)(qK:∀ k x,ag cq k=some x->x.owns=true\/x=.dead)
  (jQ:∀ k,ag cq k=none↔(ag Os k=none/\ns.contains k=false)) (Ek:∀ k,ns.contains k=true->c k=none) (hS:∀ b,S b->∃ k x o cap,ag Os k=some x/\ι k=some (.at b o cap))
  {au:Map} {c':Nat->Option Obj} (hm:aM (aa.KV w S) au c' w4) (r6:cS c' cq) (dq:∀ k,k<K->∀ lc,au k=some lc->ι k=some lc) (ay:∀ k x,ag cq k=some x->∀ v∈x.cells,xF K ns v=true)
  (mD:∀ k x,ag Os k=some x->k<K):Map.le ι (lR ι au ns)/\aM B (lR ι au ns) (ll c cq) w4:=by
 have hle:Map.le ι (lR ι au ns):=λk l e=>by
  unfold lR;by_cases hc:ns.contains k=true
  ·rw[h.dr k (Ek k hc)]at e;cases e
  ·rw[ao hc];exact e
 have bA:w.heap.size<=w4.heap.size:=hm.base.2.2.2.1;have aI:∀ b,b<w.heap.size->¬S b->w4.heap[b]?=w.heap[b]?:=hm.base.2.2.2.2;have KW:∀ b,S b->¬B.cO b:=λb hb=>by obtain⟨k,x,o,cap,e1,e2⟩:=hS b hb;exact(h.own k x b o cap (hO k x e1) (dH k x e1) e2).2
 have cV:∀ k,ns.contains k=false->lR ι au ns k=ι k:=λk e=>by unfold lR;rw[e];rfl
 have kinds:∀ k x,ll c cq k=some x->(ag cq k=some x/\c' k=some x/\(x.owns=true\/x=.dead))\/(ag Os k=none/\ns.contains k=false/\c k=some x):=λk x e=>by
  rw[vi]at e;cases ho:ag cq k with
  |some y=>rw[ho]at e;injection e with e;subst e;exact .inl ⟨rfl,r6 k y ho,qK k y ho⟩
  |none=>rw[ho]at e;exact .inr ⟨((jQ k).1 ho).1,((jQ k).1 ho).2,e⟩
 have same:∀ k x,ag cq k=some x->lR ι au ns k=au k:=λk x e=>by
  unfold lR;by_cases hc:ns.contains k=true
  ·rw[aw hc]
  ·rw[ao hc];obtain⟨lc,q,_⟩:=hm.born k x (r6 k x e);have:ag Os k≠none:=λhn=>by have:=(jQ k).2 ⟨hn,by simpa using hc⟩;rw[e]at this;cases this
   cases hk:ag Os k with
   |none=>exact absurd hk this
   |some y=>rw[q,dq k (mD k y hk) lc q]
 have C8:∀ k x b o cap,ag Os k=none->c k=some x->x.owns=true->ι k=some (.at b o cap)->¬S b:=λk x b o cap hn hc hx hl hs=>by obtain⟨k',x',o',aO,e1,e2⟩:=hS b hs;have:=h.inj k k' x x' b o cap o' aO hc hx (hO k' x' e1) (dH k' x' e1) hl e2;subst this;rw[hn]at e1;cases e1
 have C9:∀ k x b o cap,c k=some x->x.gj=true->ι k=some (.at b o cap)->¬S b:=λk x b o cap hc hx hl hs=>by obtain⟨k',x',o',aO,e1,e2⟩:=hS b hs;exact(h.seen k x b o cap hc hx hl).2 k' x' o' aO (hO k' x' e1) (dH k' x' e1) e2
 have xt:∀ k F v b,c k=some (.fact F)->ι k=some (.val v)->F.cO v w b->¬S b:=λk F v b hc hl hF hs=>by obtain⟨k',x',o',aO,e1,e2⟩:=hS b hs;exact h.apart k' k x' F b o' aO v (hO k' x' e1) (dH k' x' e1) e2 hc hl hF
 have part:∀ k x b o cap j y o' aO,ag cq k=some x->x.owns=true->lR ι au ns k=some (.at b o cap)->ag Os j=none->c j=some y->y.owns=true->ι j=some (.at b o' aO)->False:=λk x b o cap j y o' aO hk hx hl hj hc hy cg=>by
  rcases eC b w.heap.size with al|dM
  ·have q:=(hm.own k x b o cap (r6 k x hk) hx (by rw[<-same k x hk];exact hl)).2;exact q ⟨al,C8 j y b o' aO hj hc hy cg⟩
  ·have:=(h.own j y b o' aO hc hy cg).1;omega
 refine⟨hle,B.dep w w4 h.base hm.base.1 hm.base.2.1 hm.base.2.2.1 bA λk hk=>aI k (B.lt w k h.base hk) λhs=>KW k hs hk,?_,?_,?_,?_,?_,?_,?_,?_,h.oC.trans hle⟩
 ·intro k hk;rw[vi]at hk;cases ho:ag cq k with
  |some y=>rw[ho]at hk;cases hk
  |none=>
   rw[ho]at hk;rw[cV k ((jQ k).1 ho).2];exact h.dr k hk
 ·intro k x hk;rcases kinds k x hk with ⟨h1,h2,h3⟩|⟨h1,hc,h2⟩
  ·obtain⟨lc,q1,q2⟩:=hm.born k x h2;exact⟨lc,by rw[same k x h1];exact q1,aM6 dq (ay k x h1) q2⟩
  ·obtain⟨lc,q1,q2⟩:=h.born k x h2;refine⟨lc,by rw[cV k hc];exact q1,(q2.mono hle).gB bA (λb o cap hx e=>?_) λF v b e1 e2 hF=>?_⟩
   ·subst e;rcases hx with hx|hx
    ·exact aI b (h.own k x b o cap h2 hx q1).1 (C8 k x b o cap h1 h2 hx q1)
    ·exact aI b (h.seen k x b o cap h2 hx q1).1 (C9 k x b o cap h2 hx q1)
   ·subst e1;subst e2;exact aI b (q2.wB rfl hF) (xt k F v b h2 q1 hF)
 ·intro k x b o cap hk hx hl;rcases kinds k x hk with ⟨h1,h2,h3⟩|⟨h1,hc,h2⟩
  ·have cg:au k=some (.at b o cap):=by rw[<-same k x h1];exact hl
   obtain⟨q1,q2⟩:=hm.own k x b o cap h2 hx cg;refine⟨q1,λhF=>?_⟩;have fK:=B.lt w b h.base hF;exact q2 ⟨fK,λhs=>KW b hs hF⟩
  ·rw[cV k hc]at hl;obtain⟨q1,q2⟩:=h.own k x b o cap h2 hx hl;exact⟨cx q1 bA,q2⟩
 ·intro k j x y b o cap o' aO hk hx hj hy hl cg;rcases kinds k x hk with ⟨h1,h2,h3⟩|⟨h1,hc,h2⟩
  ·rcases kinds j y hj with ⟨p1,p2,p3⟩|⟨p1,ki,p2⟩
   ·exact hm.inj k j x y b o cap o' aO h2 hx p2 hy (by rw[<-same k x h1];exact hl) (by rw[<-same j y p1];exact cg)
   ·rw[cV j ki]at cg;exact(part k x b o cap j y o' aO h1 hx hl p1 p2 hy cg).elim
  ·rw[cV k hc]at hl;rcases kinds j y hj with ⟨p1,p2,p3⟩|⟨p1,ki,p2⟩
   ·exact(part j y b o' aO k x o cap p1 hy cg h1 h2 hx hl).elim
   ·rw[cV j ki]at cg;exact h.inj k j x y b o cap o' aO h2 hx p2 hy hl cg
 ·intro k j x F b o cap v hk hx hl hj hv hF;rcases kinds j _ hj with ⟨_,_,p3⟩|⟨p1,pC,p2⟩
  ·rcases p3 with p3|p3<;>cases p3
  rw[cV j pC]at hv;have hF:=h.B7 p2 hv bA (λk2 fF iG=>aI k2 fF (xt j F v k2 p2 hv iG)) hF;rcases kinds k x hk with ⟨h1,h2,h3⟩|⟨h1,hc,h2⟩
  ·have cg:au k=some (.at b o cap):=by rw[<-same k x h1];exact hl
   have hb:b<w.heap.size:=by obtain⟨lc,q1,q2⟩:=h.born j _ p2;rw[hv]at q1;injection q1 with q1;subst q1;exact q2.wB rfl hF
   exact(hm.own k x b o cap h2 hx cg).2 ⟨hb,xt j F v b p2 hv hF⟩
  ·rw[cV k hc]at hl;exact h.apart k j x F b o cap v h2 hx hl p2 hv hF
 ·intro k x b o cap hk hx hl;rcases kinds k x hk with ⟨h1,h2,h3⟩|⟨h1,hc,h2⟩
  ·rcases h3 with h3|h3
   ·cases x<;>simp[Obj.owns,Obj.gj]at h3 hx
   ·subst h3;cases hx
  ·rw[cV k hc]at hl;obtain⟨q1,q2⟩:=h.seen k x b o cap h2 hx hl;refine⟨cx q1 bA,λj y o' aO hj hy cg=>?_⟩;rcases kinds j y hj with ⟨p1,p2,p3⟩|⟨p1,ki,p2⟩
   ·have jw:au j=some (.at b o' aO):=by rw[<-same j y p1];exact cg
    exact(hm.own j y b o' aO p2 hy jw).2 ⟨q1,C9 k x b o cap h2 hx hl⟩
   ·rw[cV j ki]at cg;exact q2 j y o' aO p2 hy cg
 ·intro j F hj;rcases kinds j _ hj with ⟨_,_,h3⟩|⟨h1,_,h2⟩
  ·rcases h3 with h3|h3<;>cases h3
  ·exact h.fa j F h2
 ·intro j k F F' hj hk;rcases kinds j _ hj with ⟨_,_,h3⟩|⟨_,_,h2⟩
  ·rcases h3 with h3|h3<;>cases h3
  rcases kinds k _ hk with ⟨_,_,h3⟩|⟨_,_,vB⟩
  ·rcases h3 with h3|h3<;>cases h3
  exact h.one j k F F' h2 vB
theorem aM8{f:FuncId}{o:Oper}{x:Operand}{args ca:aj}{Os Vs cq:aH}{val:Value}(h:xz P f K (args++ca) Os Vs val cq)(ho:dp o.op=some x)(eG:gk P f=true)(nA:xF K ns val=true)
  (de:(args++ca).all (nr K)=true) (dq:((Os++Vs).all λp=>Nat.blt p.1 K&&oq K p)=true) (ay:∀ p∈cq,∀ v∈p.2.cells,xF K ns v=true) (dH:(Os.all λp=>p.2.owns)=true) (qK:∀ p∈cq,p.2.owns=true\/p.2=.dead) (pa:(Vs.all λp=>p.2.gj)=true)
  (jQ:∀ k,ag cq k=none↔(ag Os k=none/\ns.contains k=false)) :
  cA P B o (.func (.func f) #[] ca.toArray::args) (((Os++Vs).map λp=>(p.1,some p.2))++ns.map λk=>(k,none)) val cq:=by
 have:=jB (P:=P) (B:=B) (o:=o) (x:=x) (f:=f) (fi:=[]) (args:=args) (ca:=ca) (need:=((Os++Vs).map λp=>(p.1,some p.2))++ns.map λk=>(k,none)) (val:=val) (cR:=cq) ho eG ?_
 ·simpa using this
 ·intro ι c w hm hn args' ha;rw[jo]at ha;have hL:cS c (Os++Vs):=Om λp hp=>hn p (dY.2 (.inl hp));have Mm:∀ k,ns.contains k=true->c k=none:=λk hk=>hn (k,none) (dY.2 (.inr (di.2 ⟨k,by simpa using hk,rfl⟩)));have KX:∀ k x,ag (Os++Vs) k=some x->k<K/\fP K x:=λk x e=>by have:=nH dq e;simp only[db,AF]at this;exact⟨this.1,Dc this.2⟩
  obtain⟨S,hS,Ky,Kz,uI⟩:=aB3 hm hL KX (λk x e=>nH dH e) (λk x e=>nH pa e);have bZ:bI (aG (vG ι K)) (args++ca) args':=by
   have key:∀{l l':aj},bI (aG ι) l l'->(∀ v∈l,nr K v=true)->bI (aG (vG ι K)) l l':=by
    intro l l' h hl;induction h with
    |nil=>exact .nil
    |cons h t ih=>exact .cons (h.low (λk hk l e=>by rw[xq hk];exact e) (hl _ (aT ..))) (ih λc hc=>hl c (bB _ hc))
   exact key ha (bf.1 de)
  refine(h (aa.KV w S) rfl _ _ w args' Ky Kz uI bZ).mono ?_
  rintro e w' ⟨v',au,c',rfl,hle,hc,bj,r6,gD⟩
  have Fs:=aB4 hm hL bj hle gD;obtain⟨g1,g2⟩:=aM7 (ns:=ns) hm (λk x e=>hL k x (by rw[gM,e])) (λk x e=>nH dH e) (λk x e=>qK _ (j4 e)) jQ Mm hS bj r6 Fs (λk x e=>ay _ (j4 e)) λk x e=>(KX k x (by rw[gM,e])).1;exact⟨_,v',rfl,g1,aCP Fs nA hc,g2⟩
end
section
variable{P:Program}{B:aa}{N:Nat}
def aX.sD(key i j p:Nat)(h:p=i*j)(hp:p<9223372036854775808):aX P B N:=
 .rw key (.int .i64 (IntKind.i64.wrap ((i:Int)*(j:Int)))) (vI p) (by
  have e:((i:Int)*(j:Int))=((i*j:Nat):Int):=by simp
  rw[e,<-h];have e:IntKind.i64.wrap (p:Int)=(p:Int):=by rw[c8];omega
  rw[e];rfl)
def aX.FY(key a b r:Nat)(h:r=a%b):aX P B N:=
 .rw key (.int .i64 (Int.tmod (a:Int) (b:Int))) (vI r) (by rw[yP o_,h];rfl)
def aX.FZ(key a b q:Nat)(h:q=a/b)(ha:a<9223372036854775808):aX P B N:=
 .rw key (.int .i64 (IntKind.i64.wrap (Int.tdiv (a:Int) (b:Int)))) (vI q) (by
  rw[yO o_,h];have e:((a:Int)/(b:Int))=((a/b:Nat):Int):=by simp
  have hq:a/b<=a:=th _ _;rw[e];have e:IntKind.i64.wrap ((a/b:Nat):Int)=((a/b:Nat):Int):=by rw[c8];omega
  rw[e];rfl)
theorem Lg{f:FuncId}{fn:Func}{l:List aP}{ty:TypeId}{size m:Nat}{xs cells:aj}{k:Nat}(gv:P.follows .mixedOrders=true)(hf:P.funcs[f]?=some fn)(hl:(l.all aP.ok)=true)(n:Nat){N:Nat}(hN:N=(eL 0 l).length+(fn.ntmps-(eL 0 l).length))
  (rs:∀ w,bE P (aa.at w) N) (h:∀ w,nt (fQ (P:=P) fn n (eL 0 l) (jt 0 l) (jG 0 l) (rs w)) [(k,.row cells ty size)]=nu (fQ fn n (eL 0 l) (jt 0 l) (jG 0 l) (rs w)) (.slice (some ⟨k,0,some 7⟩) m 0) [(k,.row cells ty size)])
  (hx:(cells.all flat)=true) (hlen:m*size<=cells.length) (kM:cells.take (m*size)=xs):lL P f l ty size m xs:=by
 intro w vs ct;obtain⟨ι,c,h1,h2,h3,h4,h5,h6,h7⟩:=vK ct (bf.1 hl) 0 _ _ (qB w) n_ (λ_ _=>rfl);refine rJ gv hf hN n (h w) h6 h2 h4 h3 λau bY v' w' hle hc hm dz=>⟨v',rfl,?_,hm.base⟩;have:=vo hm (dz (k,_) (aT ..)) hc hlen (bf.1 hx);rwa[kM]at this
end
theorem BL{n a:Nat}(h:a<bz^n):(ai (ae bz n a)).take (nd bz a*1)=cJ a:=by have hle:=jd (B:=bz) d_ h;unfold cJ ai;rw[fZ,<-Co,JE hle]
theorem F0{n a:Nat}(h:a<bz^n):nd bz a*1<=(ai (ae bz n a)).length:=by have hle:=jd (B:=bz) d_ h;rw[lM,oI];omega
theorem Im(a:Nat):(ju a).ok=true:=sB a
theorem Io:(16777216:Nat)=256^3:=by decide
theorem aM9{a i:Nat}:(a%256^i/bz^(i/3)%bz)+(a/256^i%256*2^(8*(i%3)))=a%256^(i+1)/bz^(i/3)%bz:=by
 have e1:bz^(i/3)=256^(3*(i/3)):=by rw[show bz=256^3 from Io,<-rO]
 have e2:(2:Nat)^(8*(i%3))=256^(i%3):=by rw[rO]
 have e3:256^i=256^(3*(i/3))*256^(i%3):=by rw[<-ep];congr 1;omega
 have hr:256^(i%3)*256<=bz:=by rw[show bz=256^3 from Io,<-dw];exact cY d_ o_
 rw[e1,e2];have m1:a%256^i/256^(3*(i/3))=a/256^(3*(i/3))%256^(i%3):=by rw[e3,AU]
 have m2:a%256^(i+1)/256^(3*(i/3))=a/256^(3*(i/3))%(256^(i%3)*256):=by rw[dw,e3,fG,AU]
 have m3:a/256^i%256=a/256^(3*(i/3))/256^(i%3)%256:=by rw[e3,kB]
 rw[m1,m2,m3];generalize a/256^(3*(i/3))=c;have hp:0<256^(i%3):=cG d_;have h1:=cH c hp;have h3:c%(256^(i%3)*256)=c%256^(i%3)+256^(i%3)*(c/256^(i%3)%256):=MU;have h4:c%(256^(i%3)*256)<256^(i%3)*256:=cH _ o_;rw[dF (cx h4 hr),h3,dF (cx h1 (dh (ES _ d_) hr)),cP (c/256^(i%3)%256)]
theorem aNa{a i j:Nat}(h:j≠i/3):a%256^i/bz^j%bz=a%256^(i+1)/bz^j%bz:=by
 have e1:bz^j=256^(3*j):=by rw[show bz=256^3 from Io,<-rO]
 rw[e1];rcases Et h with h1|h1
 ·have k:∀ i,3*j+3<=i->a%256^i/256^(3*j)%bz=a/256^(3*j)%bz:=by
   intro i hi;have e3:256^i=256^(3*j)*(bz*256^(i-3*j-3)):=by rw[show bz=256^3 from Io,<-ep,<-ep];congr 1;omega
   rw[e3,AU,JP]
  rw[k i o_,k (i+1) o_]
 ·have hp:∀ i,i<=3*j->a%256^i/256^(3*j)=0:=by intro i hi;exact l4 (cx (cH _ (cG d_)) (cY d_ hi))
  rw[hp i o_,hp (i+1) o_]
theorem aNb{a i n:Nat}(hi:i/3<n):(ae bz n (a%256^i)).set (i/3) (a%256^(i+1)/bz^(i/3)%bz)=ae bz n (a%256^(i+1)):=by
 apply wQ
 ·simp[ae]
 ·intro j h1 h2;simp only[ae,ek,yB]at h2;rw[GR];simp only[ae,Cp,Cq];by_cases hj:i/3=j
  ·rw[aw hj,hj]
  ·rw[ao hj];exact aNa (mA hj)
section
variable{Bs:aa}{N a:Nat}{s:ByteArray}
def aVc(s:ByteArray)(N i:Nat):aV:=[(4,vI i),(0,.string s),(3,sl 0 N)]
def aVw(N a i:Nat):aH:=[(0,.row (ai (ae bz N (a%256^i))) 3 1)]
theorem aNc{i:Nat}(hN:N=(s.size+2)/3)(ha:a=km s)(hi:i<s.size)(h63:s.size<35184372088832):
  ah prog Bs 38 (aE (af f93 0)) (aVc s N i) (aVw N a i) 1 ⟨.normal,aVc s N (i+1),aVw N a (i+1),1⟩:=by
 obtain⟨c,gm,dj⟩:=Sn s hi;rw[<-ha]at dj;have wY:i/3<N:=by omega
 have hb:=aM9 (a:=a) (i:=i);have h1:a%256^(i+1)/bz^(i/3)%bz<bz:=aMC;have h3:c.toNat*2^(8*(i%3))<=bz:=by rw[dj];omega
 have bJ:=v8 (l:=ae bz N (a%256^i)) (i:=i/3) (d:=a%256^(i+1)/bz^(i/3)%bz) (by rw[oI];exact wY);rw[aNb wY]at bJ;have hg:(ae bz N (a%256^i))[i/3]?=some (a%256^i/bz^(i/3)%bz):=eg wY;have uV:IntKind.i64.wrap ((c.toNat:Int)*2^(min (8*(i%3)) IntKind.i64.bits))=((c.toNat*2^(8*(i%3)):Nat):Int):=by
  have e:(c.toNat:Int)*2^(8*(i%3))=((c.toNat*2^(8*(i%3)):Nat):Int):=by simp
  rw[show min (8*(i%3)) IntKind.i64.bits=8*(i%3)from nV (show 8*(i%3)<=64 by omega),c8,e];unfold bz at h3;omega
 rw[<-dj]at hb;unfold aVw;generalize ai (ae bz N (a%256^(i+1)))=r1 at *;generalize oh:ai (ae bz N (a%256^i))=r0 at *;have iX:=dJ hg;rw[oh]at iX;generalize a%256^i/bz^(i/3)%bz=x at *;generalize a%256^(i+1)/bz^(i/3)%bz=y at *;generalize hp:c.toNat*2^(8*(i%3))=p at *;exact aA [.rw 13 (.int .i64 (s.size:Int)) (vI s.size) rfl,.lt 14 i s.size true (aB hi),.rw 18 (.int .i64 (s.size:Int)) (vI s.size) rfl,.eV 19 s.size 1 (s.size-1) o_ o_,.eV 21 (s.size-1) i (s.size-1-i) o_ o_,.FZ 24 i 3 (i/3) rfl o_,.ix f93 25 0 N (i/3) wY k_,.ld f93 26 3 0 (i/3) (.row r0 3 1) (vI x) rfl iX k_,.sx f93 29 s (s.size-1-i) c gm k_,.wr 30 .i64 (c.toNat:Int) (c.toNat:Int) (by rw[c8];have:=c.toNat_lt;omega),.FY 32 i 3 (i%3) rfl,.sD 33 8 (i%3) (8*(i%3)) rfl o_,.shl f93 34 .i64 (c.toNat:Int) (p:Int) (8*(i%3)) uV k_,.sum 35 x p y hb.symm (by unfold bz at h1;omega),.ix f93 36 0 N (i/3) wY k_,.st f93 100036 3 0 (i/3) (.row r0 3 1) (vI y) (.row r1 3 1) rfl bJ rfl k_,.sum 16 i 1 (i+1) rfl o_]
theorem aNd(hN:N=(s.size+2)/3)(ha:a=km s)(h63:s.size<35184372088832):
  ah prog Bs 38 (.block 0 (af f93 0)) (aVc s N 0) (aVw N a 0) 1 ⟨.normal,[(3,sl 0 N)],aVw N a s.size,1⟩:=
 bO (id:=0) (ch (b:=aE (af f93 0)) (r:=⟨.exit 0,[(3,sl 0 N)],aVw N a s.size,1⟩) s.size (aVc s N) (aVw N a)
  (λi k _=>jP (l:=aVw N a i) (m:=aVw N a 0) rfl k) (λi hi=>aNc hN ha hi h63) (aA [.rw 13 (.int .i64 (s.size:Int)) (vI s.size) rfl,.lt 14 s.size s.size false s_]) n_)
end
theorem aNe{s:ByteArray}(h63:s.size<35184372088832):lL prog 93 [.p (.string s)] 3 1 ((s.size+2)/3) (ai (ae bz ((s.size+2)/3) (km s))):=by
 have lo:=λBs=>aNd (Bs:=Bs) (N:=(s.size+2)/3) (a:=km s) rfl rfl h63;have h0:ai (ae bz ((s.size+2)/3) (km s%256^0))=List.replicate ((s.size+2)/3) (vI 0):=by
  rw[rN,tf,K8]
  congr 1
  unfold ae;rw[List.eq_replicate_iff];simp
 have h1:km s%256^s.size=km s:=dF (Zl s);unfold aVw at lo;rw[h0,h1]at lo;have fl:=gV (ae bz ((s.size+2)/3) (km s));have hl:(ai (ae bz ((s.size+2)/3) (km s))).length=(s.size+2)/3*1:=by rw[lM,oI];omega
 generalize ai (ae bz ((s.size+2)/3) (km s))=r1 at *;exact zg (k:=0) mixed func93 k_ 100 (N:=38) k_ (λ_=>[.rw 7 (.int .i64 (s.size:Int)) (vI s.size) rfl,.sum 8 s.size 2 (s.size+2) rfl o_,.FZ 9 (s.size+2) 3 ((s.size+2)/3) rfl o_,.pS f93 10 0 ((s.size+2)/3) 3 8 (vI 0) (List.replicate ((s.size+2)/3) (vI 0)) rfl rfl rfl o_ (by simp[maxLen];omega) k_,.code 0 _ _ _ _ _ (lo _)]) (λ_=>k_) fl hl
section
variable{P:Program}{B:aa}{N:Nat}
def aX.next(fn:Func)(key k z n s:Nat)(h0:0<n)(ho:rL P (av fn key)=some (true,false,s)):aX P B N:=
 .step key (av fn key) [.slice (some ⟨k,z*s,some 7⟩) (n+1) z,vI 1] [] (.slice (some ⟨k,(z+1)*s,some 7⟩) n (z+1)) [] (by have:=GO (B:=B) ho (k:=k) (off:=z*s) (n:=n+1) (cc:=z) (l:=1) (h:=n+1) n_ (λ_=>rfl) o_ (bh _) (.inl o_);rw[<-ft,Nq]at this;simpa using this)
theorem aNf{o:Oper}{s:Nat}(ho:rL P o=some (true,false,s)){k off n cc:Nat}{x:Obj}(hx:x.owns=true)(j:Nat):
  cA P B o [.slice (some ⟨k,off,some 7⟩) n cc,vI n] [(j,none),(k,some x)] (.slice (some ⟨j,0,some 7⟩) 0 0) [(j,.view []),(k,.dead)]:=by
 unfold rL at ho;split at ho
 ·rename_i t y lo hi bN;split at ho
  ·rename_i e ht;split at ho
   ·rename_i i hY;injection ho with ho;injection ho with h1 ho;injection ho with h2 h3;cases lo with
    |none=>cases h1
    |some yl=>
    cases hi with
    |some yh=>cases h2
    |none=>
    refine gY.step λι c ρ w aN hm hn=>?_;have hj:c j=none:=hn (j,none) s_;have hk:c k=some x:=hn (k,some x) s_;rw[bN]at aN;obtain⟨u,u2,hu,hc,dj⟩:=jx aN;have dK:ρ y=u:=by simp[Op.operands]at hu;exact hu.1
    have fq:ρ yl=u2:=by simp[Op.operands]at hu;exact hu.2
    have dj:=dj.eR rfl;have GD:=hm.kill k (by rw[hk];exact n_);have iu:aY c k .dead j=none:=by unfold aY;rw[ao (λe=>by subst e;rw[hj]at hk;cases hk)];exact hj
    have Lh:∀ y code,n<=y->(Instr.sliceBound (.int .i64 n) y code).run P w=.ok n w:=by intro y code hq;have:(0:Int)<=n/\(n:Int)<=y:=⟨by omega,by omega⟩;simp[Instr.sliceBound,asIntOf,this]
    rcases hc.gW rfl with ⟨hb,kh,pP,yo,he⟩|⟨b,oo,cap,c',hb,lp,mz,he⟩
    ·refine⟨dB ι j .nil,.slice none 0 0,w,gC (hm.dr j hj),.slcN (fE _ _ _),GD.add iu (.inl ⟨rfl,rfl⟩) n_ n_ n_,.inl ?_⟩;subst kh;have kF:∀ code,(Instr.sliceBound (.int .i64 0) 0 code).run P w=.ok 0 w:=λcode=>by simp[Instr.sliceBound,asIntOf]
     simp only[execOp,bN];simp[Instr.sliceAt,iI ht,Instr.slice,dK,fq,dj,he,vI,Instr.sliceBounds,kF,sizeOf,typeInfo,hY]
    ·dsimp only at hb he;obtain⟨o1,xa⟩:∃ o1,o1=(if c'=n then oo+off else oo+off+n*i.size):=⟨_,rfl⟩;have fK:=hm.own k x b oo cap hk hx hb;refine⟨dB ι j (.at b o1 (c'-n)),.slice (some ⟨b,o1+0,none⟩) 0 (c'-n),w,gC (hm.dr j hj),.slc (fE _ _ _) (kU _) (jZ _),GD.add iu (.inr ⟨b,o1,c'-n,[],rfl,.nil,λj u h=>by simp at h⟩) n_ n_ (λb1 o2 lS _ e=>?_),.inl ?_⟩
     ·injection e with e1 e2 e3;subst e1;refine⟨fK.1,λq y o' aO hq hy Ay=>?_⟩;unfold aY at hq;by_cases wH:q=k
      ·rw[aw wH]at hq;injection hq with hq;subst hq;cases hy
      ·rw[ao wH]at hq;exact wH (hm.inj q k y x b o' aO oo cap hq hy hk hx Ay hb)
     ·simp only[execOp,bN];by_cases iH:c'=n
      ·rw[aw iH]at xa;subst xa;subst iH;simp[Instr.sliceAt,iI ht,Instr.slice,dK,fq,dj,he,vI,Instr.sliceBounds,Lh c' _ (bh _),sizeOf,typeInfo,hY]
      ·rw[ao iH]at xa;subst xa;simp[Instr.sliceAt,iI ht,Instr.slice,dK,fq,dj,he,vI,Instr.sliceBounds,Lh n _ (bh _),sizeOf,typeInfo,hY,iH,Aw]
   ·cases ho
  ·cases ho
 ·cases ho
def aX.aNg(fn:Func)(key k off n cc s j:Nat)(x:Obj)(hx:x.owns=true)(ho:rL P (av fn key)=some (true,false,s)):aX P B N:=
 .step key (av fn key) [.slice (some ⟨k,off,some 7⟩) n cc,vI n] [(j,none),(k,some x)] (.slice (some ⟨j,0,some 7⟩) 0 0) [(j,.view []),(k,.dead)] (aNf ho hx j)
def aX.aNh(fn:Func)(key k off n cc:Nat)(l:List UInt8)(x:Obj)(hx:x.reads=true)(hc:(x.cells.drop off).take n=gG l)(hn:l.length=n)(ho:Nn P (av fn key)=true):aX P B N:=
 .step key (av fn key) [.slice (some ⟨k,off,some 7⟩) n cc] [(k,some x)] (.string (BA l)) [] (by
  unfold Nn at ho;split at ho
  ·rename_i src dst y bN;split at ho
   ·rename_i e hs hd;split at ho
    ·rename_i he;have:=X4 (P:=P) (B:=B) bN hs he hd (k:=k) (off:=off) (n:=n) (cc:=cc) (y:=x) (ns:=l.map λc=>(c.toNat:Int)) hx (by rw[hc];simp[gG,Function.comp_def]) (by simpa using hn)
     have e2:=ZI l [];rw[jo]at e2;rw[show ByteArray.empty=BA []from rfl,e2]at this;exact this.step
    ·cases ho
   ·cases ho
  ·cases ho)
end
end Go.Proofs.YtjjefbkbljlgdaaGreatDoor
